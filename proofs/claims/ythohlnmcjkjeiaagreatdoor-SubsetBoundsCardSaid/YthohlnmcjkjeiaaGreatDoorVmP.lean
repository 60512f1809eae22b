/- Seat 8, subset: sets of places, as bytes in a block: none, add, join. Conditions: none but those named. -/
import Derived.Test.YthohlnmcjkjeiaaGreatDoorVmJ
namespace Go.Proofs.YthohlnmcjkjeiaaGreatDoor
open Go.Proofs.Tryz
set_option maxRecDepth 100000
open Go Go.Vm
variable{gl:Gl}
def ey(e:aD):Bool:=eg e || Nat.beq e mC
def QN:bO:=[28,30,73,74,108,109,110,111,112,113,114,148,149,150,151,188]
structure GS(gl:Gl):Prop where
 uq:gl.uq=ey
 fq:∀n f args H,(QN.any (Nat.beq f))=true->gl.fq n f args H=none
 hk:∀f args,(QN.any (Nat.beq f))=true->gl.hk f args=none
theorem yO{n0 t:Nat}{es:aP}{H:Hp}(h:n0<t):zX n0 es t H=⟨H.az,H.bJ++es⟩:=by
 unfold zX;have:Nat.ble t n0=false:=by
  cases hb:Nat.ble t n0 with
  | false=>rfl
  | true=>have:=rA hb;omega
 rw[this];rfl
theorem T_{bs:List bq}{es:aP}{b:Nat}{x:bq}:zX bs.length es 0 ⟨bs.set b x,[]⟩=⟨bs.set b x,es⟩:=by
 have:=zY (bs:=bs.set b x) (ls:=[]) (es:=es) (t:=0) (dP _)
 rwa [nk,bI] at this
theorem IC:prog.underlying 205=some (.slice 5):=by kernel_rfl
theorem FH:z4 prog 5=some 1:=by kernel_rfl
theorem sW:qG prog 5=some false:=by kernel_rfl
theorem z5':qL prog 5=some (.int .u8 0):=by kernel_rfl
theorem in5:∃i,prog.info? 5=some i/\i.bytes=1:=⟨_,rfl,rfl⟩
theorem zeW{v:V}:∀{k:Nat},(List.replicate k [v]).flatten=List.replicate k v
 | 0=>rfl
 | k+1=>by rw[G3,List.flatten_cons,zeW,G3];rfl
theorem xx(hg:GS gl){n k:Nat}(hk:k<2 ^ 40){bs:List bq}{es:aP}:zj prog gl (n+1) 108 [.int .i64 (k:Nat)] ⟨bs,es⟩=some (.ret (.sr bs.length 0 (k / 8+1) (k / 8+1)),⟨bs++[.cells (dL (k / 8+1) 0) 5],es⟩):=by
 suffices bR:(go ⟨prog,gl,zj prog gl n,ey⟩ n (Fx prog f108.results.toList λw H1=>w=.sr bs.length 0 (k / 8+1) (k / 8+1)/\H1=⟨bs++[.cells (dL (k / 8+1) 0) 5],[]⟩) [.c (f108.body.getD .skip)] .normal ⟨[.int .i64 (k:Nat)]++List.replicate 6 (.bx []),⟨bs,[]⟩,[],[]⟩) by
  obtain⟨w,H1,h0,rfl,rfl⟩:=zO (gl:=gl) (f:=108) (bs:=bs) (es:=es) (args:=[.int .i64 (k:Nat)]) (n:=n) (hg.hk _ _ (by decide)) (λH=>hg.fq _ _ _ _ (by decide)) func108 rfl (by rw[hg.uq];exact bR)
  rw[h0,yO (by simp[V.top])]
  rfl
 obtain⟨i,Mb,Mc⟩:=in5;simp only[f108,gm,zi];refine zh ?_;simp only[BA,aj,aq,bY];simp only[List.replicate];refine zh ?_
 simp only[BA,ak,aj,aq,zd,ze,bX,bY,zg3 (show k<2 ^ 60 by omega),qn (show k / 8<2 ^ 60 by omega)]
 rw[WG (k:=k / 8+1) IC FH z5' rfl Mb (by decide) rfl rfl rfl rfl (by rw[Mc];exact j9 (by omega) (by omega)) (by omega)]
 simp only[BA,aq,zc,zd,ze,bX,bY,zg1];simp only[go_ret,zp,Fx]
 refine⟨trivial,[.sr bs.length 0 (k / 8+1) (k / 8+1)],?_,rfl,?_⟩
 ·simp only[zy,zd,ze]
 ·show Hp.mk _ _=_;rw[zlN,<- zeW];rfl
theorem Y1{b i m:Nat}(h:i<m):zt prog 205 (.sr b 0 m m) ((i:Nat):Int)=some (.ptr b i):=by
 simp only[zt,IC,FH];rw[if_pos (by omega)]
 simp
theorem zqa{b i m p:Nat}(h:i<m):wr [] b i 1 ((dL m p).drop i)=true:=yx λk hk=>by
 obtain rfl:k=0:=by omega
 exact⟨_,by rw[om,vO h],rfl⟩
theorem Y2(hg:GS gl){n k m p b:Nat}(hk:k<2 ^ 40)(hm:k / 8<m){bs:List bq}{es:aP}(hb:nth bs b=some (.cells (dL m p) 5)) :
  zj prog gl (n+1) 109 [.sr b 0 m m,.int .i64 (k:Nat)] ⟨bs,es⟩=some (.ret (.bx []),⟨bs.set b (.cells (dL m (p ||| 2 ^ k)) 5),es⟩):=by
 suffices bR:(go ⟨prog,gl,zj prog gl n,ey⟩ n (Fx prog f109.results.toList λw H1=>w=.bx []/\H1=⟨bs.set b (.cells (dL m (p ||| 2 ^ k)) 5),[]⟩) [.c (f109.body.getD .skip)] .normal ⟨[.sr b 0 m m,.int .i64 (k:Nat)]++List.replicate 12 (.bx []),⟨bs,[]⟩,[],[]⟩) by
  obtain⟨w,H1,h0,rfl,rfl⟩:=zO (gl:=gl) (f:=109) (bs:=bs) (es:=es) (args:=[.sr b 0 m m,.int .i64 (k:Nat)]) (n:=n) (hg.hk _ _ (by decide)) (λH=>hg.fq _ _ _ _ (by decide)) func109 rfl (by rw[hg.uq];exact bR)
  rw[h0,show(V.bx []).top=0 from rfl,T_]
 have E_:(⟨bs,[]⟩:Hp).get b=some (.cells (dL m p) 5):=hb;have gy:zk prog ⟨bs,[]⟩ gl.g 5 (.ptr b (k / 8))=some (.int .u8 (o6 p (k / 8):Nat)):=zr sW E_ (by rw[zg];exact vO hm)
 simp only[f109,gm];refine jo (tk:=[]) (by kernel_rfl) (by kernel_rfl) ?_
 simp only[List.replicate];simp only[BA,ak,aj,aq,aF,au,zd,ze,bX,bY,Np,Y1 hm,zg3 (show k<2 ^ 60 by omega),zlQ,zlR (show k % 8<8 by omega),gy,sW,zjk vH (W0 (show k % 8<8 by omega))]
 rw[zA FH E_ rfl rfl (by simp[yY];omega) (zqa hm)]
 simp only[bB,aq,V.laid,Vm.storeCells,zp,Fx]
 rw[jV (by simp[V.top])]
 refine⟨trivial,[],rfl,rfl,?_⟩;rw[znK,znM];rfl
theorem Y3{p q i j:Nat}(h:i<=j):o6 (p ||| q % 2 ^ (8 * i)) j=o6 p j :=
 (Pz vH λk hk=>by
  rw[wU hk,BR,Nat.testBit_mod_two_pow];have:¬(8 * j+k<8 * i):=by omega
  simp[this]).symm
theorem Y4{p q i j:Nat}(h:j<i):o6 (p ||| q % 2 ^ (8 * i)) j=o6 (p ||| q) j :=
 (Pz vH λk hk=>by
  rw[wU hk,BR,BR,Nat.testBit_mod_two_pow];have:8 * j+k<8 * i:=by omega
  simp[this]).symm
theorem zod{m p q i:Nat}(_h:i<m):(dL m (p ||| q % 2 ^ (8 * i))).set i (.int .u8 ((o6 p i ||| o6 q i:Nat):Int))=dL m (p ||| q % 2 ^ (8 * (i+1))):=by
 refine W1 (by rw[bI,yY]) λj hj=>?_
 rw[List.getElem?_set']
 by_cases e:i=j
 ·subst e;simp[vO hj,zpe,Y4 (Ko i)]
 ·simp only[e,bD,vO hj];rcases eY j i with h1|h1
  ·rw[Y4 h1,Y4 (by omega)]
  ·rw[Y3 h1,Y3 (by omega)]
theorem Y5{H:Hp}{b o l c:Nat}:qW prog H 205 (.sr b o l c)=some (l:Int):=by simp only[qW,IC]
theorem zkE(hg:GS gl){n m p q b c:Nat}(hm:m<2 ^ 40)(hq:q<2 ^ (8 * m))(cK:c≠b){bs:List bq}{es:aP}(hb:nth bs b=some (.cells (dL m p) 5))(hc:nth bs c=some (.cells (dL m q) 5))(hn:m<n) :
  zj prog gl (n+1) 151 [.sr b 0 m m,.sr c 0 m m] ⟨bs,es⟩=some (.ret (.bx []),⟨bs.set b (.cells (dL m (p ||| q)) 5),es⟩):=by
 suffices bR:(go ⟨prog,gl,zj prog gl n,ey⟩ n (Fx prog f151.results.toList λw H1=>w=.bx []/\H1=⟨bs.set b (.cells (dL m (p ||| q)) 5),[]⟩) [.c (f151.body.getD .skip)] .normal ⟨[.sr b 0 m m,.sr c 0 m m]++List.replicate 19 (.bx []),⟨bs,[]⟩,[],[]⟩) by
  obtain⟨w,H1,h0,rfl,rfl⟩:=zO (gl:=gl) (f:=151) (bs:=bs) (es:=es) (args:=[.sr b 0 m m,.sr c 0 m m]) (n:=n) (hg.hk _ _ (by decide)) (λH=>hg.fq _ _ _ _ (by decide)) func151 rfl (by rw[hg.uq];exact bR)
  rw[h0,show(V.bx []).top=0 from rfl,T_]
 simp only[f151,gm,zi];refine zh ?_;simp only[List.replicate];simp only[BA,ak,aj,aq,zd,ze,bX,bY,Np,Y5]
 let Hi:Nat->Hp:=λi=>⟨bs.set b (.cells (dL m (p ||| q % 2 ^ (8 * i))) 5),[]⟩
 refine qx (λk s=>∃i env,k+i=m/\s=⟨env,Hi i,[],[]⟩/\env.length=21/\nth env 0=some (.sr b 0 m m)/\nth env 1=some (.sr c 0 m m)/\nth env 6=some (.int .i64 (m:Nat))/\nth env 7=some (.int .i64 (i:Nat))) m (by omega) ?_ ?_
 ·have DT:Hi 0=⟨bs,[]⟩:=by
   simp only[Hi,Nat.mul_zero,Nat.pow_zero,Nat.mod_one,Nat.or_zero];rw[jZ hb]
  refine⟨0,_,rfl,by rw[DT],?_,?_,?_,?_,?_⟩<;>rfl
 rintro k s ⟨i,env,A9,rfl,hlen,h0,h1,h6,h7⟩;simp only[zi];refine zh ?_;simp only[BA,ak,aq,za,Nat.reduceLT,h6,h7,hlen,qV]
 by_cases hi:i<m
 ·refine .inl ⟨by simp;omega,?_⟩
  refine zh ?_;simp only[BA,Nat.reduceEqDiff,ak,aq,za,bI,Nat.reduceLT,bD,h7,hlen];refine jo (tk:=[]) (by kernel_rfl) (by kernel_rfl) ?_
  have E_:(Hi i).get b=some (.cells (dL m (p ||| q % 2 ^ (8 * i))) 5):=by
   have bW:b<bs.length:=by rw[zg] at hb;exact(dA.1 hb).1
   show nth (bs.set b _) b=_;rw[zg,tc,if_pos rfl,if_pos bW]
  have hgc:(Hi i).get c=some (.cells (dL m q) 5):=by
   show nth (bs.set b _) c=_;rw[zg,tc,if_neg (Ne.symm cK),<- zg,hc]
  have gy:zk prog (Hi i) gl.g 5 (.ptr b i)=some (.int .u8 (o6 p i:Nat)):=zr sW E_ (by rw[zg,vO hi,Y3 (dB _)])
  have Fa:zk prog (Hi i) gl.g 5 (.ptr c i)=some (.int .u8 (o6 q i:Nat)):=zr sW hgc (by rw[zg,vO hi])
  simp only[BA,Nat.reduceEqDiff,ak,aq,aF,au,za,bI,Nat.reduceLT,bD,h0,h1,hlen,Np,Y1 hi,sW,gy,Fa,zjk vH vH];rw[zA FH E_ rfl rfl (by simp[yY];omega) (zqa hi)]
  simp only[bB,aq,V.laid,Vm.storeCells]
  rw[jV (by simp[V.top]),zod hi]
  have hH:(Hi i).set b (.cells (dL m (p ||| q % 2 ^ (8 * (i+1)))) 5)=Hi (i+1):=by simp only[Hi,Hp.set,List.set_set]
  rw[hH];refine zh ?_;simp only[BA,Nat.reduceEqDiff,ak,aj,aq,za,bI,Nat.reduceLT,bD,h7,hlen,qn (show i<2 ^ 60 by omega),zp,aO]
  refine⟨m - 1 - i,by omega,i+1,_,by omega,rfl,?_,?_,?_,?_,?_⟩<;>simp[za,hlen,h0,h1,h6]
 ·obtain rfl:i=m:=by omega
  refine .inr ⟨by simp,?_⟩
  simp only[qk,zN,zD,zp,bN,iV,aI,Fx]
  refine⟨trivial,[],rfl,rfl,?_⟩;simp only[Hi,EJ hq]
end Go.Proofs.YthohlnmcjkjeiaaGreatDoor
namespace Go.Vm
set_option maxRecDepth 100000
open Go
def Y6(cx:Cx)(H:Hp)(lk:aP)(df:bS)(env:aG):cj->Option aG->Option (OR×St)
 | some fv,some l=>aC lk df env (cx.mB (bg fv) l H)
 | _,_=>none
theorem wG{cx:Cx}{H:Hp}{lk:aP}{df:bS}{env:aG}{fv:V}{l:aG}:Y6 cx H lk df env (some fv) (some l)=aC lk df env (cx.mB (bg fv) l H):=rfl
theorem yP{cx:Cx}{takes:cw}{dst:fz}{type:aD}{pos:String}{after:Array Edge}{guard:oq}{env:aG}{H:Hp}{lk:aP}{df:bS}{t:Tmp}{args:rT}{ts:Array aD} :
  cx.op takes ⟨dst,.call ⟨.value (.tmp t),args,ts⟩,type,pos,after,guard⟩ env H lk df=Y6 cx H lk df env (nth env t) (av env args.toList):=by
 simp only[Cx.op,ak];cases nth env t with
 | none=>rfl
 | some fv=>cases av env args.toList with
  | none=>rfl
  | some l=>simp only[Y6,aC];cases cx.mB (bg fv) l H with
   | none=>rfl
   | some q=>obtain⟨a,b⟩:=q;rfl
end Go.Vm
namespace Go.Proofs.YthohlnmcjkjeiaaGreatDoor
open Go Go.Vm
open Go.Proofs.Tryz
set_option maxRecDepth 100000
section
variable{gl:Gl}
theorem T':prog.underlying 9=some .string:=by kernel_rfl
theorem Y7:prog.underlying 5=some (.int .u8):=by kernel_rfl
theorem u3':prog.underlying 3=some (.int .i64):=by kernel_rfl
theorem zoe(hg:GS gl){n v:Nat}(hv:v<256)(h0:v≠0){H:Hp}:zj prog gl (n+1) 188 [.int .u8 (v:Nat)] H=some (.ret (.int .i64 (A7 v:Nat)),H):=by
 obtain⟨bs,es⟩:=H;have iG:zX bs.length es 0 ⟨bs,[]⟩=⟨bs,es⟩:=by
  have:=zY (bs:=bs) (ls:=[]) (es:=es) (t:=0) (dP _)
  rwa [nk] at this
 suffices bR:(go ⟨prog,gl,zj prog gl n,ey⟩ n (Fx prog f188.results.toList λw H1=>w=.int .i64 (A7 v:Nat)/\H1=⟨bs,[]⟩) [.c (f188.body.getD .skip)] .normal ⟨[.int .u8 (v:Nat)]++List.replicate 5 (.bx []),⟨bs,[]⟩,[],[]⟩) by
  obtain⟨w,H1,h0,rfl,rfl⟩:=zO (gl:=gl) (f:=188) (bs:=bs) (es:=es) (args:=[.int .u8 (v:Nat)]) (n:=n) (hg.hk _ _ (by decide)) (λH=>hg.fq _ _ _ _ (by decide)) func188 rfl (by rw[hg.uq];exact bR)
  rw[h0];exact congrArg (λx=>some (Out.ret _,x)) iG
 simp only[f188,gm,zi];refine zh ?_;simp only[BA,aj,aq,bY];refine zh ?_;simp only[List.replicate];simp only[qt,zJ,ak,zd,ze,zq,aN,aq,bX,bY,zS,zlw]
 generalize hs:aj _=sv;obtain⟨L,hL,hLz⟩:∃L,sv=some (.str L)/\∀v,v<256->v≠0->nth L v=some (A7 v):=by
  subst hs;refine⟨_,rfl,?_⟩;decide +kernel
 have iB:A7 v<2 ^ 60:=by
  have h8:∀v,v<256->A7 v<2 ^ 60:=by decide +kernel
  exact h8 v hv
 have GF:On prog 9 (.str L) ((v:Nat):Int)=some (.int .u8 (A7 v:Nat)):=by
  simp only[On,T',uP,hLz v hv h0];simp
 have iW:vz prog 5 3 (.int .u8 (A7 v:Nat))=some (.int .i64 (A7 v:Nat)):=by
  simp only[vz,Y7,u3',Option.bind_eq_bind,aV];rw[kU (by omega) (by omega)]
 subst hL;simp only[aF,GF,zq,aN,aq];simp only[BA,ak,aq,zd,ze,bX,bY,vZ (a:=5) (b:=3) (hm:=rfl),show ey (w8 5)=false from rfl,iW,go_ret]
 refine⟨rfl,[.int .i64 (A7 v:Nat)],?_,rfl,rfl⟩;simp only[zy,zd,ze]
def JU(w m:Nat):Nat->bO
 | 0=>[]
 | k+1=>(xO (o6 w (m - (k+1)))).map (8 * (m - (k+1)) + ·)++JU w m k
theorem zjE{w m:Nat}:∀k,k<=m->Nv w m=Nv w (m - k)++JU w m k
 | 0,_=>by simp[JU]
 | k+1,h=>by
  rw[zjE k (by omega),JU,show m - k=(m - (k+1))+1 by omega,Nv,bp]
theorem zmu{w m:Nat}:JU w m m=wD m w:=by
 have:=zjE (w:=w) m (dB _);rw[Dt,zjj] at this;exact this.symm
theorem Y8{cx:Cx}{F:FuncId}{caps args:aG}{H:Hp}(hc:caps.map bg=caps):cx.mB (.fn (.func F) [] caps) args H=cx.bK F (args.map bg++caps) H:=by
 simp[Cx.mB,eH,hc]
theorem zeX{P:aY}{t:aD}{x y:a_}{b:Nat}(h:8 * b<2 ^ 60):q0 P .mul t x y (some (.int .i64 8)) (some (.int .i64 b))=some (.int .i64 ((8 * b:Nat):Int)):=WW (a:=8) h
theorem zhq(hg:GS gl){n m w b:Nat}{F:FuncId}{caps:aG}(gI:caps.map bg=caps)(hm:m<2 ^ 40)(NI:m<n)(hn:300<=n)(I:bO->Hp->Prop)(dJ:∀l H,I l H->H.get b=some (.cells (dL m w) 5))
  (mF:∀k l H,k<8 * m->I (k::l) H->∃H',Cx.bK ⟨prog,gl.g,zj prog gl n,ey⟩ F ([.int .i64 (k:Nat)]++caps) H=some (.val (.bx []),H')/\I l H') {bs:List bq} {es:aP} (h0:I (wD m w) ⟨bs,[]⟩) :
  ∃H',zj prog gl (n+1) 148 [.sr b 0 m m,.fn (.func F) [] caps] ⟨bs,es⟩=some (.ret (.bx []),zX bs.length es 0 H')/\I [] H':=by
 suffices bR:(go ⟨prog,gl,zj prog gl n,ey⟩ n (Fx prog f148.results.toList λw H1=>w=.bx []/\I [] H1) [.c (f148.body.getD .skip)] .normal ⟨[.sr b 0 m m,.fn (.func F) [] caps]++List.replicate 25 (.bx []),⟨bs,[]⟩,[],[]⟩) by
  obtain⟨w,H1,h0,rfl,h1⟩:=zO (gl:=gl) (f:=148) (bs:=bs) (es:=es) (args:=[.sr b 0 m m,.fn (.func F) [] caps]) (n:=n) (hg.hk _ _ (by decide)) (λH=>hg.fq _ _ _ _ (by decide)) func148 rfl (by rw[hg.uq];exact bR)
  exact⟨H1,h0,h1⟩
 simp only[f148,gm,zi];refine zh ?_;simp only[List.replicate];simp only[BA,ak,aj,aq,zd,ze,bX,bY,Np,Y5]
 refine qx (λk s=>∃i env H,k+i=m/\s=⟨env,H,[],[]⟩/\I (JU w m k) H/\env.length=27/\nth env 1=some (.fn (.func F) [] caps)/\nth env 6=some (.sr b 0 m m)/\nth env 7=some (.int .i64 (m:Nat))/\nth env 8=some (.int .i64 (i:Nat))) m (by omega) ?_ ?_
 ·refine⟨0,_,_,rfl,rfl,by rw[zmu];exact h0,?_,?_,?_,?_,?_⟩<;>rfl
 rintro k s ⟨i,env,H,A9,rfl,hI,hlen,h1,h6,h7,h8⟩;simp only[zi];refine zh ?_;simp only[BA,ak,aq,za,Nat.reduceLT,h7,h8,hlen,qV]
 by_cases hi:i<m
 ·refine .inl ⟨by simp;omega,?_⟩
  obtain⟨k,rfl⟩:∃k',k=k'+1:=⟨k - 1,by omega⟩
  have O7:m - (k+1)=i:=by omega
  have tK:I ((xO (o6 w i)).map (8 * i + ·)++JU w m k) H:=by rw[<- O7];exact hI
  have gy:zk prog H gl.g 5 (.ptr b i)=some (.int .u8 (o6 w i:Nat)):=zr sW (dJ _ _ hI) (by rw[zg,vO hi])
  refine zh ?_;simp only[BA,Nat.reduceEqDiff,ak,aq,aF,za,bI,Nat.reduceLT,bD,h6,h8,hlen,Np,Y1 hi,gy]
  refine qx (λu s=>∃env H,s=⟨env,H,[],[]⟩/\u<256/\I ((xO u).map (8 * i + ·)++JU w m k) H/\env.length=27/\nth env 1=some (.fn (.func F) [] caps)/\nth env 4=some (.int .i64 (i:Nat))/\nth env 5=some (.int .u8 (u:Nat))/\nth env 6=some (.sr b 0 m m)/\nth env 7=some (.int .i64 (m:Nat))/\nth env 8=some (.int .i64 (i:Nat))) (o6 w i) (uO vH (by omega)) ?_ ?_
  ·refine⟨_,_,rfl,vH,tK,?_,?_,?_,?_,?_,?_,?_⟩<;>simp[za,hlen,h1,h6,h7,h8]
  rintro u s ⟨bM,H2,rfl,hu,Y9,cP,g1,g4,g5,g6,g7,g8⟩;simp only[zi];refine zh ?_;simp only[BA,Nat.reduceEqDiff,ak,aj,aq,za,bI,Nat.reduceLT,bD,g5,cP,Pk]
  by_cases Eo:u=0
  ·subst Eo;refine .inr ⟨by simp,?_⟩
   simp only[qk,zN,zD,zp,bN,qE,iV,aI]
   refine zh ?_;simp only[BA,Nat.reduceEqDiff,ak,aj,aq,za,bI,Nat.reduceLT,bD,g8,cP,qn (show i<2 ^ 60 by omega),zp,aO]
   refine⟨k,by omega,i+1,_,_,by omega,rfl,?_,?_,?_,?_,?_,?_⟩
   ·simpa[Cj] using Y9
   all_goals simp[za,cP,g1,g6,g7]
  ·refine .inl ⟨by simp;omega,?_⟩
   refine zh ?_;obtain⟨e1,e2⟩:=Ci u hu Eo;rw[e1,bk,br] at Y9;have hl8:A7 u<8:=by
    have:A7 u∈xO u:=by rw[e1];exact fy ..
    simpa[xO] using (List.mem_filter.1 this).1
   obtain⟨H3,hc,hI3⟩:=mF (8 * i+A7 u) _ _ (by omega) Y9
   obtain⟨n',rfl⟩:∃n',n=n'+1:=⟨n - 1,by omega⟩
   have Gm:=zoe hg (n:=n') hu Eo (H:=H2);have Y_:Cx.bK ⟨prog,gl.g,zj prog gl (n'+1),ey⟩ 188 [.int .u8 (u:Nat)] H2=some (.val (.int .i64 (A7 u:Nat)),H2):=zu func188 rfl Gm;simp only[br,bt] at hc;have hw:IntKind.i64.wrap (((8 * i:Nat):Int)+((A7 u:Nat):Int))=((8 * i+A7 u:Nat):Int):=by
    rw[kU (by omega) (by omega)];omega
   simp only[qt,aK,qE,zJ,zW,kf,Nat.reduceEqDiff,av,ql,ak,aj,zq,aN,aq,zS,qP,aC,bk,bw,br,bt,aI,za,bI,Nat.reduceLT,aI,bD,g1,g4,g5,cP,yP,wG,show bg (V.fn (.func F) [] caps)=.fn (.func F) [] caps from rfl,Y8 gI,Y_,zeX (show 8 * i<2 ^ 60 by omega),wa,hw,br,bt,hc]
   refine zh ?_;simp only[BA,Nat.reduceEqDiff,ak,aj,aq,za,bI,Nat.reduceLT,bD,g5,cP,zlP Eo hu,zlO hu (show u - 1<256 by omega),zp,aO]
   refine⟨u &&& (u - 1),e2,_,_,rfl,by omega,hI3,?_,?_,?_,?_,?_,?_,?_⟩<;>simp[za,cP,g1,g4,g6,g7,g8]
 ·obtain rfl:i=m:=by omega
  obtain rfl:k=0:=by omega
  refine .inr ⟨by simp,?_⟩
  simp only[qk,zN,zD,zp,bN,iV,aI,Fx]
  exact⟨trivial,[],rfl,rfl,hI⟩
end
section
variable{gl:Gl}{P:aY}{t:aD}{x y:a_}
def QO(q:A2.Q4):Nat->Int
 | 0=>q.1
 | 1=>q.2.1
 | 2=>q.2.2.1
 | _=>q.2.2.2
def CI(q:A2.Q4):Prop:=∀i,0<=QO q i/\QO q i<18446744073709551616
def ym(q:A2.Q4)(b:Nat):Bool:=(QO q (b / 64)).toNat.testBit (b % 64)
theorem zhr{b:Nat}(h:b<256):q0 P .quo t x y (some (.int .u8 b)) (some (.int .u8 64))=some (.int .u8 ((b / 64:Nat):Int)):=by
 have e:(b:Int).tdiv 64=((b / 64:Nat):Int):=by
  rw[Int.tdiv_eq_ediv_of_nonneg (by omega)];omega
 simp only[q0,jz,wX,j3,aI];rw[e,PA (by omega)]
 rfl
theorem zhs{b:Nat}(h:b<256):q0 P .rem t x y (some (.int .u8 b)) (some (.int .u8 64))=some (.int .u8 ((b % 64:Nat):Int)):=by
 have e:(b:Int).tmod 64=((b % 64:Nat):Int):=by
  rw[Int.tmod_eq_emod_of_nonneg (by omega)];omega
 simp only[q0,jz,wX,j3,aI];rw[e];rfl
theorem zkF{a k:Nat}(_ha:a<2 ^ 64)(hk:k<64):q0 P .shr t x y (some (.int .u64 a)) (some (.int .u8 k))=some (.int .u64 ((a / 2 ^ k:Nat):Int)):=by
 have h2:min ((k:Int).toNat) IntKind.u64.bits=k:=by
  have:IntKind.u64.bits=64:=rfl;rw[this,uP];omega
 have h3:(a:Int).fdiv (2 ^ k)=((a / 2 ^ k:Nat):Int):=by
  rw[Int.fdiv_eq_ediv_of_nonneg _ (Int.le_of_lt (Int.pow_pos (by decide)))]
  simp
 simp only[q0,jz,wX,Kt,aI,show ¬((k:Int)<0) by omega,bD,h2,h3]
theorem zmw{a k:Nat}:((a / 2 ^ k &&& 1:Nat):Int)=if a.testBit k then 1 else 0:=by
 have:a / 2 ^ k &&& 1=a / 2 ^ k % 2:=Nat.and_one_is_mod _;rw[this,Nat.testBit_eq_decide_div_mod_eq]
 by_cases h:a / 2 ^ k % 2=1
 ·simp[h]
 ·have:a / 2 ^ k % 2=0:=by omega
  simp[this]
theorem zmx{a:Nat}(ha:a<2 ^ 64):q0 P .and t x y (some (.int .u64 a)) (some (.int .u64 1))=some (.int .u64 ((a &&& 1:Nat):Int)):=Tp (b:=1) ha (by decide)
theorem Za:prog.underlying 50=some (.array 4 48):=by kernel_rfl
theorem QS:z4 prog 48=some 1:=by kernel_rfl
theorem QT:qG prog 48=some false:=by kernel_rfl
theorem zjF(hg:GS gl){n b:Nat}{q:A2.Q4}(hq:CI q)(hb:b<256){H:Hp}:zj prog gl (n+1) 110 [A2.qe q,.int .u8 (b:Nat)] H=some (.ret (.bool (ym q b)),H):=by
 obtain⟨bs,es⟩:=H;have iG:zX bs.length es 0 ⟨bs++[.cells (A2.qe q).laid 50],[]⟩=⟨bs,es⟩:=zY (dP _)
 suffices bR:(go ⟨prog,gl,zj prog gl n,ey⟩ n (Fx prog f110.results.toList λw H1=>w=.bool (ym q b)/\H1=⟨bs++[.cells (A2.qe q).laid 50],[]⟩) [.c (f110.body.getD .skip)] .normal ⟨[A2.qe q,.int .u8 (b:Nat)]++List.replicate 12 (.bx []),⟨bs,[]⟩,[],[]⟩) by
  obtain⟨w,H1,h0,rfl,rfl⟩:=zO (gl:=gl) (f:=110) (bs:=bs) (es:=es) (args:=[A2.qe q,.int .u8 (b:Nat)]) (n:=n) (hg.hk _ _ (by decide)) (λH=>hg.fq _ _ _ _ (by decide)) func110 rfl (by rw[hg.uq];exact bR)
  rw[h0];exact congrArg (λx=>some (Out.ret _,x)) iG
 obtain⟨a,ha1,ha2⟩:∃a:Nat,QO q (b / 64)=(a:Int)/\a<2 ^ 64:=⟨(QO q (b / 64)).toNat,by have:=hq (b / 64);omega,by have:=hq (b / 64);omega⟩
 have Mh:ym q b=a.testBit (b % 64):=by unfold ym;rw[ha1];rfl
 have X3:(A2.qe q).laid=[.int .u64 q.1,.int .u64 q.2.1,.int .u64 q.2.2.1,.int .u64 q.2.2.2]:=rfl;have GF:zt prog 50 (.ptr bs.length 0) ((b / 64:Nat):Int)=some (.ptr bs.length (b / 64)):=by
  simp only[zt,Za,QS];rw[if_pos (by omega),uP,I5,oh]
 have dJ:(⟨bs++[.cells (A2.qe q).laid 50],[]⟩:Hp).get bs.length=some (.cells (A2.qe q).laid 50):=by
  show nth _ _=_;rw[zg,fM (dB _)];simp
 have gy:zk prog ⟨bs++[.cells (A2.qe q).laid 50],[]⟩ gl.g 48 (.ptr bs.length (b / 64))=some (.int .u64 (a:Nat)):=zr QT dJ (by
  rw[<- ha1,X3];have:b / 64=0\/b / 64=1\/b / 64=2\/b / 64=3:=by omega
  rcases this with e|e|e|e<;>rw[e]<;>rfl)
 simp only[f110,gm,zi];refine zh ?_;have Zb:dD (A2.qe q)=true:=rfl;have tJ:∀env t,jd env t (some (A2.qe q))=some (A2.qe q,env):=λ_ _=>rfl;simp only[BA,aj,aq,zc,zd,bX,bY,List.replicate,tJ,qg Zb];refine zh ?_
 simp only[BA,ak,aj,aq,aF,zd,ze,bX,bY,zhr hb,zhs hb,GF,gy,zkF ha2 (show b % 64<64 by omega),zmx (show a / 2 ^ (b % 64)<2 ^ 64 from Kl (Nat.div_le_self _ _) ha2),wJ]
 simp only[go_ret,zp,Fx]
 refine⟨trivial,[.bool (ym q b)],?_,rfl,trivial⟩;simp only[zy,zd,ze,Mh,zmw];cases a.testBit (b % 64)<;>rfl
end
section
variable{gl:Gl}
theorem Mi:prog.underlying 26=some (.slice 50):=by kernel_rfl
theorem sX:prog.underlying 201=some (.slice 205):=by kernel_rfl
theorem FI:z4 prog 50=some 4:=by kernel_rfl
theorem sY:z4 prog 205=some 1:=by kernel_rfl
theorem eU:qG prog 141=some false:=by kernel_rfl
theorem ng:qG prog 26=some false:=by kernel_rfl
theorem sZ:qG prog 205=some false:=by kernel_rfl
theorem ir:qG prog 201=some false:=by kernel_rfl
theorem Dg:qG prog 50=some true:=by kernel_rfl
theorem mb:zH prog 204 0=some 0:=by kernel_rfl
theorem Dh:zH prog 204 1=some 4:=by kernel_rfl
theorem Ad:zH prog 204 2=some 5:=by kernel_rfl
theorem Di:zH prog 204 3=some 261:=by kernel_rfl
theorem m4:zH prog 30 0=some 0:=by kernel_rfl
theorem s4:zH prog 30 2=some 2:=by kernel_rfl
theorem xJ{H:Hp}{p:Bool×List A2.Q4}:qW prog H 26 (A2.qv p)=some ((p.2.length:Nat):Int):=by
 rcases Sx.cO 4 p.1 (p.2.map A2.qe) with e|⟨e0,e⟩
 ·simp[A2.qv,e,qW]
 ·have:p.2=[]:=by simpa using e0
  rw[A2.qv,e,this];simp[qW]
theorem zmy{p:Bool×List A2.Q4}{k:Nat}{q:A2.Q4}(h:p.2[k]?=some q):zt prog 26 (A2.qv p) ((k:Nat):Int)=some (.vp (A2.qe q).cells):=by
 have hn:nth (p.2.map A2.qe) k=some (A2.qe q):=by rw[zg,mu,h];rfl
 have e:A2.qv p=.sl 4 (p.2.map A2.qe) .no:=by
  rcases Sx.cO 4 p.1 (p.2.map A2.qe) with e|⟨e0,e⟩
  ·exact e
  ·have:p.2=[]:=by simpa using e0
   rw[this] at h;simp at h
 rw[e];simp only[zt,Mi,FI,uP,hn];simp
theorem zoN{H:Hp}{q:A2.Q4}:zk prog H gl.g 50 (.vp (A2.qe q).cells)=some (A2.qe q):=by
 simp[zk,Dg,FI,A2.qe,V.cells,kV]
def cJ(m c:Nat):V:=.sr c 0 m m
theorem zpy{m k c w:Nat}{nx:aP}(h:nx[k]?=some (c,w)):zt prog 201 (bg (zm 1 205 (nx.map λp=>cJ m p.1))) ((k:Nat):Int)=some (.vp [cJ m c]):=by
 have hn:nth (nx.map λp=>cJ m p.1) k=some (cJ m c):=by rw[zg,mu,h];rfl
 cases hx:nx.map λp=>cJ m p.1 with
 | nil=>rw[hx] at hn;simp[zg] at hn
 | cons a l =>
  rw[hx] at hn;simp only[zm,bg,zt,sX,sY,uP,hn];simp[cJ,V.cells]
theorem zoO{H:Hp}{m c:Nat}:zk prog H gl.g 205 (.vp [cJ m c])=some (cJ m c):=by
 simp[zk,sZ,kV,cJ,zg]
structure LB(B:List bq)(bm a1 a2 a3 c m q b:Nat)(f:A2.F)(nx:aP):Prop where
 A:∃t,nth B a1=some (.cells [.ptr bm 0] t)
 Y:∃t,nth B a2=some (.cells [.int .u8 (b:Nat)] t)
 D:∃t,nth B a3=some (.cells [cJ m c] t)
 Q:nth B c=some (.cells (dL m q) 5)
 M:∃mc t,nth B bm=some (.cells mc t)/\nth mc 0=some (A2.qv f.s)/\nth mc 4=some (zm 1 205 (nx.map λp=>cJ m p.1))
 X:∀p∈nx,nth B p.1=some (.cells (dL m p.2) 5)/\p.2<2 ^ (8 * m)/\p.1≠c
def xf(f:A2.F)(nx:aP)(b k q:Nat):Nat :=
 match f.s.2[k]?,nx[k]? with
 | some s,some p=>if ym s b then q ||| p.2 else q
 | _,_=>q
theorem zin(hg:GS gl){n bm a1 a2 a3 c m q b k:Nat}{f:A2.F}{nx:aP}(hs:∀q∈f.s.2,CI q)(hb:b<256)(_hk:k<2 ^ 40)(hm:m<2 ^ 40)(hn:m<n)(GJ:nx.length=f.s.2.length){B:List bq}{es:aP}(h:LB B bm a1 a2 a3 c m q b f nx) :
  zj prog gl (n+1+1) 150 [.int .i64 (k:Nat),.ptr a1 0,.ptr a2 0,.ptr a3 0] ⟨B,es⟩=some (.ret (.bx []),⟨B.set c (.cells (dL m (xf f nx b k q)) 5),es⟩):=by
 suffices bR:(go ⟨prog,gl,zj prog gl (n+1),ey⟩ (n+1) (Fx prog f150.results.toList λw H1=>w=.bx []/\H1=⟨B.set c (.cells (dL m (xf f nx b k q)) 5),[]⟩) [.c (f150.body.getD .skip)] .normal ⟨[.int .i64 (k:Nat),.ptr a1 0,.ptr a2 0,.ptr a3 0]++List.replicate 30 (.bx []),⟨B,[]⟩,[],[]⟩) by
  obtain⟨w,H1,h0,rfl,rfl⟩:=zO (gl:=gl) (f:=150) (bs:=B) (es:=es) (args:=[.int .i64 (k:Nat),.ptr a1 0,.ptr a2 0,.ptr a3 0]) (n:=n+1) (hg.hk _ _ (by decide)) (λH=>hg.fq _ _ _ _ (by decide)) func150 rfl (by rw[hg.uq];exact bR)
  rw[h0,show(V.bx []).top=0 from rfl,T_]
 obtain⟨tA,hA⟩:=h.A;obtain⟨tY,hY⟩:=h.Y;obtain⟨tD,hD⟩:=h.D;obtain⟨mc,tM,hM,Dj,Zc⟩:=h.M;have lA:zk prog ⟨B,[]⟩ gl.g 141 (.ptr a1 0)=some (.ptr bm 0):=zr eU hA rfl;have lY:zk prog ⟨B,[]⟩ gl.g 5 (.ptr a2 0)=some (.int .u8 (b:Nat)):=zr sW hY rfl;have lD:zk prog ⟨B,[]⟩ gl.g 205 (.ptr a3 0)=some (cJ m c):=zr sZ hD rfl
 have lS:zk prog ⟨B,[]⟩ gl.g 26 (.ptr bm 0)=some (A2.qv f.s):=zr ng hM Dj;have lN:zk prog ⟨B,[]⟩ gl.g 201 (.ptr bm 4)=some (zm 1 205 (nx.map λp=>cJ m p.1)):=zr ir hM Zc;simp only[f150,gm,zi];refine jo (tk:=[]) (by kernel_rfl) (by kernel_rfl) ?_
 by_cases QV:k<f.s.2.length
 ·obtain⟨s,AQ⟩:∃s,f.s.2[k]?=some s:=⟨_,gG QV⟩;obtain⟨⟨cn,wn⟩,GD⟩:∃p,nx[k]?=some p:=⟨_,gG (by omega)⟩
  have hsq:CI s:=hs s (pG AQ);have dz:Cx.bK ⟨prog,gl.g,zj prog gl (n+1),ey⟩ 110 [A2.qe s,.int .u8 (b:Nat)] ⟨B,[]⟩=some (.val (.bool (ym s b)),⟨B,[]⟩):=zu func110 rfl (zjF hg hsq hb);have hd:decide (((k:Nat):Int)<((f.s.2.length:Nat):Int))=true:=by simp;omega
  have Ua:bg (A2.qe s)=A2.qe s:=rfl;simp only[BA,av,ak,aj,aq,aa,ah,aF,aC,au,zd,ze,bX,bY,j5,qd,jr,cE,wB,List.replicate,lA,lY,lS,eU,ng,sW,Dg,mb,m4,A2.eu,xJ,qV,hd,zmy AQ,zoN,Ua,dz]
  have hX:=h.X _ (pG GD);have hjc:Cx.bK ⟨prog,gl.g,zj prog gl (n+1),ey⟩ 151 [cJ m c,cJ m cn] ⟨B,[]⟩=some (.val (.bx []),⟨B.set c (.cells (dL m (q ||| wn)) 5),[]⟩):=zu func151 rfl (zkE hg hm hX.2.1 hX.2.2 h.Q hX.1 hn)
  have nh:∀c,bg (cJ m c)=cJ m c:=λ_=>rfl;cases hh:ym s b with
  | true =>
   simp only[]
   refine .inl ⟨trivial,?_⟩;refine jo (tk:=[]) (by kernel_rfl) (by kernel_rfl) ?_
   simp only[BA,av,ak,aq,aa,ah,aF,aC,au,zd,ze,bX,bY,lA,lD,lN,eU,sZ,ir,Dh,nh,zpy GD,zoO,hjc];simp only[zp,Fx]
   first|refine⟨rfl,[],rfl,rfl,?_⟩|refine⟨trivial,[],rfl,rfl,?_⟩|refine⟨[],rfl,rfl,?_⟩
   simp[xf,AQ,GD,hh]
  | false =>
   simp only[]
   refine .inr ⟨by first|rfl|trivial,?_⟩
   simp only[zp,Fx]
   first|refine⟨rfl,[],rfl,rfl,?_⟩|refine⟨trivial,[],rfl,rfl,?_⟩|refine⟨[],rfl,rfl,?_⟩
   simp[xf,AQ,GD,hh,jZ h.Q]
 ·have hd:decide (((k:Nat):Int)<((f.s.2.length:Nat):Int))=false:=by simp;omega
  simp only[BA,av,ak,aj,aq,aa,ah,aF,aC,au,zd,ze,bX,bY,j5,qd,jr,cG,wC,List.replicate,lA,lY,lS,eU,ng,sW,Dg,mb,m4,A2.eu,xJ,qV,hd];refine .inr ⟨by first|rfl|trivial,?_⟩
  simp only[]
  first|refine⟨rfl,[],rfl,rfl,?_⟩|refine⟨trivial,[],rfl,rfl,?_⟩|refine⟨[],rfl,rfl,?_⟩
  simp[xf,uf (Nat.le_of_not_lt QV),jZ h.Q]
def xQ(f:A2.F)(nx:aP)(b:Nat)(l:bO)(q:Nat):Nat:=l.foldl (λq k=>xf f nx b k q) q
end
section
variable{gl:Gl}
theorem Ub{cx:Cx}{takes:cw}{dst:fz}{type:aD}{pos:String}{after:Array Edge}{guard:oq}{env:aG}{H:Hp}{lk:aP}{df:bS}{fn:Fn}{first cap:rT} :
  cx.op takes ⟨dst,.makeFunc fn first cap,type,pos,after,guard⟩ env H lk df=iy env H lk df ((av env first.toList).bind λa=>(av env cap.toList).bind λc=>some (.fn fn a c)):=by
 simp only[Cx.op];exact vC rfl
theorem zmz{cx:Cx}{x:a_}{type:aD}{pos:String}{after:Array Edge}{guard:oq}{env:aG}{H:Hp}{lk:aP}{df:bS}:cx.op [] ⟨none,.move x,type,pos,after,guard⟩ env H lk df=iy env H lk df (ak env x):=by
 simp only[Cx.op];exact vC rfl
theorem Mj:prog.underlying 28=some (.slice 27):=by kernel_rfl
theorem oP:qG prog 28=some false:=by kernel_rfl
theorem iU:qG prog 3=some false:=by kernel_rfl
theorem tX:z4 prog 3=some 1:=by kernel_rfl
theorem Uc:qL prog 3=some (.int .i64 0):=by kernel_rfl
theorem QW:qL prog 205=some .aH:=by kernel_rfl
theorem QX{H:Hp}{p:A2.gR}:qW prog H 28 (A2.rv p)=some ((p.2.length:Nat):Int):=by
 rcases Sx.cO 1 p.1 (p.2.map A2.iv) with e|⟨e0,e⟩
 ·simp[A2.rv,e,qW]
 ·have:p.2=[]:=by simpa using e0
  rw[A2.rv,e,this];simp[qW]
def GN(ns:Nat)(k:Nat)(z:Int):Int:=if ns<=k/\z<0 then (k:Int) - ns else z
theorem zio(hg:GS gl){n bm a1 a2 k:Nat}{z:Int}{f:A2.F}{tA tZ tM:aD}{mc:aG}(hk:k<2 ^ 40)(rI:f.s.2.length<2 ^ 40){B:List bq}{es:aP}(hA:nth B a1=some (.cells [.ptr bm 0] tA))(hZ:nth B a2=some (.cells [.int .i64 z] tZ))(hM:nth B bm=some (.cells mc tM))(Dj:nth mc 0=some (A2.qv f.s))(_hz:-1<=z/\z<2 ^ 40) :
  zj prog gl (n+1) 149 [.int .i64 (k:Nat),.ptr a1 0,.ptr a2 0] ⟨B,es⟩=some (.ret (.bx []),⟨B.set a2 (.cells [.int .i64 (GN f.s.2.length k z)] tZ),es⟩):=by
 suffices bR:(go ⟨prog,gl,zj prog gl n,ey⟩ n (Fx prog f149.results.toList λw H1=>w=.bx []/\H1=⟨B.set a2 (.cells [.int .i64 (GN f.s.2.length k z)] tZ),[]⟩) [.c (f149.body.getD .skip)] .normal ⟨[.int .i64 (k:Nat),.ptr a1 0,.ptr a2 0]++List.replicate 21 (.bx []),⟨B,[]⟩,[],[]⟩) by
  obtain⟨w,H1,h0,rfl,rfl⟩:=zO (gl:=gl) (f:=149) (bs:=B) (es:=es) (args:=[.int .i64 (k:Nat),.ptr a1 0,.ptr a2 0]) (n:=n) (hg.hk _ _ (by decide)) (λH=>hg.fq _ _ _ _ (by decide)) func149 rfl (by rw[hg.uq];exact bR)
  rw[h0,show(V.bx []).top=0 from rfl,T_]
 have lA:zk prog ⟨B,[]⟩ gl.g 141 (.ptr a1 0)=some (.ptr bm 0):=zr eU hA rfl;have lZ:zk prog ⟨B,[]⟩ gl.g 3 (.ptr a2 0)=some (.int .i64 z):=zr iU hZ rfl;have lS:zk prog ⟨B,[]⟩ gl.g 26 (.ptr bm 0)=some (A2.qv f.s):=zr ng hM Dj;simp only[f149,gm,zi];refine zh ?_
 by_cases QV:f.s.2.length<=k
 ·have hd:decide (((f.s.2.length:Nat):Int)<=((k:Nat):Int))=true:=by simp;omega
  simp only[BA,ak,aj,aq,aa,ah,zd,ze,bX,bY,j4,qd,jr,cE,wB,List.replicate,lA,lZ,lS,mb,m4,A2.eu,xJ,qV,S8,ge_iff_le,hd]
  by_cases JV:z<0
  ·refine .inl ⟨by simpa using JV,?_⟩
   refine zh ?_;have hw:IntKind.i64.wrap (((k:Nat):Int) - ((f.s.2.length:Nat):Int))=((k:Nat):Int) - ((f.s.2.length:Nat):Int):=kU (by omega) (by omega)
   have hgZ:(⟨B,[]⟩:Hp).get a2=some (.cells [.int .i64 z] tZ):=hZ;simp only[BA,ak,aq,aa,ah,zd,ze,bX,bY,lA,lS,mb,m4,A2.eu,xJ,kC,hw];rw[zA tX hgZ rfl rfl (by simp) rfl,jV (by simp[V.top])]
   simp only[bB,aq,V.laid,Vm.storeCells,zp,Fx]
   first|refine⟨rfl,[],rfl,rfl,?_⟩|refine⟨trivial,[],rfl,rfl,?_⟩|refine⟨[],rfl,rfl,?_⟩
   simp only[GN,if_pos (And.intro QV JV)];rfl
  ·refine .inr ⟨by simpa using JV,?_⟩
   simp only[zp,Fx]
   first|refine⟨rfl,[],rfl,rfl,?_⟩|refine⟨trivial,[],rfl,rfl,?_⟩|refine⟨[],rfl,rfl,?_⟩
   rw[GN,if_neg (λe=>JV e.2),jZ hZ]
 ·have hd:decide (((f.s.2.length:Nat):Int)<=((k:Nat):Int))=false:=by simp;omega
  simp only[BA,ak,aj,aq,aa,ah,zd,ze,bX,bY,j4,qd,jr,cG,wC,List.replicate,lA,lZ,lS,mb,m4,A2.eu,xJ,qV,S8,ge_iff_le,hd];refine .inr ⟨by first|rfl|trivial,?_⟩
  simp only[]
  first|refine⟨rfl,[],rfl,rfl,?_⟩|refine⟨trivial,[],rfl,rfl,?_⟩|refine⟨[],rfl,rfl,?_⟩
  rw[GN,if_neg (λe=>QV e.1),jZ hZ]
def v8(ns:Nat)(l:bO)(z:Int):Int:=l.foldl (λz k=>GN ns k z) z
theorem zjG{ns k:Nat}{z:Int}(h:-1<=z/\z<2 ^ 40)(hk:k<2 ^ 40):-1<=GN ns k z/\GN ns k z<2 ^ 40:=by
 unfold GN;split<;>omega
theorem zjH{m w k:Nat}(h:k∈wD m w):k<8 * m:=by
 simpa using (List.mem_filter.1 h).1
theorem zkG(hg:GS gl){n bm b m w:Nat}{f:A2.F}{tM:aD}{mc:aG}(hm:m<2 ^ 36)(NI:m<n)(hn:300<=n)(rI:f.s.2.length<2 ^ 40){bs:List bq}{es:aP}(hM:nth bs bm=some (.cells mc tM))(Dj:nth mc 0=some (A2.qv f.s))(hb:nth bs b=some (.cells (dL m w) 5)) :
  zj prog gl (n+1+1+1) 112 [.ptr bm 0,cJ m b] ⟨bs,es⟩=some (.ret (.int .i64 (v8 f.s.2.length (wD m w) (-1))),⟨bs,es⟩):=by
 have lM:b<bs.length:=by rw[zg] at hb;exact(dA.1 hb).1
 have Ca:bm<bs.length:=by rw[zg] at hM;exact(dA.1 hM).1
 let Hz:Int->List bq:=λz=>bs++[.cells [.ptr bm 0] 141,.cells [.int .i64 z] 3]
 have g1:∀z,nth (Hz z) bs.length=some (.cells [.ptr bm 0] 141):=λz=>by
  show nth _ _=_;rw[zg,fM (dB _)];simp
 have g2:∀z,nth (Hz z) (bs.length+1)=some (.cells [.int .i64 z] 3):=λz=>by
  show nth _ _=_;rw[zg,fM (by omega)];simp
 have gO:∀z d,d<bs.length->nth (Hz z) d=nth bs d:=λz d hd=>by
  show nth _ _=_;rw[zg,zg,gF hd]
 have mh:∀z y,(Hz z).set (bs.length+1) (.cells [.int .i64 y] 3)=Hz y:=λz y=>by
  show(bs++_).set _ _=_;rw[uN _ _ (by omega)];simp[Hz]
 let I:bO->Hp->Prop:=λl H=>(∀k∈l,k<8 * m)/\∃z iF,-1<=z/\z<2 ^ 40/\H=⟨Hz z,iF⟩/\iF=[]/\v8 f.s.2.length l z=v8 f.s.2.length (wD m w) (-1)
 have FJ:=zhq hg (F:=149) (caps:=[.ptr bs.length 0,.ptr (bs.length+1) 0]) (m:=m) (w:=w) (b:=b) (n:=n+1) rfl (by omega) (by omega) (by omega) I (λl H hI=>by
   obtain⟨_,z,iF,_,_,rfl,_,_⟩:=hI;exact(gO z b lM).trans hb) (λk l H hk hI=>by
   obtain⟨hl,z,iF,z1,z2,rfl,rfl,hz⟩:=hI;have rJ:k<2 ^ 40:=by omega
   refine⟨⟨Hz (GN f.s.2.length k z),[]⟩,zu func149 rfl ?_,λj hj=>hl j (eo _ hj),_,[],(zjG ⟨z1,z2⟩ rJ).1,(zjG ⟨z1,z2⟩ rJ).2,rfl,rfl,?_⟩
   ·have:=zio hg (n:=n) (es:=[]) rJ rI (g1 z) (g2 z) ((gO z bm Ca).trans hM) Dj ⟨z1,z2⟩;rw[mh] at this;exact this
   ·rw[<- hz];rfl) (bs:=Hz (-1)) (es:=[]) ⟨λk hk=>zjH hk,-1,[],by omega,by omega,rfl,rfl,rfl⟩
 obtain⟨H',dz,_,zf,iF,zf1,zf2,rfl,rfl,Zd⟩:=FJ;have FK:zX (Hz (-1)).length [] 0 ⟨Hz zf,[]⟩=⟨Hz zf,[]⟩:=by
  have:=zY (bs:=Hz zf) (ls:=[]) (es:=[]) (t:=0) (dP _);rw[nk] at this;rw[show(Hz (-1)).length=(Hz zf).length by simp[Hz]]
  exact this
 rw[FK] at dz;have Ze:Cx.bK ⟨prog,gl.g,zj prog gl (n+1+1),ey⟩ 148 [cJ m b,.fn (.func 149) [] [.ptr bs.length 0,.ptr (bs.length+1) 0]] ⟨Hz (-1),[]⟩=some (.val (.bx []),⟨Hz zf,[]⟩):=zu func148 rfl dz;have Ml:zf=v8 f.s.2.length (wD m w) (-1):=Zd
 suffices bR:(go ⟨prog,gl,zj prog gl (n+1+1),ey⟩ (n+1+1) (Fx prog f112.results.toList λw H1=>w=.int .i64 zf/\H1=⟨Hz zf,[]⟩) [.c (f112.body.getD .skip)] .normal ⟨[.ptr bm 0,cJ m b]++List.replicate 8 (.bx []),⟨bs,[]⟩,[],[]⟩) by
  obtain⟨w,H1,h0,rfl,rfl⟩:=zO (gl:=gl) (f:=112) (bs:=bs) (es:=es) (args:=[.ptr bm 0,cJ m b]) (n:=n+1+1) (hg.hk _ _ (by decide)) (λH=>hg.fq _ _ _ _ (by decide)) func112 rfl (by rw[hg.uq];exact bR)
  rw[h0,<- Ml];have:=zY (bs:=bs) (ls:=[.cells [.ptr bm 0] 141,.cells [.int .i64 zf] 3]) (es:=es) (t:=0) (dP _);exact congrArg (λx=>some (Out.ret _,x)) this
 simp only[f112,gm,zi];refine zh ?_;simp only[BA,aj,aq,zc,Nat.reduceAdd,zd,bX,bY,List.replicate,qg (v:=.ptr bm 0) rfl];refine zh ?_;have hgN:(⟨bs++[.cells [.ptr bm 0] 141,.cells [.int .i64 0] 3],[]⟩:Hp).get (bs.length+1)=some (.cells [.int .i64 0] 3):=g2 0
 have hV:V.laid (.ptr bm 0)=[.ptr bm 0]:=rfl;simp only[BA,ak,aj,aq,zc,zd,ze,bX,bY,hV,Uc,zR (show dD (V.int .i64 0)=true from rfl),V.cells];rw[zA tX hgN rfl rfl (by simp) rfl,jV (by simp[V.top])]
 have QC:(⟨bs++[.cells [.ptr bm 0] 141,.cells [.int .i64 0] 3],[]⟩:Hp).set (bs.length+1) (.cells (Vm.storeCells [.int .i64 0] 0 (V.laid (.int .i64 (-1)))) 3)=⟨Hz (-1),[]⟩:=congrArg (λx=>Hp.mk x []) (mh 0 (-1));rw[QC];simp only[bB,aq]
 refine zh ?_;have nh:∀c,bg (cJ m c)=cJ m c:=λ_=>rfl;have Aa:∀a c,bg (V.fn (.func 149) a c)=.fn (.func 149) a c:=λ_ _=>rfl;simp only[BA,av,ak,aq,aC,zd,ze,bX,bY,Ub,nh,Aa,Ze];refine zh ?_
 have lZ:zk prog ⟨Hz zf,[]⟩ gl.g 3 (.ptr (bs.length+1) 0)=some (.int .i64 zf):=zr iU (g2 zf) rfl;simp only[BA,ak,aq,zd,ze,bX,bY,lZ,go_ret]
 first|refine⟨rfl,[.int .i64 zf],?_,rfl,rfl⟩|refine⟨trivial,[.int .i64 zf],?_,rfl,trivial⟩|refine⟨trivial,[.int .i64 zf],?_,rfl,rfl⟩|refine⟨rfl,[.int .i64 zf],?_,rfl,trivial⟩
 simp only[zy,zd,ze]
theorem zkH(hg:GS gl){n bm b m w y:Nat}{f:A2.F}{nx:aP}{tM:aD}{mc:aG}(hm:m<2 ^ 36)(NI:m<n)(hn:300<=n)(hy:y<256)(hs:∀q∈f.s.2,CI q)(rI:f.s.2.length<2 ^ 36)(hnf:f.f.2.length<2 ^ 36)(Hu:m=(f.s.2.length+f.f.2.length) / 8+1)(GJ:nx.length=f.s.2.length){bs:List bq}{es:aP}
  (hM:nth bs bm=some (.cells mc tM)) (Dj:nth mc 0=some (A2.qv f.s)) (Ud:nth mc 2=some (A2.rv f.f)) (Zc:nth mc 4=some (zm 1 205 (nx.map λp=>cJ m p.1))) (hX:∀p∈nx,nth bs p.1=some (.cells (dL m p.2) 5)/\p.2<2 ^ (8 * m)) (hb:nth bs b=some (.cells (dL m w) 5)) :
  zj prog gl (n+1+1+1+1) 114 [.ptr bm 0,cJ m b,.int .u8 (y:Nat)] ⟨bs,es⟩=some (.ret (cJ m (bs.length+2)),⟨bs++[.cells [.ptr bm 0] 141,.cells [.int .u8 (y:Nat)] 5,.cells (dL m (xQ f nx y (wD m w) 0)) 5,.cells [cJ m (bs.length+2)] 205],es⟩):=by
 have lM:b<bs.length:=by rw[zg] at hb;exact(dA.1 hb).1
 have Ca:bm<bs.length:=by rw[zg] at hM;exact(dA.1 hM).1
 let Hz:Nat->List bq:=λq=>bs++[.cells [.ptr bm 0] 141,.cells [.int .u8 (y:Nat)] 5,.cells (dL m q) 5,.cells [cJ m (bs.length+2)] 205]
 have gA:∀z,nth (Hz z) bs.length=some (.cells [.ptr bm 0] 141):=λz=>by
  show nth _ _=_;rw[zg,fM (dB _)];simp
 have gY:∀z,nth (Hz z) (bs.length+1)=some (.cells [.int .u8 (y:Nat)] 5):=λz=>by
  show nth _ _=_;rw[zg,fM (by omega)];simp
 have gQ:∀z,nth (Hz z) (bs.length+2)=some (.cells (dL m z) 5):=λz=>by
  show nth _ _=_;rw[zg,fM (by omega)];simp
 have gD:∀z,nth (Hz z) (bs.length+3)=some (.cells [cJ m (bs.length+2)] 205):=λz=>by
  show nth _ _=_;rw[zg,fM (by omega)];simp
 have gO:∀z d,d<bs.length->nth (Hz z) d=nth bs d:=λz d hd=>by
  show nth _ _=_;rw[zg,zg,gF hd]
 have mh:∀z q,(Hz z).set (bs.length+2) (.cells (dL m q) 5)=Hz q:=λz q=>by
  show(bs++_).set _ _=_;rw[uN _ _ (by omega)];simp[Hz]
 have Zf:∀q,LB (Hz q) bm bs.length (bs.length+1) (bs.length+3) (bs.length+2) m q y f nx:=λq =>
  ⟨⟨_,gA q⟩,⟨_,gY q⟩,⟨_,gD q⟩,gQ q,⟨mc,tM,(gO q bm Ca).trans hM,Dj,Zc⟩,λp hp=>by
   obtain⟨h1,h2⟩:=hX p hp;have bW:p.1<bs.length:=by rw[zg] at h1;exact(dA.1 h1).1
   exact⟨(gO q _ bW).trans h1,h2,by omega⟩⟩
 let I:bO->Hp->Prop:=λl H=>(∀k∈l,k<8 * m)/\∃q,H=⟨Hz q,[]⟩/\xQ f nx y l q=xQ f nx y (wD m w) 0
 have FJ:=zhq hg (F:=150) (caps:=[.ptr bs.length 0,.ptr (bs.length+1) 0,.ptr (bs.length+3) 0]) (m:=m) (w:=w) (b:=b) (n:=n+1+1) rfl (by omega) (by omega) (by omega) I (λl H hI=>by
   obtain⟨_,q,rfl,_⟩:=hI;exact(gO q b lM).trans hb) (λk l H hk hI=>by
   obtain⟨hl,q,rfl,hz⟩:=hI;refine⟨⟨Hz (xf f nx y k q),[]⟩,zu func150 rfl ?_,λj hj=>hl j (eo _ hj),_,rfl,?_⟩
   ·have:=zin hg (n:=n) (es:=[]) (k:=k) hs hy (by omega) (by omega) NI GJ (Zf q)
    rw[mh] at this;exact this
   ·rw[<- hz];rfl) (bs:=Hz 0) (es:=[]) ⟨λk hk=>zjH hk,0,rfl,rfl⟩
 obtain⟨H',dz,_,qf,rfl,Zd⟩:=FJ;have FK:zX (Hz 0).length [] 0 ⟨Hz qf,[]⟩=⟨Hz qf,[]⟩:=by
  have:=zY (bs:=Hz qf) (ls:=[]) (es:=[]) (t:=0) (dP _);rw[nk] at this;rw[show(Hz 0).length=(Hz qf).length by simp[Hz]]
  exact this
 rw[FK] at dz;have Ze:Cx.bK ⟨prog,gl.g,zj prog gl (n+1+1+1),ey⟩ 148 [cJ m b,.fn (.func 150) [] [.ptr bs.length 0,.ptr (bs.length+1) 0,.ptr (bs.length+3) 0]] ⟨Hz 0,[]⟩=some (.val (.bx []),⟨Hz qf,[]⟩):=zu func148 rfl dz;have Ml:qf=xQ f nx y (wD m w) 0:=Zd
 suffices bR:(go ⟨prog,gl,zj prog gl (n+1+1+1),ey⟩ (n+1+1+1) (Fx prog f114.results.toList λw H1=>w=cJ m (bs.length+2)/\H1=⟨Hz qf,[]⟩) [.c (f114.body.getD .skip)] .normal ⟨[.ptr bm 0,cJ m b,.int .u8 (y:Nat)]++List.replicate 23 (.bx []),⟨bs,[]⟩,[],[]⟩) by
  obtain⟨w,H1,h0,rfl,rfl⟩:=zO (gl:=gl) (f:=114) (bs:=bs) (es:=es) (args:=[.ptr bm 0,cJ m b,.int .u8 (y:Nat)]) (n:=n+1+1+1) (hg.hk _ _ (by decide)) (λH=>hg.fq _ _ _ _ (by decide)) func114 rfl (by rw[hg.uq];exact bR)
  rw[h0,<- Ml,yO (by simp only[V.top,cJ];omega)]
  rfl
 simp only[f114,gm,zi];refine zh ?_;simp only[BA,aj,aq,zc,Nat.reduceAdd,zd,ze,bX,bY,List.replicate,qg (v:=.ptr bm 0) rfl,qg (v:=.int .u8 (y:Nat)) rfl];refine znO (tk:=[]) rfl rfl (by kernel_rfl) (by kernel_rfl) (by simp) (by kernel_rfl) ?_
 simp only[List.reverse_cons,List.reverse_nil,bt,br,CS];have hV:V.laid (.ptr bm 0)=[.ptr bm 0]:=rfl;have hV':V.laid (.int .u8 (y:Nat))=[.int .u8 (y:Nat)]:=rfl;simp only[hV,hV'];obtain⟨JW,ID⟩:∃x:List bq,x=bs++[.cells [.ptr bm 0] 141,.cells [.int .u8 (y:Nat)] 5]:=⟨_,rfl⟩;rw[<- ID];have g2:∀d,d<bs.length->nth JW d=nth bs d:=λd hd=>by
  rw[ID,zg,zg,gF hd]
 have hgA:(⟨JW,[]⟩:Hp).get bs.length=some (.cells [.ptr bm 0] 141):=by
  show nth _ _=_;rw[ID,zg,fM (dB _)];simp
 have hgM:(⟨JW,[]⟩:Hp).get bm=some (.cells mc tM):=(g2 bm Ca).trans hM;have lA:zk prog ⟨JW,[]⟩ gl.g 141 (.ptr bs.length 0)=some (.ptr bm 0):=zr eU hgA rfl;have lS:zk prog ⟨JW,[]⟩ gl.g 26 (.ptr bm 0)=some (A2.qv f.s):=zr ng hgM Dj;have lF:zk prog ⟨JW,[]⟩ gl.g 28 (.ptr bm 2)=some (A2.rv f.f):=zr oP hgM Ud
 have uT:Cx.bK ⟨prog,gl.g,zj prog gl (n+3),ey⟩ 108 [.int .i64 ((f.s.2.length+f.f.2.length:Nat):Int)] ⟨JW,[]⟩=some (.val (cJ m (bs.length+2)),⟨bs++[.cells [.ptr bm 0] 141,.cells [.int .u8 (y:Nat)] 5,.cells (dL m 0) 5],[]⟩):=by
  refine zu func108 rfl ?_;have:=xx hg (n:=n+2) (k:=f.s.2.length+f.f.2.length) (by omega) (bs:=JW) (es:=[])
  rw[<- Hu] at this;rw[this];simp[ID,cJ]
 simp only[BA,av,ak,aj,aq,aa,ah,aC,au,zd,ze,bX,bY,zmz,lA,lS,lF,eU,ng,oP,mb,m4,s4,A2.eu,A2.b_,xJ,QX,xu (show f.s.2.length+f.f.2.length<2 ^ 60 by omega),uT]
 simp only[zp,zoG];refine⟨trivial,cJ m (bs.length+2),_,1,.aH,rfl,sY,QW,rfl,rfl,rfl,rfl,?_⟩;have Fv:(bs++[bq.cells [.ptr bm 0] 141,.cells [.int .u8 (y:Nat)] 5,.cells (dL m 0) 5]).length=bs.length+3:=by simp
 have hHz:(⟨bs++([bq.cells [.ptr bm 0] 141,.cells [.int .u8 (y:Nat)] 5,.cells (dL m 0) 5]++[.cells (V.laid (cJ m (bs.length+2))) 205]),[]⟩:Hp)=⟨Hz 0,[]⟩:=rfl;simp only[bX,bY,zb,Fv];rw[hHz];refine zh ?_;have nh:∀c,bg (cJ m c)=cJ m c:=λ_=>rfl;have fe:∀c env t,jd env t (some (cJ m c))=some (cJ m c,env):=λ_ _ _=>rfl
 have Aa:∀a c,bg (V.fn (.func 150) a c)=.fn (.func 150) a c:=λ_ _=>rfl;simp only[BA,av,ak,aq,aC,zd,ze,bX,bY,Ub,nh,Aa,Ze];refine zh ?_
 have lD:zk prog ⟨Hz qf,[]⟩ gl.g 205 (.ptr (bs.length+3) 0)=some (cJ m (bs.length+2)):=zr sZ (gD qf) rfl;simp only[BA,ak,aq,zd,ze,bX,bY,lD,nh,fe,go_ret]
 first|refine⟨rfl,[cJ m (bs.length+2)],?_,rfl,rfl⟩|refine⟨trivial,[cJ m (bs.length+2)],?_,rfl,trivial⟩|refine⟨trivial,[cJ m (bs.length+2)],?_,rfl,rfl⟩|refine⟨rfl,[cJ m (bs.length+2)],?_,rfl,trivial⟩
 simp only[zy,zd,ze]
end
section
variable{gl:Gl}
theorem D4:prog.underlying 27=some (.slice 3):=by kernel_rfl
theorem QY:z4 prog 27=some 1:=by kernel_rfl
theorem Bl:qG prog 27=some false:=by kernel_rfl
theorem zip{H:Hp}{p:A2.cX}:qW prog H 27 (A2.iv p)=some ((p.2.length:Nat):Int):=by
 rcases Sx.cO 1 p.1 (p.2.map A2.ie) with e|⟨e0,e⟩
 ·simp[A2.iv,e,qW]
 ·have:p.2=[]:=by simpa using e0
  rw[A2.iv,e,this];simp[qW]
theorem zmA{sz:Nat}{nl:Bool}{l:aG}{k:Nat}{v:V}(h:l[k]?=some v):Sx.lv sz nl l=.sl sz l .no:=by
 rcases Sx.cO sz nl l with e|⟨e0,e⟩
 ·exact e
 ·rw[e0] at h;simp at h
theorem Zg{p:A2.cX}{k:Nat}{z:Int}(h:p.2[k]?=some z):zt prog 27 (A2.iv p) ((k:Nat):Int)=some (.vp [.int .i64 z]):=by
 have hn:(p.2.map A2.ie)[k]?=some (A2.ie z):=by rw[mu,h];rfl
 rw[A2.iv,zmA hn];simp only[zt,D4,tX,uP,zg,hn];simp[A2.ie,V.cells]
theorem Zh{H:Hp}{z:Int}:zk prog H gl.g 3 (.vp [.int .i64 z])=some (.int .i64 z):=by
 simp[zk,iU,kV,zg]
theorem Ue{p:A2.gR}{k:Nat}{r:A2.cX}(h:p.2[k]?=some r):zt prog 28 (A2.rv p) ((k:Nat):Int)=some (.vp [A2.iv r]):=by
 have hn:(p.2.map A2.iv)[k]?=some (A2.iv r):=by rw[mu,h];rfl
 have hc:(A2.iv r).cells=[A2.iv r]:=by
  rcases Sx.cO 1 r.1 (r.2.map A2.ie) with e|⟨_,e⟩<;>rw[A2.iv,e]<;>rfl
 rw[A2.rv,zmA hn];simp only[zt,Mj,QY,uP,zg,hn,hc];simp
theorem Uf{H:Hp}{r:A2.cX}:zk prog H gl.g 27 (.vp [A2.iv r])=some (A2.iv r):=by
 simp[zk,Bl,kV,zg]
def yQ(l:List Int)(q:Nat):Nat:=l.foldl (λq n=>q ||| 2 ^ n.toNat) q
def qh(rows:List A2.cX)(l:List Int)(q:Nat):Nat:=l.foldl (λq r=>yQ ((rows[r.toNat]?).map (·.2) |>.getD []) q) q
theorem zdV{l:List Int}{z:Int}{q:Nat}:yQ (l++[z]) q=yQ l q ||| 2 ^ z.toNat:=by simp[yQ]
theorem zfX{rows:List A2.cX}{l:List Int}{r:Int}{row:A2.cX}{q:Nat}(h:rows[r.toNat]?=some row):qh rows (l++[r]) q=yQ row.2 (qh rows l q):=by
 simp[qh,h]
theorem zkI(hg:GS gl){n bm m:Nat}{f:A2.F}{act:A2.cX}{tM:aD}{mc:aG}(rI:f.s.2.length<2 ^ 36)(hnf:f.f.2.length<2 ^ 36)(Hu:m=(f.s.2.length+f.f.2.length) / 8+1)
  (ha:∀r∈act.2,0<=r/\r.toNat<f.f.2.length) (hr:∀row∈f.f.2,row.2.length<n+1/\row.2.length<2 ^ 60/\∀z∈row.2,0<=z/\z.toNat<f.s.2.length+f.f.2.length) (han:act.2.length<n+1) (sF:act.2.length<2 ^ 60) {bs:List bq} {es:aP}
  (hM:nth bs bm=some (.cells mc tM)) (Dj:nth mc 0=some (A2.qv f.s)) (Ud:nth mc 2=some (A2.rv f.f)) :
  zj prog gl (n+1+1) 113 [.ptr bm 0,A2.iv act] ⟨bs,es⟩=some (.ret (cJ m bs.length),⟨bs++[.cells (dL m (qh f.f.2 act.2 0)) 5],es⟩):=by
 have Ca:bm<bs.length:=by rw[zg] at hM;exact(dA.1 hM).1
 suffices bR:(go ⟨prog,gl,zj prog gl (n+1),ey⟩ (n+1) (Fx prog f113.results.toList λw H1=>w=cJ m bs.length/\H1=⟨bs++[.cells (dL m (qh f.f.2 act.2 0)) 5],[]⟩) [.c (f113.body.getD .skip)] .normal ⟨[.ptr bm 0,A2.iv act]++List.replicate 47 (.bx []),⟨bs,[]⟩,[],[]⟩) by
  obtain⟨w,H1,h0,rfl,rfl⟩:=zO (gl:=gl) (f:=113) (bs:=bs) (es:=es) (args:=[.ptr bm 0,A2.iv act]) (n:=n+1) (hg.hk _ _ (by decide)) (λH=>hg.fq _ _ _ _ (by decide)) func113 rfl (by rw[hg.uq];exact bR)
  rw[h0,yO (by simp only[V.top,cJ];omega)]
  rfl
 let Hz:Nat->Hp:=λq=>⟨bs++[.cells (dL m q) 5],[]⟩
 have gM:∀q,(Hz q).get bm=some (.cells mc tM):=λq=>by
  show nth _ _=_;rw[zg,gF Ca,<- zg,hM]
 have lS0:zk prog ⟨bs,[]⟩ gl.g 26 (.ptr bm 0)=some (A2.qv f.s):=zr ng hM Dj;have lF0:zk prog ⟨bs,[]⟩ gl.g 28 (.ptr bm 2)=some (A2.rv f.f):=zr oP hM Ud;have lF:∀q,zk prog (Hz q) gl.g 28 (.ptr bm 2)=some (A2.rv f.f):=λq=>zr oP (gM q) Ud
 have uT:Cx.bK ⟨prog,gl.g,zj prog gl (n+1),ey⟩ 108 [.int .i64 ((f.s.2.length+f.f.2.length:Nat):Int)] ⟨bs,[]⟩=some (.val (cJ m bs.length),Hz 0):=by
  refine zu func108 rfl ?_;have:=xx hg (n:=n) (k:=f.s.2.length+f.f.2.length) (by omega) (bs:=bs) (es:=[])
  rw[<- Hu] at this;exact this
 have oC:∀q (z:Int),0<=z->z.toNat<f.s.2.length+f.f.2.length->Cx.bK ⟨prog,gl.g,zj prog gl (n+1),ey⟩ 109 [cJ m bs.length,A2.ie z] (Hz q)=some (.val (.bx []),Hz (q ||| 2 ^ z.toNat)):=λq z h0 h1=>by
  refine zu func109 rfl ?_;have:=Y2 hg (n:=n) (k:=z.toNat) (m:=m) (p:=q) (b:=bs.length) (by omega) (by omega) (bs:=bs++[.cells (dL m q) 5]) (es:=[]) (by rw[zg,fM (dB _)];simp)
  rw[show((z.toNat:Nat):Int)=z by omega] at this
  refine this.trans ?_;simp[Hz]
 have nh:∀c,bg (cJ m c)=cJ m c:=λ_=>rfl;have fe:∀c env t,jd env t (some (cJ m c))=some (cJ m c,env):=λ_ _ _=>rfl;simp only[f113,gm,zi];refine zh ?_;simp only[BA,aj,aq,bX,bY,List.replicate]
 refine jo (tk:=[]) (by kernel_rfl) (by kernel_rfl) ?_
 simp only[BA,av,ak,aq,aa,ah,aC,au,zd,ze,bX,bY,lS0,lF0,ng,oP,mb,m4,s4,A2.eu,A2.b_,xJ,QX,xu (show f.s.2.length+f.f.2.length<2 ^ 60 by omega),uT,fe]
 refine zh ?_;simp only[BA,ak,aj,aq,zd,ze,bX,bY,A2.bL,zip]
 refine qx (λk s=>∃i env,k+i=act.2.length/\s=⟨env,Hz (qh f.f.2 (act.2.take i) 0),[],[]⟩/\env.length=49/\nth env 0=some (.ptr bm 0)/\nth env 5=some (cJ m bs.length)/\nth env 24=some (A2.iv act)/\nth env 25=some (.int .i64 (act.2.length:Nat))/\nth env 26=some (.int .i64 (i:Nat))) act.2.length han ⟨0,_,rfl,rfl,rfl,rfl,rfl,rfl,rfl,rfl⟩ ?_;rintro k s ⟨i,env,hki,rfl,hlen,h0,h5,BN,Ug,FL⟩
 simp only[zi];refine zh ?_;simp only[BA,ak,aq,za,Nat.reduceLT,Ug,FL,hlen,qV]
 by_cases hi:i<act.2.length
 ·refine .inl ⟨by simp;omega,?_⟩
  obtain⟨r,rN⟩:∃r,act.2[i]?=some r:=⟨_,gG hi⟩;obtain⟨hr0,o4⟩:=ha r (pG rN);obtain⟨row,cC⟩:∃row,f.f.2[r.toNat]?=some row:=⟨_,gG o4⟩;obtain⟨tG,Gq,hz⟩:=hr row (pG cC);have Nh:((r.toNat:Nat):Int)=r:=by omega
  have GF:zt prog 28 (A2.rv f.f) r=some (.vp [A2.iv row]):=by
   have:=Ue cC
   rwa [Nh] at this
  have mq:act.2.take (i+1)=act.2.take i++[r]:=by rw[List.take_add_one,rN];rfl
  refine zh ?_;simp only[BA,Nat.reduceEqDiff,ak,aq,aF,za,bI,Nat.reduceLT,bD,BN,FL,hlen,A2.bL,Zg rN,Zh];refine zh ?_
  simp only[BA,Nat.reduceEqDiff,ak,aj,aq,aa,ah,aF,za,bI,Nat.reduceLT,bD,h0,hlen,lF,mb,s4,A2.b_,A2.bL,GF,Uf,zip]
  refine qx (λk2 s=>∃j env,k2+j=row.2.length/\s=⟨env,Hz (yQ (row.2.take j) (qh f.f.2 (act.2.take i) 0)),[],[]⟩/\env.length=49/\nth env 0=some (.ptr bm 0)/\nth env 5=some (cJ m bs.length)/\nth env 24=some (A2.iv act)/\nth env 25=some (.int .i64 (act.2.length:Nat))/\nth env 26=some (.int .i64 (i:Nat))/\nth env 37=some (A2.iv row)/\nth env 38=some (.int .i64 (row.2.length:Nat))/\nth env 39=some (.int .i64 (j:Nat))) row.2.length tG ?_ ?_
  ·refine⟨0,_,rfl,rfl,?_,?_,?_,?_,?_,?_,?_,?_,?_⟩<;>simp[za,hlen,h0,h5,BN,Ug,FL]
  rintro k2 s ⟨j,bM,hkj,rfl,cP,e0,e5,QZ,Q0,Q1,IE,IF,Uh⟩;simp only[zi];refine zh ?_;simp only[BA,ak,aq,za,Nat.reduceLT,IF,Uh,cP,qV]
  by_cases hj:j<row.2.length
  ·refine .inl ⟨by simp;omega,?_⟩
   obtain⟨z,Mm⟩:∃z,row.2[j]?=some z:=⟨_,gG hj⟩;obtain⟨JV,GA⟩:=hz z (pG Mm);have Mn:row.2.take (j+1)=row.2.take j++[z]:=by rw[List.take_add_one,Mm];rfl
   have gI:∀q,Cx.bK ⟨prog,gl.g,zj prog gl (n+1),ey⟩ 109 [cJ m bs.length,.int .i64 z] (Hz q)=some (.val (.bx []),Hz (q ||| 2 ^ z.toNat)):=λq=>oC q z JV GA
   refine zh ?_;simp only[BA,Nat.reduceEqDiff,ak,aq,aF,za,bI,Nat.reduceLT,bD,IE,Uh,cP,A2.bL,Zg Mm,Zh];refine zh ?_
   simp only[BA,Nat.reduceEqDiff,av,ak,aq,aC,za,bI,Nat.reduceLT,bD,e5,cP,nh,gI];refine zh ?_
   simp only[BA,Nat.reduceEqDiff,ak,aj,aq,za,bI,Nat.reduceLT,bD,Uh,cP,qn (show j<2 ^ 60 by omega),zp,aO]
   rw[show Hz (yQ (row.2.take j) (qh f.f.2 (act.2.take i) 0) ||| 2 ^ z.toNat)=Hz (yQ (row.2.take (j+1)) (qh f.f.2 (act.2.take i) 0)) by rw[Mn,zdV]]
   refine⟨row.2.length - 1 - j,by omega,j+1,_,by omega,rfl,?_,?_,?_,?_,?_,?_,?_,?_,?_⟩
   all_goals simp[za,cP,e0,e5,QZ,Q0,Q1,IE,IF]
  ·refine .inr ⟨by simp;omega,?_⟩
   obtain rfl:j=row.2.length:=by omega
   simp only[qk,zN,zD,zp,bN,qE,iV,aI]
   refine zh ?_;simp only[BA,Nat.reduceEqDiff,ak,aj,aq,za,bI,Nat.reduceLT,bD,Q1,cP,qn (show i<2 ^ 60 by omega),zp,aO]
   rw[show Hz (yQ (row.2.take row.2.length) (qh f.f.2 (act.2.take i) 0))=Hz (qh f.f.2 (act.2.take (i+1)) 0) by rw[mq,zfX cC,Gc]]
   refine⟨act.2.length - 1 - i,by omega,i+1,_,by omega,rfl,?_,?_,?_,?_,?_,?_⟩
   all_goals simp[za,cP,e0,e5,QZ,Q0]
 ·obtain rfl:i=act.2.length:=by omega
  refine .inr ⟨by simp,?_⟩
  simp only[qk,zN,zD,zp,bN,zi,iV,aI]
  refine zh ?_;simp only[BA,Nat.reduceEqDiff,ak,aq,za,bI,Nat.reduceLT,bD,h5,hlen,nh,fe,go_ret,zp,Fx]
  refine⟨[cJ m bs.length],?_,rfl,?_⟩
  ·simp[zy,za,hlen]
  ·simp only[Hz,Gc]
end
end Go.Proofs.YthohlnmcjkjeiaaGreatDoor
namespace Go.Vm
set_option maxRecDepth 100000
open Go
variable{cx:Cx}{takes:cw}{dst:fz}{type:aD}{pos:String}{after:Array Edge}{guard:oq}{env:aG}{H:Hp}{lk:aP}{df:bS}
theorem v9{a b:aD}{x:a_}(hu:cx.uq (w8 a)=true)(hm:Nat.beq a b=false):cx.op takes ⟨dst,.convert a b x,type,pos,after,guard⟩ env H lk df=iy env H lk df (Kv cx.P H a b (ak env x)):=by
 have hk:ye cx.P a b x env=none:=by
  unfold ye;rw[hm]
 simp only[Cx.op,hk,hu];cases Kv cx.P H a b (ak env x)<;>rfl
def Ui(P:aY)(t:aD)(H:Hp)(ok:Bool):cj->cj->cj
 | some m,some k=>match P.underlying t with
  | some (.map kt e)=>match P.underlying kt with
   | some kd=>match yd kd k with
    | true=>match xh H m with
     | some es=>match M4 P e k es with
      | some (v,f)=>some (if ok then .bx [bg v,.bool f] else bg v)
      | none=>none
     | none=>none
    | false=>none
   | none=>none
  | _=>none
 | _,_=>none
theorem Zi{t : aD}{m k : a_}{ok : Bool} : cx.op takes ⟨dst, .lookup t m k ok, type, pos, after, guard⟩ env H lk df = iy env H lk df (Ui cx.P t H ok (ak env m) (ak env k)) := by
  simp only[Cx.op];refine vC ?_;simp only[jc, Ui];cases ak env m with
  | none =>
    cases cx.P.underlying t with
    | none => rfl
    | some d => cases d <;> try rfl
                rename_i kt e;cases hu : cx.P.underlying kt <;> simp
  | some mv =>
    cases cx.P.underlying t with
    | none => cases ak env k <;> rfl
    | some d => cases d <;> try (cases ak env k <;> rfl)
                rename_i kt e;cases ak env k with
                | none => cases hu : cx.P.underlying kt <;> simp
                | some kv =>
                  cases hu : cx.P.underlying kt with
                  | none => simp[hu]
                  | some kd =>
                    simp only[hu, Option.bind_eq_bind, aV];cases yd kd kv with
                    | false => rfl
                    | true =>
                      simp only[mw, gh, bD];cases xh H mv with
                      | none => rfl
                      | some es =>
                        simp only[aV];cases M4 cx.P e kv es with
                        | none => rfl
                        | some q => rfl
theorem zdW{t:aD}:cx.op takes ⟨dst,.makeMap t none,type,pos,after,guard⟩ env H lk df=some (.val (.map H.az.length),⟨env,H.push (.map []),lk,df⟩):=by
 simp[Cx.op,qm]
theorem zbT{t:aD}{m k x:a_}{b:Nat}{kv xv:V}{es iF:List (V×V)}(h1:ak env m=some (.map b))(h2:ak env k=some kv)(h3:ak env x=some xv)(hk:M3 cx.P t kv=true)(hb:H.get b=some (.map es))(hs:G6 kv xv es=some iF)(ht:(V.bx [kv,xv]).top<=b+1) :
  cx.op takes ⟨dst,.mapUpdate t m k x,type,pos,after,guard⟩ env H lk df=some (.skip,⟨env,H.set b (.map iF),lk,df⟩):=by
 simp only[Cx.op,h1,h2,h3,hk,mw,gh,bD,ql,hb,hs,eH,ji];rw[jV ht]
end Go.Vm
namespace Go.Proofs.YthohlnmcjkjeiaaGreatDoor
open Go Go.Vm
open Go.Proofs.Tryz
set_option maxRecDepth 100000
section
variable{gl:Gl}
theorem uH:∀{l:bO},(∀b∈l,b<256)->nG (l.map λb=>V.int .u8 (b:Nat))=some l
 | [],_=>rfl
 | b::l,h=>by
  have hb:=h b (fy ..);simp only[bk,nG,uH λx hx=>h x (eo _ hx),aW]
  congr 2
  simp;omega
theorem FM:∀{m:Nat}{l:aG},m<=l.length->xR false 1 m l=l.take m
 | 0,_,_=>rfl
 | m+1,[],h=>by simp at h
 | m+1,x::l,h=>by
  simp only[bh] at h;simp only[xR,Aj,ny,AH];rw[FM (by omega)]
  rfl
theorem xK{H:Hp}{m w c:Nat}(hb:H.get c=some (.cells (dL m w) 5)):Kv prog H 205 9 (some (cJ m c))=some (.str (rm m w)):=by
 have gI:((dL m w).drop 0).map bg=dL m w:=by
  rw[ny];simp only[dL,List.map_map];exact List.map_congr_left λ_ _=>rfl
 have he:wu prog H 5 (.sr c 0 m m)=some (dL m w):=by
  simp only[wu,hb,FH,sW,Option.bind_eq_bind,aV,gI];rw[if_pos (by simp[yY,Nat.ble_eq]),FM (by rw[yY];exact dB _),su (by rw[yY];exact dB _)]
 simp only[Kv,Ku,IC,cJ,he,vz,T',Y7,Option.bind_eq_bind,aV];rw[dL,uH zpf];rfl
def w6(m:Nat):Nat->bO->List (V×V)
 | _,[]=>[]
 | k,w::ws=>(.str (rm m w),.int .i64 (k:Nat))::w6 m (k+1) ws
def kH(w:Nat):Nat->bO->Option Nat
 | _,[]=>none
 | k,x::xs=>if x=w then some k else kH w (k+1) xs
theorem zht{m p q:Nat}(hp:p<2 ^ (8 * m))(hq:q<2 ^ (8 * m)):I7 (.str (rm m p)) (.str (rm m q))=some (q == p):=by
 simp only[I7,zji hp hq]
 congr 1
 exact EK.2 ⟨λh=>by simpa using (by simpa using h:p=q).symm,λh=>by simpa using (by simpa using h:q=p).symm⟩
theorem zhu{m w:Nat}(hw:w<2 ^ (8 * m)):∀{ws:bO}{k:Nat},(∀x∈ws,x<2 ^ (8 * m))->I8 (.str (rm m w)) (w6 m k ws)=some ((kH w k ws).map λi=>.int .i64 (i:Nat))
 | [],_,_=>rfl
 | x::ws,k,h=>by
  simp only[w6,I8,zht hw (h x (fy ..)),kH]
  by_cases e:x=w
  ·simp[e]
  ·have:(x == w)=false:=by simpa using e
   simp only[this,if_neg e];exact zhu hw λy hy=>h y (eo _ hy)
theorem Zj{m w:Nat}(hw:w<2 ^ (8 * m)):∀{ws:bO}{k:Nat},(∀x∈ws,x<2 ^ (8 * m))->kH w k ws=none->G6 (.str (rm m w)) (.int .i64 ((k+ws.length:Nat):Int)) (w6 m k ws)=some (w6 m k (ws++[w]))
 | [],_,_,_=>rfl
 | x::ws,k,h,hn=>by
  simp only[kH] at hn;split at hn
  ·cases hn
  ·rename_i e;have:(x == w)=false:=by simpa using e
   simp only[w6,G6,zht hw (h x (fy ..)),this,bh,br];rw[show k+(ws.length+1)=(k+1)+ws.length by omega,Zj hw (λy hy=>h y (eo _ hy)) hn]
   rfl
theorem Zk{m:Nat}:∀{ws:bO}{k:Nat},(w6 m k ws).length=ws.length
 | [],_=>rfl
 | _::ws,k=>by simp[w6,Zk]
theorem FO:prog.underlying 207=some (.map 9 3):=by kernel_rfl
theorem Zl{H:Hp}{m w d:Nat}{ws:bO}(hw:w<2 ^ (8 * m))(Db:∀x∈ws,x<2 ^ (8 * m))(hb:H.get d=some (.map (w6 m 0 ws))) :
  Ui prog 207 H true (some (.map d)) (some (.str (rm m w)))=some (.bx [.int .i64 (((kH w 0 ws).getD 0:Nat):Int),.bool (kH w 0 ws).isSome]):=by
 simp only[Ui,FO,T',yd,xh,hb,M4,zhu hw Db];cases kH w 0 ws with
 | none=>simp[Uc,bg]
 | some i=>simp[bg]
theorem zmC{s:bO}:M3 prog 207 (.str s)=true:=by
 simp only[M3,FO,T',yd]
theorem zjK{H:Hp}{d:Nat}{es:List (V×V)}(hb:H.get d=some (.map es)):qW prog H 207 (.map d)=some ((es.length:Nat):Int):=by
 simp only[qW,FO,hb]
end
section
variable{gl:Gl}
def ni(f:A2.F)(xs cls:aG)(ld:V):aG:=A2.qv f.s::A2.iv f.r::A2.rv f.f::A2.rv f.n::zm 1 205 xs::(cls++[ld])
def vg(es:aP)(b:Nat)(v:V):aP:=if v.top<=b+1 then es else (b,v.top)::es
theorem gC{B:List bq}{es:aP}{b:Nat}{v:V}:Hp.bU ⟨B,es⟩ b v=⟨B,vg es b v⟩:=by
 unfold Hp.bU vg;split<;>rfl
section
variable{P:aY}{t n:aD}{B:List bq}{off bm:Nat}{cs:aG}{ty e:aD}{xs ys:aG}{env:aG}{df:bS}{es:aP}
theorem Q2(ha:qG P t=some false)(hb:nth B bm=some (.cells cs ty))(hn:nth cs off=some (zm n e xs)) :
  v4 P t env ⟨B,es⟩ [] df (some (.ptr bm off))=some (.val (zm n e xs),⟨env,⟨B.set bm (.cells (cs.set off (oO n xs)) ty),es⟩,kD bm off xs,df⟩):=by
 rw[Tw ha (show Hp.get ⟨B,es⟩ bm=_ from hb) hn];rfl
theorem Uj(hs:z4 P t=some 1)(bW:bm<B.length)(ho:off<cs.length) :
  qp P t ⟨B.set bm (.cells (cs.set off (oO n xs)) ty),es⟩ (kD bm off xs) df (some (zm n e ys,env)) (some (.ptr bm off))=some (.skip,⟨env,⟨B.set bm (.cells (cs.set off (zm n e ys)) ty),vg es bm (zm n e ys)⟩,kD bm off xs,df⟩):=by
 rw[zA hs (show Hp.get ⟨_,es⟩ bm=some (.cells (cs.set off (oO n xs)) ty) by show nth _ _=_;simp[zg,bW]) Pw (by rw[vt];rfl) (by rw[bI];omega) (Pv ho)]
 simp only[Hp.set,List.set_set,vt,Vm.storeCells,gC]
end
theorem FP:qG prog 30=some true:=by kernel_rfl
theorem FQ:z4 prog 30=some 4:=by kernel_rfl
theorem Mo:zH prog 30 3=some 3:=by kernel_rfl
theorem CJ:mY prog 201 205 1 24:=⟨by kernel_rfl,by kernel_rfl,by kernel_rfl,by decide,by kernel_rfl,by kernel_rfl,by kernel_rfl⟩
theorem zmD(f:A2.F):(A2.fc f).map bg=A2.fc f:=by
 simp[A2.fc,A2.eu,A2.bL,A2.b_]
theorem zpz{f:A2.F}{env:aG}(h:nth env 17=some (A2.fv f)):kw prog 204 #[(0,.tmp 17)] env=some (.agg (ni f [] (List.replicate 256 (.int .i64 0)) .aH)):=by
 rw[zbu (bM:=List.replicate 17 .eC++[A2.fv f]) (xs:=[.tmp 17]) (λt ht=>?_) (by simp)]
 ·kernel_rfl
 ·have:t=17:=by simpa using ht
  subst this;rw[<- zg,h];rfl
theorem zof{f:A2.F}{a0 a1 a2 a3 a4 a5 a6 a7 a8 a9 a10 a11 a12 a13 a14 a15 a16:V}{r:aG}:kw prog 204 #[(0,.tmp 17)] (a0::a1::a2::a3::a4::a5::a6::a7::a8::a9::a10::a11::a12::a13::a14::a15::a16::A2.fv f::r)=some (.agg (ni f [] (List.replicate 256 (.int .i64 0)) .aH)):=zpz rfl
theorem zog{f:A2.F}:(ni f [] (List.replicate 256 (.int .i64 0)) .aH).map bg=ni f [] (List.replicate 256 (.int .i64 0)) .aH:=by
 simp only[ni,zm,bk,List.map_append,List.map_replicate,bw,A2.eu,A2.bL,A2.b_,dr,zS]
def yR(r:A2.cX):Nat:=yQ r.2 0
def eN(bs:List bq)(f:A2.F)(xs cls:aG)(ld:V)(rest:List bq):List bq:=bs++(.cells (A2.fc f) 30::.cells (ni f xs cls ld) 204::rest)
def yS(m:Nat)(rows:List A2.cX):List bq:=rows.map λr=>.cells (dL m (yR r)) 5
def yU(m b k:Nat):aG:=(List.range k).map λj=>cJ m (b+j)
section
variable{bs:List bq}{f:A2.F}{xs cls BY Q3:aG}{ld GO:V}{rest:List bq}{x:bq}{i:Nat}
theorem N0:(eN bs f xs cls ld rest).length=bs.length+2+rest.length:=by simp[eN];omega
theorem FR:nth (eN bs f xs cls ld rest) bs.length=some (.cells (A2.fc f) 30):=by
 rw[eN,zg,fM (dB _)];simp
theorem Dk:nth (eN bs f xs cls ld rest) (bs.length+1)=some (.cells (ni f xs cls ld) 204):=by
 rw[eN,zg,fM (by omega)];simp
theorem uI:nth (eN bs f xs cls ld rest) (bs.length+2+i)=nth rest i:=by
 rw[eN,zg,zg,fM (by omega),show bs.length+2+i - bs.length=i+1+1 by omega];simp
theorem Zm:(eN bs f xs cls ld rest).set (bs.length+1) (.cells (ni f BY Q3 GO) 204)=eN bs f BY Q3 GO rest:=by
 rw[eN,uN _ _ (by omega)];simp[eN]
theorem pQ:eN bs f xs cls ld rest++[x]=eN bs f xs cls ld (rest++[x]):=by simp[eN]
theorem Uk:(eN bs f xs cls ld rest).set (bs.length+2+i) x=eN bs f xs cls ld (rest.set i x):=by
 rw[eN,uN _ _ (by omega),show bs.length+2+i - bs.length=i+1+1 by omega];simp[eN]
end
theorem Ul{rs:List bq}{x y:bq}{i:Nat}(h:rs.length=i):(rs++[x]).set i y=rs++[y]/\nth (rs++[x]) i=some x:=by
 subst h;constructor
 ·rw[uN _ _ (dB _)];simp
 ·rw[zg,fM (dB _)];simp
theorem Zn{env:aG}{t:Nat}{r:A2.cX}:jd env t (some (A2.iv r))=some (A2.iv r,env):=by
 rcases Sx.cO 1 r.1 (r.2.map A2.ie) with e|⟨_,e⟩<;>rw[A2.iv,e]<;>rfl
theorem zkJ{m b k:Nat}:yU m b (k+1)=yU m b k++[cJ m (b+k)]:=by simp[yU,List.range_succ]
theorem zkK{m k:Nat}{rows:List A2.cX}{r:A2.cX}(h:rows[k]?=some r):yS m (rows.take (k+1))=yS m (rows.take k)++[.cells (dL m (yR r)) 5]:=by
 rw[List.take_add_one,h];simp[yS]
def oG(ss:List A2.Q4)(y:Nat):Nat->Nat
 | 0=>0
 | k+1=>match ss[k]? with
  | some s=>if ym s y then oG ss y k ||| 2 ^ k else oG ss y k
  | none=>oG ss y k
def fE(w:Nat->Nat):Nat->bO×bO×bO
 | 0=>([],[],[])
 | y+1=>match kH (w y) 0 (fE w y).1 with
  | some i=>((fE w y).1,(fE w y).2.1++[i],(fE w y).2.2)
  | none=>((fE w y).1++[w y],(fE w y).2.1++[(fE w y).1.length],(fE w y).2.2++[y])
def xg(w:Nat->Nat)(y:Nat):aG:=(fE w y).2.1.map (λi=>.int .i64 (i:Nat))++List.replicate (256 - y) (.int .i64 0)
def t_(w:Nat->Nat)(y:Nat):V:=zm 1 5 ((fE w y).2.2.map λb=>.int .u8 (b:Nat))
theorem N1{w:Nat->Nat}:∀y,(fE w y).2.1.length=y
 | 0=>rfl
 | y+1=>by
  simp only[fE];split<;>simp[N1 y]
theorem Um{w:Nat->Nat}{y:Nat}(h:y<=256):(xg w y).length=256:=by simp[xg,N1];omega
theorem zmE{ss:List A2.Q4}{y m:Nat}:∀k,k<=8 * m->oG ss y k<2 ^ (8 * m)
 | 0,_=>Nat.pow_pos (by decide)
 | k+1,h=>by
  have h0:=zmE (ss:=ss) (y:=y) (m:=m) k (by omega)
  simp only[oG];split
  ·split
   ·exact I2 h0 (G2 (by decide) (by omega))
   ·exact h0
  ·exact h0
theorem Q5{rs js:List bq}{x y:bq}{i:Nat}(h:rs.length=i):(rs++(x::js)).set i y=rs++(y::js)/\nth (rs++(x::js)) i=some x:=by
 subst h;constructor
 ·rw[uN _ _ (dB _)];simp
 ·rw[zg,fM (dB _)];simp
theorem Zo{env:aG}{t b:Nat}:jd env t (some (.map b))=some (.map b,env):=rfl
theorem vx{b:Nat}:bg (.map b)=.map b:=rfl
theorem zhv{w:Nat->Nat}{y c:Nat}(h:y<256)(hc:(fE w (y+1)).2.1=(fE w y).2.1++[c]):(xg w y).set y (.int .i64 (c:Nat))=xg w (y+1):=by
 unfold xg;rw[hc,List.map_append,uN _ _ (by simp[N1]),show 256 - y=(256 - (y+1))+1 by omega,G3]
 simp[N1]
theorem Q6:prog.underlying 202=some (.array 256 3):=by kernel_rfl
theorem Zp{b y:Nat}(h:y<256):zt prog 202 (.ptr b 5) ((y:Nat):Int)=some (.ptr b (5+y)):=by
 simp only[zt,Q6,tX];rw[if_pos (by omega),uP,I5]
theorem zoh{f:A2.F}{xs cls:aG}{ld v:V}{y:Nat}(h:y<cls.length):(ni f xs cls ld).set (5+y) v=ni f xs (cls.set y v) ld:=by
 rw[I4 5 y];simp only[ni,bY];rw[F_ _ _ h]
theorem zjM{f:A2.F}{xs cls:aG}{ld:V}{y:Nat}(h:y<cls.length):(ni f xs cls ld)[5+y]?=cls[y]?:=by
 rw[I4 5 y];simp only[ni,List.getElem?_cons_succ];rw[gF h]
theorem zmG{w:Nat->Nat}{y i:Nat}(h:i<(xg w y).length):∃z,(xg w y)[i]?=some (.int .i64 z):=by
 have dG:∀v∈xg w y,∃z,v=.int .i64 z:=by
  intro v hv;unfold xg at hv;rcases tu.1 hv with hv|hv
  ·obtain⟨a,_,ha⟩:=mU.1 hv;exact⟨_,ha.symm⟩
  ·exact⟨0,(List.mem_replicate.1 hv).2⟩
 obtain⟨z,hz⟩:=dG _ (List.getElem_mem h);exact⟨z,by rw[gG h,hz]⟩
theorem zmH{f:A2.F}{xs cls:aG}{ld:V}(h:cls.length=256):nth (ni f xs cls ld) 261=some ld:=by
 rw[zg,show 261=5+256 from rfl,I4];simp only[ni,List.getElem?_cons_succ];rw[fM (by omega),h];rfl
theorem zmI{f:A2.F}{xs cls:aG}{ld v:V}(h:cls.length=256):(ni f xs cls ld).set 261 v=ni f xs cls v:=by
 rw[show 261=256+5 from rfl];simp only[ni,bY];rw[uN _ _ (by omega),h];rfl
theorem Zq:mY prog 78 5 1 1:=⟨by kernel_rfl,by kernel_rfl,by kernel_rfl,by decide,by kernel_rfl,by kernel_rfl,by kernel_rfl⟩
theorem Dl:qG prog 78=some false:=by kernel_rfl
theorem zcG{w:Nat->Nat}:∀y,(fE w y).2.2.length<=y/\(fE w y).1.length<=y
 | 0=>by simp[fE]
 | y+1=>by
  have:=zcG (w:=w) y;simp only[fE];split
  ·exact⟨Km this.1,Km this.2⟩
  ·simp only[aZ,I1];omega
theorem eT{l:aG}:bg (.bx l)=.bx l:=rfl
theorem Q7:z4 prog 50=some 4:=by kernel_rfl
theorem Zr:qL prog 50=some (.agg [.int .u64 0,.int .u64 0,.int .u64 0,.int .u64 0]):=by kernel_rfl
theorem Zs{y:Nat}(h:y<256):vz prog 3 5 (.int .i64 (y:Nat))=some (.int .u8 (y:Nat)):=by
 simp only[vz,u3',Y7,Option.bind_eq_bind,aV,PA h]
theorem zbW(hg:GS gl){n m:Nat}{f:A2.F}(rI:f.s.2.length<2 ^ 30)(hnf:f.f.2.length<2 ^ 30)(hnn:f.n.2.length<2 ^ 30)(Hu:m=(f.s.2.length+f.f.2.length) / 8+1)(hln:f.n.2.length<n+1)(Au:f.s.2.length<n+1)(hn:300<=n)
  (hr:∀row∈f.n.2,row.2.length<n+1/\row.2.length<2 ^ 60/\∀z∈row.2,0<=z/\z.toNat<f.s.2.length+f.f.2.length) (hs:∀q∈f.s.2,CI q) {bs:List bq} {es:aP} :
  ∃eC iF,zj prog gl (n+1+1) 73 [A2.fv f] ⟨bs,es⟩=some (.ret (.ptr (bs.length+1) 0),⟨eN bs f (yU m (bs.length+2) f.n.2.length) (xg (λy=>oG f.s.2 y f.s.2.length) 256) (t_ (λy=>oG f.s.2 y f.s.2.length) 256) (yS m f.n.2++eC),iF⟩):=by
 suffices bR:(go ⟨prog,gl,zj prog gl (n+1),ey⟩ (n+1) (Fx prog f73.results.toList λw H1=>w=.ptr (bs.length+1) 0/\∃eC iF,H1=⟨eN bs f (yU m (bs.length+2) f.n.2.length) (xg (λy=>oG f.s.2 y f.s.2.length) 256) (t_ (λy=>oG f.s.2 y f.s.2.length) 256) (yS m f.n.2++eC),iF⟩) [.c (f73.body.getD .skip)] .normal ⟨[A2.fv f]++List.replicate 112 (.bx []),⟨bs,[]⟩,[],[]⟩) by
  obtain⟨w,H1,h0,rfl,eC,iF,rfl⟩:=zO (gl:=gl) (f:=73) (bs:=bs) (es:=es) (args:=[A2.fv f]) (n:=n+1) (hg.hk _ _ (by decide)) (λH=>hg.fq _ _ _ _ (by decide)) func73 rfl (by rw[hg.uq];exact bR)
  exact⟨eC,iF++es,by rw[h0,yO (by simp only[V.top];omega)]⟩
 have Jq:dD (A2.fv f)=true:=rfl;have Gt:∀env t,jd env t (some (A2.fv f))=some (A2.fv f,env):=λ_ _=>rfl;have nZ:V.laid (A2.fv f)=A2.fc f:=zmD f;have Aa:bg (A2.fv f)=A2.fv f:=rfl;simp only[f73,gm,zi];refine zh ?_
 simp only[BA,aj,aq,zc,zd,bX,bY,List.replicate,Gt,qg Jq,nZ];refine zh ?_;have Un:(⟨bs++[.cells (A2.fc f) 30],[]⟩:Hp).get bs.length=some (.cells (A2.fc f) 30):=by
  show nth _ _=_;rw[zg,fM (dB _)];simp
 have D5:zk prog ⟨bs++[.cells (A2.fc f) 30],[]⟩ gl.g 30 (.ptr bs.length 0)=some (A2.fv f):=by
  rw[jX,Un,jB,qy,FP,FQ];simp[wP,A2.fv,A2.fc]
 have Q8:∀env t,jd env t (some (.agg (ni f [] (List.replicate 256 (.int .i64 0)) .aH)))=some (.agg (ni f [] (List.replicate 256 (.int .i64 0)) .aH),env):=λ_ _=>rfl;have Ca:V.laid (.agg (ni f [] (List.replicate 256 (.int .i64 0)) .aH))=ni f [] (List.replicate 256 (.int .i64 0)) .aH:=zog;have C4:dD (V.agg (ni f [] (List.replicate 256 (.int .i64 0)) .aH))=true:=rfl
 have hmc:bg (V.agg (ni f [] (List.replicate 256 (.int .i64 0)) .aH))=V.agg (ni f [] (List.replicate 256 (.int .i64 0)) .aH):=rfl;simp only[BA,ak,aq,zc,zd,ze,bX,bY,D5,Aa,zof,Q8,qg C4,Ca]
 obtain⟨lU,FU⟩:∃c:aG,c=List.replicate 256 (.int .i64 0):=⟨_,rfl⟩;rw[<- FU];have ao2:lU.length=256:=by rw[FU];simp
 have Ft:bs++[bq.cells (A2.fc f) 30,.cells (ni f [] lU .aH) 204]=eN bs f [] lU .aH []:=rfl;rw[Ft];have lS:∀xs cls ld rest e,zk prog ⟨eN bs f xs cls ld rest,e⟩ gl.g 26 (.ptr bs.length 0)=some (A2.qv f.s):=λ_ _ _ _ _=>zr ng FR rfl
 have lF:∀xs cls ld rest e,zk prog ⟨eN bs f xs cls ld rest,e⟩ gl.g 28 (.ptr bs.length 2)=some (A2.rv f.f):=λ_ _ _ _ _=>zr oP FR rfl;have lN:∀xs cls ld rest e,zk prog ⟨eN bs f xs cls ld rest,e⟩ gl.g 28 (.ptr bs.length 3)=some (A2.rv f.n):=λ_ _ _ _ _=>zr oP FR rfl;refine zh ?_
 simp only[BA,ak,aq,ah,zd,ze,bX,bY,lS,lF,m4,s4,A2.eu,A2.b_,xJ,QX,xu (show f.s.2.length+f.f.2.length<2 ^ 60 by omega)]
 refine zh ?_;simp only[BA,ak,aj,aq,ah,zd,ze,bX,bY,lN,Mo,A2.b_,QX];have nh:∀c,bg (cJ m c)=cJ m c:=λ_=>rfl;have fe:∀c env t,jd env t (some (cJ m c))=some (cJ m c,env):=λ_ _ _=>rfl
 refine qx (λk s=>∃i env e,k+i=f.n.2.length/\s=⟨env,⟨eN bs f (yU m (bs.length+2) i) lU .aH (yS m (f.n.2.take i)),e⟩,[],[]⟩/\env.length=113/\nth env 1=some (.ptr bs.length 0)/\nth env 3=some (.ptr (bs.length+1) 0)/\nth env 4=some (.int .i64 ((f.s.2.length+f.f.2.length:Nat):Int))/\nth env 28=some (A2.rv f.n)/\nth env 29=some (.int .i64 (f.n.2.length:Nat))/\nth env 30=some (.int .i64 (i:Nat))) f.n.2.length hln ⟨0,_,_,rfl,rfl,rfl,rfl,rfl,rfl,rfl,rfl,rfl⟩ ?_
 rintro k s ⟨i,env,e,hki,rfl,hlen,h1,h3,h4,IG,N2,N3⟩;simp only[zi];refine zh ?_;simp only[BA,ak,aq,za,Nat.reduceLT,N2,N3,hlen,qV]
 by_cases hi:i<f.n.2.length
 ·refine .inl ⟨by simp;omega,?_⟩
  obtain⟨row,cC⟩:∃row,f.n.2[i]?=some row:=⟨_,gG hi⟩;obtain⟨tG,Gq,hz⟩:=hr row (pG cC);refine zh ?_;simp only[BA,Nat.reduceEqDiff,ak,aq,aF,za,bI,Nat.reduceLT,bD,IG,N3,hlen,A2.b_,A2.bL,Ue cC,Uf,Zn];refine zh ?_
  have NW:(yS m (f.n.2.take i)).length=i:=by simp[yS];omega
  obtain⟨bi,HK⟩:∃x,x=bs.length+2+i:=⟨_,rfl⟩;have uT:Cx.bK ⟨prog,gl.g,zj prog gl (n+1),ey⟩ 108 [.int .i64 ((f.s.2.length+f.f.2.length:Nat):Int)] ⟨eN bs f (yU m (bs.length+2) i) lU .aH (yS m (f.n.2.take i)),e⟩=some (.val (cJ m bi),⟨eN bs f (yU m (bs.length+2) i) lU .aH (yS m (f.n.2.take i)++[.cells (dL m 0) 5]),e⟩):=by
   refine zu func108 rfl ?_;have:=xx hg (n:=n) (k:=f.s.2.length+f.f.2.length) (by omega) (bs:=eN bs f (yU m (bs.length+2) i) lU .aH (yS m (f.n.2.take i))) (es:=e)
   rw[<- Hu,pQ,N0,NW,<- HK] at this;exact this
  simp only[BA,Nat.reduceEqDiff,av,ak,aq,aC,za,bI,Nat.reduceLT,bD,h4,hlen,uT,fe];refine zh ?_
  simp only[BA,Nat.reduceEqDiff,ak,aj,aq,za,bI,Nat.reduceLT,bD,hlen,A2.bL,zip]
  have oC:∀q (z:Int),0<=z->z.toNat<f.s.2.length+f.f.2.length->Cx.bK ⟨prog,gl.g,zj prog gl (n+1),ey⟩ 109 [cJ m bi,.int .i64 z] ⟨eN bs f (yU m (bs.length+2) i) lU .aH (yS m (f.n.2.take i)++[.cells (dL m q) 5]),e⟩=some (.val (.bx []),⟨eN bs f (yU m (bs.length+2) i) lU .aH (yS m (f.n.2.take i)++[.cells (dL m (q ||| 2 ^ z.toNat)) 5]),e⟩):=λq z h0 h1=>by
   refine zu func109 rfl ?_;rw[HK];have:=Y2 hg (n:=n) (k:=z.toNat) (m:=m) (p:=q) (b:=bs.length+2+i) (by omega) (by omega) (bs:=eN bs f (yU m (bs.length+2) i) lU .aH (yS m (f.n.2.take i)++[.cells (dL m q) 5])) (es:=e) (by rw[uI];exact(Ul (y:=.cells (dL m q) 5) NW).2)
   rw[show((z.toNat:Nat):Int)=z by omega,Uk,(Ul NW).1] at this
   exact this
  refine qx (λk2 s=>∃j env,k2+j=row.2.length/\s=⟨env,⟨eN bs f (yU m (bs.length+2) i) lU .aH (yS m (f.n.2.take i)++[.cells (dL m (yQ (row.2.take j) 0)) 5]),e⟩,[],[]⟩/\env.length=113/\nth env 1=some (.ptr bs.length 0)/\nth env 3=some (.ptr (bs.length+1) 0)/\nth env 4=some (.int .i64 ((f.s.2.length+f.f.2.length:Nat):Int))/\nth env 28=some (A2.rv f.n)/\nth env 29=some (.int .i64 (f.n.2.length:Nat))/\nth env 30=some (.int .i64 (i:Nat))/\nth env 7=some (cJ m bi)/\nth env 36=some (A2.iv row)/\nth env 37=some (.int .i64 (row.2.length:Nat))/\nth env 38=some (.int .i64 (j:Nat))) row.2.length tG ?_ ?_
  ·refine⟨0,_,rfl,rfl,?_,?_,?_,?_,?_,?_,?_,?_,?_,?_,?_⟩<;>simp[za,hlen,h1,h3,h4,IG,N2,N3]
  rintro k2 s ⟨j,bM,hkj,rfl,cP,e1,e3,e4,N4,N5,FV,e7,Uo,IE,IF⟩;simp only[zi];refine zh ?_;simp only[BA,ak,aq,za,Nat.reduceLT,IE,IF,cP,qV]
  by_cases hj:j<row.2.length
  ·refine .inl ⟨by simp;omega,?_⟩
   obtain⟨z,Mm⟩:∃z,row.2[j]?=some z:=⟨_,gG hj⟩;obtain⟨JV,GA⟩:=hz z (pG Mm);have Mn:row.2.take (j+1)=row.2.take j++[z]:=by rw[List.take_add_one,Mm];rfl
   have gI:=λq=>oC q z JV GA;refine zh ?_;simp only[BA,Nat.reduceEqDiff,ak,aq,aF,za,bI,Nat.reduceLT,bD,Uo,IF,cP,A2.bL,Zg Mm,Zh];refine zh ?_
   simp only[BA,Nat.reduceEqDiff,av,ak,aq,aC,za,bI,Nat.reduceLT,bD,e7,cP,nh,gI];refine zh ?_
   simp only[BA,Nat.reduceEqDiff,ak,aj,aq,za,bI,Nat.reduceLT,bD,IF,cP,qn (show j<2 ^ 60 by omega),zp,aO]
   rw[show yQ (row.2.take j) 0 ||| 2 ^ z.toNat=yQ (row.2.take (j+1)) 0 by rw[Mn,zdV]]
   refine⟨row.2.length - 1 - j,by omega,j+1,_,by omega,rfl,?_,?_,?_,?_,?_,?_,?_,?_,?_,?_,?_⟩
   all_goals simp[za,cP,e1,e3,e4,N4,N5,FV,e7,Uo,IE]
  ·refine .inr ⟨by simp;omega,?_⟩
   obtain rfl:j=row.2.length:=by omega
   simp only[qk,zN,zD,zp,bN,iV,aI]
   rw[Gc,show yQ row.2 0=yR row from rfl,<- zkK cC];obtain⟨xs,pE⟩:∃xs,xs=yU m (bs.length+2) i:=⟨_,rfl⟩;obtain⟨rb,Jf⟩:∃rb,rb=yS m (f.n.2.take (i+1)):=⟨_,rfl⟩;have Q9:xs.length=i:=by rw[pE];simp[yU]
   rw[<- pE,<- Jf];have Zt:bs.length+1<(eN bs f xs lU .aH rb).length:=by rw[N0];omega
   have mZ:∀env,v4 prog 201 env ⟨eN bs f xs lU .aH rb,e⟩ [] [] (some (.ptr (bs.length+1) 4))=some (.val (zm 1 205 xs),⟨env,⟨(eN bs f xs lU .aH rb).set (bs.length+1) (.cells ((ni f xs lU .aH).set 4 (oO 1 xs)) 204),e⟩,kD (bs.length+1) 4 xs,[]⟩):=λenv=>Q2 ir Dk rfl;have lQ:=CJ.BH (v:=cJ m bi) rfl rfl
   have gj:∀H,kb prog H 201 (zm 1 205 xs) (.sl 1 [cJ m bi] .no)=some (zm 1 205 (xs++[cJ m bi])):=λH=>jM CJ (by simp) (j9 (by simp[Q9];omega) (by simp[Q9];omega))
   have Bm:∀env,qp prog 201 ⟨(eN bs f xs lU .aH rb).set (bs.length+1) (.cells ((ni f xs lU .aH).set 4 (oO 1 xs)) 204),e⟩ (kD (bs.length+1) 4 xs) [] (some (zm 1 205 (xs++[cJ m bi]),env)) (some (.ptr (bs.length+1) 4))=some (.skip,⟨env,⟨eN bs f (xs++[cJ m bi]) lU .aH rb,vg e (bs.length+1) (zm 1 205 (xs++[cJ m bi]))⟩,kD (bs.length+1) 4 xs,[]⟩):=λenv=>by
    rw[Uj CJ.st Zt (by simp[ni])]
    rw[show(ni f xs lU .aH).set 4 (zm 1 205 (xs++[cJ m bi]))=ni f (xs++[cJ m bi]) lU .aH from rfl,Zm]
   refine wK (tk:=[50]) (by kernel_rfl) ?_
   simp only[BA,Nat.reduceEqDiff,ak,aq,aa,ah,za,bI,Nat.reduceLT,bD,e3,e7,cP,Dh,nh,mZ,lQ,BG,gj,Bm,ky (cx:=⟨prog,gl.g,zj prog gl (n+1),ey⟩) (show rC prog ey 201=false by kernel_rfl)]
   have C1:xs++[cJ m bi]=yU m (bs.length+2) (i+1):=by rw[zkJ,pE,HK]
   rw[C1,Jf];refine zh ?_;simp only[BA,Nat.reduceEqDiff,ak,aj,aq,za,bI,Nat.reduceLT,bD,FV,cP,qn (show i<2 ^ 60 by omega),zp,aO]
   refine⟨f.n.2.length - 1 - i,by omega,i+1,_,_,by omega,rfl,?_,?_,?_,?_,?_,?_,?_⟩
   all_goals simp[za,cP,e1,e3,e4,N4,N5]
 ·obtain rfl:i=f.n.2.length:=by omega
  refine .inr ⟨by simp,?_⟩
  simp only[qk,zN,zD,zp,bN,zi,iV,aI]
  have Jf:f.n.2.take f.n.2.length=f.n.2:=Gc;rw[Jf];obtain⟨X,hX⟩:∃X,X=yU m (bs.length+2) f.n.2.length:=⟨_,rfl⟩;obtain⟨R,hR⟩:∃R,R=yS m f.n.2:=⟨_,rfl⟩;obtain⟨mi,A9⟩:∃x,x=bs.length+2+R.length:=⟨_,rfl⟩;rw[<- hX,<- hR];obtain⟨w,hw⟩:∃w:Nat->Nat,w=λy=>oG f.s.2 y f.s.2.length:=⟨_,rfl⟩;have Up:∀y,w y<2 ^ (8 * m):=λy=>by rw[hw];exact zmE _ (by omega)
  have Q_:∀y,∀x∈(fE w y).1,x<2 ^ (8 * m):=by
   intro y
   induction y with
   | zero=>intro x hx;simp[fE] at hx
   | succ y ih =>
    intro x hx;simp only[fE] at hx;split at hx
    ·exact ih x hx
    ·rcases tu.1 hx with hx|hx
     ·exact ih x hx
     ·rw[r9.1 hx];exact Up y
  refine zh ?_;have Ra:(eN bs f X lU .aH R).length=mi:=by rw[N0,A9]
  simp only[BA,Nat.reduceEqDiff,aq,zc,za,bI,Nat.reduceLT,bD,hlen,zdW,Ra,pQ,Zo];refine zh ?_
  simp only[BA,ak,aj,aq];have Rb:eN bs f X lU .aH (R++[.map []])=eN bs f X (xg w 0) (t_ w 0) (R++(.map (w6 m 0 (fE w 0).1)::[])):=by
   rw[FU];rfl
  rw[Rb];have Mp:∀cls ld es j0 e,(⟨eN bs f X cls ld (R++(.map es::j0)),e⟩:Hp).get mi=some (.map es):=λcls ld es j0 e=>by
   show nth _ _=_;rw[A9,uI];exact(Q5 (y:=.map es) rfl).2
  refine qx (λk s=>∃y env e j0,k+y=256/\s=⟨env,⟨eN bs f X (xg w y) (t_ w y) (R++(.map (w6 m 0 (fE w y).1)::j0)),e⟩,[],[]⟩/\env.length=113/\nth env 1=some (.ptr bs.length 0)/\nth env 3=some (.ptr (bs.length+1) 0)/\nth env 4=some (.int .i64 ((f.s.2.length+f.f.2.length:Nat):Int))/\nth env 10=some (.map mi)/\nth env 58=some (.int .i64 (y:Nat))) 256 (by omega) ?_ ?_
  ·refine⟨0,_,_,[],rfl,rfl,?_,?_,?_,?_,?_,?_⟩<;>simp[za,hlen,h1,h3,h4]
  clear Rb h1 h3 h4 IG N2 N3 hlen lN;rintro k s ⟨y,env,e,j0,hky,rfl,hlen,h1,h3,h4,Ck,Rc⟩;simp only[zi];refine zh ?_;simp only[BA,ak,aj,aq,za,Nat.reduceLT,Rc,hlen,qV]
  by_cases hy:y<256
  ·refine .inl ⟨by simp;omega,?_⟩
   obtain⟨cls,FW⟩:∃c,c=xg w y:=⟨_,rfl⟩;obtain⟨ld,gy⟩:∃c,c=t_ w y:=⟨_,rfl⟩;obtain⟨pre,gw⟩:∃p,p=R++(.map (w6 m 0 (fE w y).1)::j0):=⟨_,rfl⟩;obtain⟨pc,OO⟩:∃x,x=bs.length+2+pre.length:=⟨_,rfl⟩;rw[<- FW,<- gy,<- gw];refine zh ?_
   simp only[BA,Nat.reduceEqDiff,ak,aq,za,bI,Nat.reduceLT,bD,Rc,hlen]
   have uT:Cx.bK ⟨prog,gl.g,zj prog gl (n+1),ey⟩ 108 [.int .i64 ((f.s.2.length+f.f.2.length:Nat):Int)] ⟨eN bs f X cls ld pre,e⟩=some (.val (cJ m pc),⟨eN bs f X cls ld (pre++(.cells (dL m 0) 5::[])),e⟩):=by
    refine zu func108 rfl ?_;have:=xx hg (n:=n) (k:=f.s.2.length+f.f.2.length) (by omega) (bs:=eN bs f X cls ld pre) (es:=e)
    rw[<- Hu,pQ,N0,<- OO] at this;exact this
   refine zh ?_;simp only[BA,Nat.reduceEqDiff,av,ak,aq,aC,za,bI,Nat.reduceLT,bD,h4,hlen,uT,fe];refine zh ?_
   simp only[BA,Nat.reduceEqDiff,ak,aj,aq,ah,za,bI,Nat.reduceLT,bD,h1,hlen,lS,m4,A2.eu,xJ]
   refine qx (λk2 s=>∃i env j1,k2+i=f.s.2.length/\s=⟨env,⟨eN bs f X cls ld (pre++(.cells (dL m (oG f.s.2 y i)) 5::j1)),e⟩,[],[]⟩/\env.length=113/\nth env 1=some (.ptr bs.length 0)/\nth env 3=some (.ptr (bs.length+1) 0)/\nth env 4=some (.int .i64 ((f.s.2.length+f.f.2.length:Nat):Int))/\nth env 10=some (.map mi)/\nth env 58=some (.int .i64 (y:Nat))/\nth env 11=some (.int .i64 (y:Nat))/\nth env 12=some (cJ m pc)/\nth env 64=some (A2.qv f.s)/\nth env 65=some (.int .i64 (f.s.2.length:Nat))/\nth env 66=some (.int .i64 (i:Nat))) f.s.2.length Au ?_ ?_
   ·refine⟨0,_,[],rfl,rfl,?_,?_,?_,?_,?_,?_,?_,?_,?_,?_,?_⟩<;>simp[za,hlen,h1,h3,h4,Ck,Rc]
   rintro k2 s ⟨i,bM,j1,ao3,rfl,cP,e1,e3,e4,sq,ua,iZ,oE,N6,N7,N8⟩;simp only[zi];refine zh ?_;simp only[BA,ak,aq,za,Nat.reduceLT,N7,N8,cP,qV]
   by_cases Wb:i<f.s.2.length
   ·refine .inl ⟨by simp;omega,?_⟩
    obtain⟨q,hq⟩:∃q,f.s.2[i]?=some q:=⟨_,gG Wb⟩;have Zb:=hs q (pG hq);obtain⟨rest,ur⟩:∃p,p=pre++(.cells (dL m (oG f.s.2 y i)) 5::j1):=⟨_,rfl⟩;obtain⟨ai,Zu⟩:∃x,x=bs.length+2+rest.length:=⟨_,rfl⟩;rw[<- ur];have sF:(eN bs f X cls ld rest).length=ai:=by rw[N0,Zu]
    have hgz:∀cs,(⟨eN bs f X cls ld (rest++[.cells cs 50]),e⟩:Hp).get ai=some (.cells cs 50):=λcs=>by
     show nth _ _=_;rw[Zu,uI];exact(Ul (y:=.cells cs 50) rfl).2
    have tJ:∀env t,jd env t (some (A2.qe q))=some (A2.qe q,env):=λ_ _=>rfl;have Ua:bg (A2.qe q)=A2.qe q:=rfl;have hzc:V.cells (.agg [.int .u64 0,.int .u64 0,.int .u64 0,.int .u64 0])=[.int .u64 0,.int .u64 0,.int .u64 0,.int .u64 0]:=rfl
    have Bm:∀env,qp prog 50 ⟨eN bs f X cls ld (rest++[.cells [.int .u64 0,.int .u64 0,.int .u64 0,.int .u64 0] 50]),e⟩ [] [] (some (A2.qe q,env)) (some (.ptr ai 0))=some (.skip,⟨env,⟨eN bs f X cls ld (rest++[.cells (A2.qe q).laid 50]),e⟩,[],[]⟩):=λenv=>by
     rw[zA Q7 (hgz _) rfl rfl (by simp) rfl,jV (by simp[A2.qe,V.top,aL])]
     simp only[Hp.set];rw[Zu,Uk,(Ul rfl).1];rfl
    refine zh ?_
    simp only[qt,aK,zi,zJ,qr,qQ,zV,z6,zU,Nat.reduceEqDiff,ak,zL,qo,zq,z8,aN,bB,aq,zS,qj,wR,aV,aW,aF,zc,aI,za,bI,Nat.reduceLT,aI,bD,N6,N8,cP,A2.eu,zmy hq,zoN,Ua,tJ,Zr,zR (show dD (V.agg [.int .u64 0,.int .u64 0,.int .u64 0,.int .u64 0])=true from rfl),hzc,sF,pQ,Bm]
    have Rd:zk prog ⟨eN bs f X cls ld (rest++[.cells (A2.qe q).laid 50]),e⟩ gl.g 50 (.ptr ai 0)=some (A2.qe q):=by
     rw[jX,hgz,jB,qy,Dg,FI];rfl
    have Mh:Cx.bK ⟨prog,gl.g,zj prog gl (n+1),ey⟩ 110 [A2.qe q,.int .u8 (y:Nat)] ⟨eN bs f X cls ld (rest++[.cells (A2.qe q).laid 50]),e⟩=some (.val (.bool (ym q y)),⟨eN bs f X cls ld (rest++[.cells (A2.qe q).laid 50]),e⟩):=zu func110 rfl (zjF hg Zb hy);refine zh ?_
    simp only[BA,Nat.reduceEqDiff,av,ak,aq,aC,za,bI,Nat.reduceLT,bD,iZ,cP,Rd,Ua,vZ (a:=3) (b:=5) (hm:=rfl),show ey (w8 3)=false from rfl,Zs hy,Mh];obtain⟨Z,hZ⟩:∃Z,Z=bq.cells (A2.qe q).laid 50:=⟨_,rfl⟩
    have Su:∀x,pre++(x::j1)++[Z]=pre++(x::(j1++[Z])):=λx=>by simp
    rw[<- hZ];cases hh:ym q y with
    | true =>
     have Re:oG f.s.2 y (i+1)=oG f.s.2 y i ||| 2 ^ i:=by simp[oG,hq,hh]
     refine .inl ⟨by first|rfl|trivial,?_⟩
     have oC:Cx.bK ⟨prog,gl.g,zj prog gl (n+1),ey⟩ 109 [cJ m pc,.int .i64 (i:Nat)] ⟨eN bs f X cls ld (rest++[Z]),e⟩=some (.val (.bx []),⟨eN bs f X cls ld (pre++(.cells (dL m (oG f.s.2 y (i+1))) 5::(j1++[Z]))),e⟩):=by
      refine zu func109 rfl ?_;rw[ur,Su,OO,Re];have:=Y2 hg (n:=n) (k:=i) (m:=m) (p:=oG f.s.2 y i) (b:=bs.length+2+pre.length) (by omega) (by omega) (bs:=eN bs f X cls ld (pre++(.cells (dL m (oG f.s.2 y i)) 5::(j1++[Z])))) (es:=e) (by rw[uI];exact(Q5 (y:=.cells (dL m 0) 5) rfl).2)
      rw[Uk,(Q5 rfl).1] at this;exact this
     refine zh ?_;simp only[BA,Nat.reduceEqDiff,av,ak,aq,aC,za,bI,Nat.reduceLT,bD,oE,cP,nh,oC];refine zh ?_
     simp only[BA,Nat.reduceEqDiff,ak,aj,aq,za,bI,Nat.reduceLT,bD,N8,cP,qn (show i<2 ^ 60 by omega),zp,aO]
     refine⟨f.s.2.length - 1 - i,by omega,i+1,_,_,by omega,rfl,?_,?_,?_,?_,?_,?_,?_,?_,?_,?_,?_⟩
     all_goals simp[za,cP,e1,e3,e4,sq,ua,iZ,oE,N6,N7]
    | false =>
     have Re:oG f.s.2 y (i+1)=oG f.s.2 y i:=by simp[oG,hq,hh]
     refine .inr ⟨by first|rfl|trivial,?_⟩
     rw[ur,Su,<- Re];refine zh ?_;simp only[BA,Nat.reduceEqDiff,ak,aj,aq,za,bI,Nat.reduceLT,bD,N8,cP,qn (show i<2 ^ 60 by omega),zp,aO]
     refine⟨f.s.2.length - 1 - i,by omega,i+1,_,_,by omega,rfl,?_,?_,?_,?_,?_,?_,?_,?_,?_,?_,?_⟩
     all_goals simp[za,cP,e1,e3,e4,sq,ua,iZ,oE,N6,N7]
   ·obtain rfl:i=f.s.2.length:=by omega
    refine .inr ⟨by simp,?_⟩
    simp only[qk,zN,zD,zp,bN,zi,iV,aI]
    have Re:oG f.s.2 y f.s.2.length=w y:=by rw[hw]
    rw[Re];have Sw:pre++(.cells (dL m (w y)) 5::j1)=R++(.map (w6 m 0 (fE w y).1)::(j0++(.cells (dL m (w y)) 5::j1))):=by rw[gw];simp
    obtain⟨j2,XG⟩:∃j,j=j0++(bq.cells (dL m (w y)) 5::j1):=⟨_,rfl⟩;rw[Sw,<- XG];have gP:∀xs cls ld es e,(⟨eN bs f xs cls ld (R++(.map es::j2)),e⟩:Hp).get pc=some (.cells (dL m (w y)) 5):=λxs cls ld es e=>by
     show nth _ _=_;rw[OO,uI,gw,XG];have:=(Q5 (rs:=R++(.map es::j0)) (js:=j1) (x:=.cells (dL m (w y)) 5) (y:=.cells (dL m (w y)) 5) (i:=(R++(.map (w6 m 0 (fE w y).1)::j0)).length) (by simp)).2
     rw[<- this];simp
    have pY:=Zl (Up y) (Q_ y) (Mp cls ld (w6 m 0 (fE w y).1) j2 e);have gI:cls.length=256:=by rw[FW];exact Um (by omega)
    refine zh ?_
    simp only[BA,Nat.reduceEqDiff,ak,aq,za,bI,Nat.reduceLT,bD,sq,oE,cP,nh,vx,v9 (cx:=⟨prog,gl.g,zj prog gl (n+1),ey⟩) (a:=205) (b:=9) (show ey (w8 205)=true from rfl) rfl,xK (gP X cls ld (w6 m 0 (fE w y).1) e),pY,Zi,kZ,eT,zd,ze]
    have Rf:∀GO,(ni f X cls GO).length=262:=λGO=>by simp[ni,gI]
    have JX:∀GO iF e' env (c:Int),qp prog 3 ⟨eN bs f X cls GO (R++(.map iF::j2)),e'⟩ [] [] (some (.int .i64 c,env)) (some (.ptr (bs.length+1) (5+y)))=some (.skip,⟨env,⟨eN bs f X (cls.set y (.int .i64 c)) GO (R++(.map iF::j2)),e'⟩,[],[]⟩):=λGO iF e' env c=>by
     rw[zA tX (show Hp.get ⟨eN bs f X cls GO (R++(.map iF::j2)),e'⟩ (bs.length+1)=_ from Dk) rfl rfl (by rw[Rf];omega) (yx λk hk=>by
      obtain rfl:k=0:=by omega
      obtain⟨z,hz⟩:=zmG (w:=w) (y:=y) (i:=y) (by rw[Um (by omega)];omega)
      exact⟨_,by rw[om,zjM (by rw[gI];omega),FW,hz],rfl⟩),jV (by simp[V.top])]
     simp only[V.laid,Vm.storeCells,Hp.set];rw[zoh (by rw[gI];omega),Zm]
    refine zh ?_;cases hx:kH (w y) 0 (fE w y).1 with
    | some ix =>
     have C5:fE w (y+1)=((fE w y).1,(fE w y).2.1++[ix],(fE w y).2.2):=by simp only[fE,hx]
     simp only[BA,Nat.reduceEqDiff,ak,aq,za,bI,Nat.reduceLT,bD,cP,Option.isSome_some,gm,i_,mw];refine .inr ?_;refine zh ?_
     simp only[BA,Nat.reduceEqDiff,ak,aq,aa,ah,aF,za,bI,Nat.reduceLT,bD,e3,iZ,cP,Ad,Zp hy,JX];refine zh ?_
     simp only[BA,Nat.reduceEqDiff,ak,aj,aq,za,bI,Nat.reduceLT,bD,ua,cP,qn (show y<2 ^ 60 by omega),zp,aO]
     rw[FW,zhv hy (by rw[C5]),gy,show t_ w y=t_ w (y+1) by unfold t_;rw[C5],show(fE w y).1=(fE w (y+1)).1 by rw[C5]]
     refine⟨256 - 1 - y,by omega,y+1,_,_,_,by omega,rfl,?_,?_,?_,?_,?_,?_⟩
     all_goals simp[za,cP,e1,e3,e4,sq]
    | none =>
     have C5:fE w (y+1)=((fE w y).1++[w y],(fE w y).2.1++[(fE w y).1.length],(fE w y).2.2++[y]):=by simp only[fE,hx]
     simp only[BA,Nat.reduceEqDiff,ak,aq,za,bI,Nat.reduceLT,bD,cP,Option.isSome_none,Option.getD_none,i_,oS];refine .inl ?_;obtain⟨Hg,KH⟩:=zcG (w:=w) y
     have OW:qW prog ⟨eN bs f X cls ld (R++(.map (w6 m 0 (fE w y).1)::j2)),e⟩ 207 (.map mi)=some (((fE w y).1.length:Nat):Int):=by
      rw[zjK (Mp cls ld (w6 m 0 (fE w y).1) j2 e),Zk]
     refine zh ?_;simp only[BA,Nat.reduceEqDiff,ak,aq,za,bI,Nat.reduceLT,bD,sq,cP,vx,OW];refine zh ?_
     simp only[BA,Nat.reduceEqDiff,ak,aq,za,bI,Nat.reduceLT,bD,sq,oE,cP,vx,nh,v9 (cx:=⟨prog,gl.g,zj prog gl (n+1),ey⟩) (a:=205) (b:=9) (show ey (w8 205)=true from rfl) rfl,xK (gP X cls ld (w6 m 0 (fE w y).1) e)]
     have Rg:=Zj (k:=0) (Up y) (Q_ y) hx;rw[oh] at Rg;rw[zbT (b:=mi) (kv:=.str (rm m (w y))) (xv:=.int .i64 ((fE w y).1.length:Nat)) (by simp[ak,za,cP,bg]) (by simp[ak,za,cP,bg]) (by simp[ak,za,cP,bg]) zmC (Mp cls ld (w6 m 0 (fE w y).1) j2 e) Rg (by simp[V.top,aL])]
     have hHm:(⟨eN bs f X cls ld (R++(.map (w6 m 0 (fE w y).1)::j2)),e⟩:Hp).set mi (.map (w6 m 0 ((fE w y).1++[w y])))=⟨eN bs f X cls ld (R++(.map (w6 m 0 ((fE w y).1++[w y]))::j2)),e⟩:=by
      simp only[Hp.set];rw[A9,Uk,(Q5 rfl).1]
     rw[hHm];simp only[bB,aq]
     obtain⟨Dm,Mq⟩:∃l:aG,l=(fE w y).2.2.map λb=>.int .u8 (b:Nat):=⟨_,rfl⟩;have af8:Dm.length<=256:=by rw[Mq];simp;omega
     have Zv:ld=zm 1 5 Dm:=by rw[gy,Mq];rfl
     obtain⟨rr,Nh⟩:∃rr,rr=R++(bq.map (w6 m 0 ((fE w y).1++[w y]))::j2):=⟨_,rfl⟩;rw[<- Nh];have Zt:bs.length+1<(eN bs f X cls ld rr).length:=by rw[N0];omega
     have mZ:∀env,v4 prog 78 env ⟨eN bs f X cls ld rr,e⟩ [] [] (some (.ptr (bs.length+1) 261))=some (.val (zm 1 5 Dm),⟨env,⟨(eN bs f X cls ld rr).set (bs.length+1) (.cells ((ni f X cls ld).set 261 (oO 1 Dm)) 204),e⟩,kD (bs.length+1) 261 Dm,[]⟩):=λenv=>Q2 Dl Dk (by rw[zmH gI,Zv])
     have lQ:=Zq.BH (v:=.int .u8 (y:Nat)) rfl rfl;have gj:∀H,kb prog H 78 (zm 1 5 Dm) (.sl 1 [.int .u8 (y:Nat)] .no)=some (zm 1 5 (Dm++[.int .u8 (y:Nat)])):=λH=>jM Zq (by simp) (j9 (by simp;omega) (by simp;omega))
     have Bm:∀env,qp prog 78 ⟨(eN bs f X cls ld rr).set (bs.length+1) (.cells ((ni f X cls ld).set 261 (oO 1 Dm)) 204),e⟩ (kD (bs.length+1) 261 Dm) [] (some (zm 1 5 (Dm++[.int .u8 (y:Nat)]),env)) (some (.ptr (bs.length+1) 261))=some (.skip,⟨env,⟨eN bs f X cls (zm 1 5 (Dm++[.int .u8 (y:Nat)])) rr,vg e (bs.length+1) (zm 1 5 (Dm++[.int .u8 (y:Nat)]))⟩,kD (bs.length+1) 261 Dm,[]⟩):=λenv=>by
      rw[Uj Zq.st Zt (by rw[Rf];omega),zmI gI,Zm]
     refine wK (tk:=[98]) (by kernel_rfl) ?_
     simp only[BA,Nat.reduceEqDiff,ak,aq,aa,ah,za,bI,Nat.reduceLT,bD,e3,iZ,cP,Di,mZ,lQ,BG,gj,Bm,vZ (a:=3) (b:=5) (hm:=rfl),show ey (w8 3)=false from rfl,Zs hy,ky (cx:=⟨prog,gl.g,zj prog gl (n+1),ey⟩) (show rC prog ey 78=false by kernel_rfl)]
     rw[Nh];refine zh ?_;simp only[BA,Nat.reduceEqDiff,ak,aq,aa,ah,aF,za,bI,Nat.reduceLT,bD,e3,iZ,cP,Ad,Zp hy,JX];refine zh ?_
     simp only[BA,Nat.reduceEqDiff,ak,aj,aq,za,bI,Nat.reduceLT,bD,ua,cP,qn (show y<2 ^ 60 by omega),zp,aO]
     have tG:zm 1 5 (Dm++[.int .u8 (y:Nat)])=t_ w (y+1):=by unfold t_;rw[C5,Mq];simp
     rw[FW,zhv hy (by rw[C5]),tG,show(fE w y).1++[w y]=(fE w (y+1)).1 by rw[C5]]
     refine⟨256 - 1 - y,by omega,y+1,_,_,_,by omega,rfl,?_,?_,?_,?_,?_,?_⟩
     all_goals simp[za,cP,e1,e3,e4,sq]
  ·obtain rfl:y=256:=by omega
   refine .inr ⟨by simp,?_⟩
   simp only[qk,zN,zD,zp,bN,zi,iV,aI]
   refine zh ?_;simp only[BA,Nat.reduceEqDiff,ak,aq,za,bI,Nat.reduceLT,bD,h3,hlen,go_ret,zp,Fx]
   first|refine⟨rfl,[.ptr (bs.length+1) 0],?_,rfl,?_⟩|refine⟨trivial,[.ptr (bs.length+1) 0],?_,rfl,?_⟩|refine⟨[.ptr (bs.length+1) 0],?_,rfl,?_⟩
   ·simp[zy,za,hlen]
   ·exact⟨_,_,by rw[<- hw]⟩
end
section
variable{gl:Gl}
theorem FX:qG prog 207=some false:=by kernel_rfl
theorem zkL(hg:GS gl){n a1 a2 a3 a4 a5 mp m w c i:Nat}{ws:bO}{t1:aD}(hw:w<2 ^ (8 * m))(Db:∀x∈ws,x<2 ^ (8 * m)){B:List bq}{es:aP}(h1:nth B a1=some (.cells [.map mp] t1))(hm:nth B mp=some (.map (w6 m 0 ws)))(hc:nth B c=some (.cells (dL m w) 5))(hx:kH w 0 ws=some i) :
  zj prog gl (n+1) 111 [cJ m c,.ptr a1 0,.ptr a2 0,.ptr a3 0,.ptr a4 0,.ptr a5 0] ⟨B,es⟩=some (.ret (.int .i64 (i:Nat)),⟨B,es⟩):=by
 suffices bR:(go ⟨prog,gl,zj prog gl n,ey⟩ n (Fx prog f111.results.toList λw H1=>w=.int .i64 (i:Nat)/\H1=⟨B,[]⟩) [.c (f111.body.getD .skip)] .normal ⟨[cJ m c,.ptr a1 0,.ptr a2 0,.ptr a3 0,.ptr a4 0,.ptr a5 0]++List.replicate 43 (.bx []),⟨B,[]⟩,[],[]⟩) by
  obtain⟨w,H1,h0,rfl,rfl⟩:=zO (gl:=gl) (f:=111) (bs:=B) (es:=es) (args:=[cJ m c,.ptr a1 0,.ptr a2 0,.ptr a3 0,.ptr a4 0,.ptr a5 0]) (n:=n) (hg.hk _ _ (by decide)) (λH=>hg.fq _ _ _ _ (by decide)) func111 rfl (by rw[hg.uq];exact bR)
  rw[h0];have:=zY (bs:=B) (ls:=[]) (es:=es) (t:=0) (dP _);rw[nk] at this;exact congrArg (λx=>some (Out.ret _,x)) this
 have l1:zk prog ⟨B,[]⟩ gl.g 207 (.ptr a1 0)=some (.map mp):=zr FX h1 rfl;have iW:=xK (H:=⟨B,[]⟩) (m:=m) (w:=w) (c:=c) hc;have pY:=Zl (H:=⟨B,[]⟩) (d:=mp) hw Db hm;rw[hx] at pY;have nh:∀c,bg (cJ m c)=cJ m c:=λ_=>rfl;simp only[f111,gm,zi];refine zh ?_
 simp only[BA,aj,aq,bX,bY,List.replicate];refine zh ?_
 simp only[BA,ak,aq,zd,ze,bX,bY,l1,vx,nh,v9 (cx:=⟨prog,gl.g,zj prog gl n,ey⟩) (a:=205) (b:=9) (show ey (w8 205)=true from rfl) rfl,iW,Zi,pY,kZ,eT,gm,Option.isSome_some];refine zh ?_
 simp only[BA,ak,aq,zd,ze,bX,bY,i_,mw];refine .inr ?_
 try simp only[bH]
 refine zh ?_;simp only[BA,ak,aq,zd,ze,bX,bY,go_ret,zp,Fx]
 refine⟨[.int .i64 (i:Nat)],?_,rfl,trivial⟩;simp only[zy,zd,ze]
end
section
variable{gl:Gl}
theorem iS{cx:Cx}{takes:cw}{o:Oper}{env:aG}{v:V}{c:ez}{s:St}(h:cx.op takes o env c.H c.lk c.df=some (.val v,s)):cx.eZ takes o env v c=true:=by
 simp only[Cx.eZ,Cx.d_,h,V.dx]
theorem N9{a b:Bool}(h:b=true):(a || b)=true:=by rw[h,Bool.or_true]
theorem zmJ{P:aY}{t:aD}{x y:a_}{b:Nat}(h:8 * b<2 ^ 60)(h1:0<b):q0 P .sub t x y (some (.int .i64 ((8 * b:Nat):Int))) (some (.int .i64 8))=some (.int .i64 ((8 * b - 8:Nat):Int)):=WX (a:=8 * b) (b:=8) h (by omega)
theorem mj{cx:Cx}{n:Nat}{Q:Ex->St->Prop}{k:List It}{Bg:aG}{B0:List bq}{e0:aP}{Gy:aP}{P:aG->List bq->Prop}(h:∀env B lk,P env B->go cx n Q k .normal ⟨env,⟨B,e0⟩,lk,[]⟩)(h0:P Bg B0):go cx n Q k .normal ⟨Bg,⟨B0,e0⟩,Gy,[]⟩:=h _ _ _ h0
def m5(z:Bool)(n e:Nat)(xs:aG):V:=match z with|true=>.sl n xs (.yes e)|false=>zm n e xs
def GP(z:Bool)(n:Nat)(xs:aG):V:=match z with|true=>.sl n xs .lock|false=>oO n xs
def Ez(z:Bool)(b off:Nat)(xs:aG):aP:=match z with|true=>[(b,off)]|false=>kD b off xs
section
variable{P:aY}{t n:aD}{B:List bq}{off bm:Nat}{cs:aG}{ty e:aD}{xs ys:aG}{env:aG}{df:bS}{es:aP}{z:Bool}{v:V}
theorem zqb(ha:qG P t=some false)(hb:nth B bm=some (.cells cs ty))(hn:nth cs off=some (m5 z n e xs)) :
  v4 P t env ⟨B,es⟩ [] df (some (.ptr bm off))=some (.val (m5 z n e xs),⟨env,⟨B.set bm (.cells (cs.set off (GP z n xs)) ty),es⟩,Ez z bm off xs,df⟩):=by
 cases z with
 | false=>exact Q2 ha hb hn
 | true =>
  simp only[m5] at hn;simp only[v4,ha,show Hp.get ⟨B,es⟩ bm=_ from hb,hn,m5,GP,Ez];rfl
theorem zqc(hs:z4 P t=some 1)(bW:bm<B.length)(ho:off<cs.length)(h1:dD v=true)(h2:v.laid=[v]) :
  qp P t ⟨B.set bm (.cells (cs.set off (GP z n xs)) ty),es⟩ (Ez z bm off xs) df (some (v,env)) (some (.ptr bm off))=some (.skip,⟨env,⟨B.set bm (.cells (cs.set off v) ty),vg es bm v⟩,Ez z bm off xs,df⟩):=by
 have hm:wr (Ez z bm off xs) bm off 1 ((cs.set off (GP z n xs)).drop off)=true:=by
  cases z with
  | false=>exact Pv ho
  | true =>
   have h3:(cs.set off (V.sl n xs .lock)).drop off=.sl n xs .lock::cs.drop (off+1):=by
    rw[F8 (by rw[bI];exact ho)]
    simp[List.drop_set]
   simp only[GP,Ez,h3];simp[wr,locked]
 rw[zA hs (show Hp.get ⟨_,es⟩ bm=some (.cells (cs.set off (GP z n xs)) ty) by show nth _ _=_;simp[zg,bW]) h1 (by rw[h2];rfl) (by rw[bI];omega) hm]
 simp only[Hp.set,List.set_set,h2,Vm.storeCells,gC]
theorem zqD{Em:Nat}(h:mY P t e n Em)(hy:ys≠[])(hr:ku (xs.length+ys.length) Em=true){H:Hp}:kb P H t (m5 z n e xs) (.sl n ys .no)=some (zm n e (xs++ys)):=by
 cases z with
 | false=>exact jM h hy hr
 | true =>
  cases xs with
  | cons x xs=>exact jM (xs:=x::xs) h hy hr
  | nil =>
   have hi:=h.i;cases uX:P.info? e with
   | none=>rw[uX] at hi;cases hi
   | some ti =>
    rw[uX] at hi;simp only[aV] at hi;cases hz:ti.zero with
    | none=>rw[hz] at hi;cases hi
    | some z =>
     rw[hz] at hi;simp only[aW,bz,cq] at hi;have AM:Nat.beq n 0=false:=by
      have:=h.n0.1;cases n with
      | zero=>exact absurd rfl this
      | succ n=>rfl
     obtain⟨y,ys,rfl⟩:∃y l,ys=y::l:=by
      cases ys with
      | nil=>exact absurd rfl hy
      | cons y l=>exact⟨y,l,rfl⟩
     simp only[m5,kb,h.u,h.s,uX,hz,hi.1,wu,Option.bind_eq_bind,aV,iV,mw,gh,bD,aI];simp only[zm,bt];rw[hi.2,AM];simp only[List.length_nil,oh,bh] at hr;simp[hr]
def zqE(env:aG)(t:Nat)(v:V):Option (V×aG):=jd env t (some v)
open Classical in
theorem zeZ{t:Nat}:jd env t (some (m5 z n e xs))=if nth env t=some (m5 z n e xs) then some (m5 z n e xs,env.set t (bg (m5 z n e xs))) else zqE env t (m5 z n e xs):=by
 split
 ·rename_i h;cases z with
  | false=>rw[<- h,<- zL];exact v6 h
  | true=>rfl
 ·rfl
theorem s5:bg (bg (m5 z n e xs))=bg (m5 z n e xs):=by cases z<;>cases xs<;>rfl
theorem zmK{x:V}:m5 z n e (x::xs)=zm n e (x::xs):=by cases z<;>rfl
theorem zoi{x:V}:m5 z n e (xs++[x])=zm n e (xs++[x]):=by cases z<;>cases xs<;>rfl
theorem Zw{H:Hp}(hu:P.underlying t=some (.slice e)):qW P H t (bg (m5 z n e xs))=some ((xs.length:Nat):Int):=by
 cases z with
 | false=>exact Tu hu
 | true=>simp[m5,bg,qW,hu]
end
theorem zit{cx:Cx}{takes:cw}{rs:List Rec}{r1 R:Rec}{c0 c1 nC d c2 e:ez}{k:List ez->Option (Ex×St)}(j:Nat)(_hj:rs[j]?=some r1)(e1:c1=nC)(hp:R.hp=true)(ho:∀q∈rs,q=r1\/(q.hp=false/\(q.free=true\/bit R.m q.idx=true)))(h1:r1.hp=true)
  (hs:vU (Nat.land R.m (eL rs)) d.D=true) (hr:cx.d_ takes R.o R.env d (Nat.lor d.D (Nat.pow 2 R.idx))=some (R.v,c2)) (C9:bit nC.D r1.idx=true) (mX:bit c2.D r1.idx=false)
  (hq:cx.d_ takes r1.o r1.env c2 0=some (r1.v,e)) (hf:yh (Nat.lor c2.D (Nat.pow 2 r1.idx)) [nC,c2,c0,d]=some nC) (he:yg e nC=true) :
  cx.fH takes rs R c0 c1 [d] k=k [nC,c2,c0,d]:=zia e1 hp ho h1 hs hr C9 mX hq hf he
theorem ya{n e:Nat}{xs:aG}:(zm n e xs).top=aL xs:=by
 cases xs<;>rfl
theorem Mr:mY prog 27 3 1 8:=⟨by kernel_rfl,by kernel_rfl,by kernel_rfl,by decide,by kernel_rfl,by kernel_rfl,by kernel_rfl⟩
theorem FY:zH prog 66 1=some 1:=by kernel_rfl
def Ms(B:List bq)(_a1 a2 a3 a4 mp m c w:Nat)(sum:Int)(ws:bO)(wait:aG)(aU:V)(dU:aG)(lab:Int)(t2 t3 t4:aD):List bq :=
 ((((B.set mp (.map (w6 m 0 (ws++[w])))).set a2 (.cells [.int .i64 (if w=0 then sum else sum+1)] t2)).set a3 (.cells [zm 1 205 (wait++[cJ m c])] t3)).set a4 (.cells [aU,zm 1 3 (dU++[.int .i64 lab])] t4))
theorem zmL{B ls:List bq}{es ru:aP}(he:∀e∈ru,e.2<=B.length):∃iF,zX B.length es 0 ⟨B++ls,ru⟩=⟨B,iF⟩:=by
 unfold zX;have h1:(Nat.ble 0 B.length && ru.all λe=>Nat.ble B.length e.1 || Nat.ble e.2 B.length)=true:=by
  rw[eF];exact⟨G1 (dP _),Dr.2 λe h=>by rw[tf];exact .inr (G1 (he e h))⟩
 rw[if_pos h1,List.take_left];exact⟨_,rfl⟩
theorem zkM(hg:GS gl){z:Bool}{n a1 a2 a3 a4 a5 bm mp m w c:Nat}{sum:Int}{ws:bO}{wait:aG}{aU:V}{dU:aG}{mc:aG}{t1 t2 t3 t4 t5 tM:aD}{f:A2.F}(hn:m+400<=n)(As:wait.length<2 ^ 40)(Zf:dU.length<2 ^ 40)(C3:0<m)(uu:m<2 ^ 36)(hw:w<2 ^ (8 * m))(Db:∀x∈ws,x<2 ^ (8 * m))(apd:-1<=sum/\sum<2 ^ 40)(rI:f.s.2.length<2 ^ 40)(Zx:aL dU=0){B:List bq}{es:aP}
  (h1:nth B a1=some (.cells [.map mp] t1)) (h2:nth B a2=some (.cells [.int .i64 sum] t2)) (h3:nth B a3=some (.cells [m5 z 1 205 wait] t3)) (h4:nth B a4=some (.cells [aU,zm 1 3 dU] t4)) (h5:nth B a5=some (.cells [.ptr bm 0] t5)) (hM:nth B bm=some (.cells mc tM)) (Dj:nth mc 0=some (A2.qv f.s))
  (hm:nth B mp=some (.map (w6 m 0 ws))) (hc:nth B c=some (.cells (dL m w) 5)) (si:[a1,a2,a3,a4,a5,bm,mp,c].Nodup) (hx:kH w 0 ws=none) (Mt:aL wait<=B.length) :
  ∃iF,zj prog gl (n+1) 111 [cJ m c,.ptr a1 0,.ptr a2 0,.ptr a3 0,.ptr a4 0,.ptr a5 0] ⟨B,es⟩=some (.ret (.int .i64 (ws.length:Nat)),⟨Ms B a1 a2 a3 a4 mp m c w sum ws wait aU dU (v8 f.s.2.length (wD m w) (-1)) t2 t3 t4,iF⟩):=by
 suffices bR:(go ⟨prog,gl,zj prog gl n,ey⟩ n (Fx prog f111.results.toList λx H1=>x=.int .i64 (ws.length:Nat)/\∃ru,H1=⟨Ms B a1 a2 a3 a4 mp m c w sum ws wait aU dU (v8 f.s.2.length (wD m w) (-1)) t2 t3 t4++[.cells (dL m 0) 5],ru⟩/\∀e∈ru,e.2<=B.length) [.c (f111.body.getD .skip)] .normal ⟨[cJ m c,.ptr a1 0,.ptr a2 0,.ptr a3 0,.ptr a4 0,.ptr a5 0]++List.replicate 43 (.bx []),⟨B,[]⟩,[],[]⟩) by
  obtain⟨x,H1,h0,rfl,ru,rfl,Am⟩:=zO (gl:=gl) (f:=111) (bs:=B) (es:=es) (args:=[cJ m c,.ptr a1 0,.ptr a2 0,.ptr a3 0,.ptr a4 0,.ptr a5 0]) (n:=n) (hg.hk _ _ (by decide)) (λH=>hg.fq _ _ _ _ (by decide)) func111 rfl (by rw[hg.uq];exact bR)
  have nZ:(Ms B a1 a2 a3 a4 mp m c w sum ws wait aU dU (v8 f.s.2.length (wD m w) (-1)) t2 t3 t4).length=B.length:=by simp[Ms]
  obtain⟨iF,he⟩:=zmL (B:=Ms B a1 a2 a3 a4 mp m c w sum ws wait aU dU (v8 f.s.2.length (wD m w) (-1)) t2 t3 t4) (ls:=[.cells (dL m 0) 5]) (es:=es) (ru:=ru) (by rw[nZ];exact Am)
  rw[nZ] at he;exact⟨iF,by rw[h0,show(V.int .i64 (ws.length:Nat)).top=0 from rfl,he]⟩
 have l1:zk prog ⟨B,[]⟩ gl.g 207 (.ptr a1 0)=some (.map mp):=zr FX h1 rfl;have iW:=xK (H:=⟨B,[]⟩) (m:=m) (w:=w) (c:=c) hc;have pY:=Zl (H:=⟨B,[]⟩) (d:=mp) hw Db hm;rw[hx] at pY;have nh:∀c,bg (cJ m c)=cJ m c:=λ_=>rfl;have OW:qW prog ⟨B,[]⟩ 207 (.map mp)=some ((ws.length:Nat):Int):=by
  rw[zjK (H:=⟨B,[]⟩) (d:=mp) hm,Zk]
 have ape:mp<B.length:=by rw[zg] at hm;exact(dA.1 hm).1
 have gI:c<B.length:=by rw[zg] at hc;exact(dA.1 hc).1
 have sH:mp≠c:=by
  simp only[List.nodup_cons,dM,not_or] at si;exact si.2.2.2.2.2.2.1.1
 simp only[f111,gm,zi];refine zh ?_;simp only[BA,aj,aq,bX,bY,List.replicate];refine zh ?_
 simp only[BA,ak,aq,zd,ze,bX,bY,l1,vx,nh,v9 (cx:=⟨prog,gl.g,zj prog gl n,ey⟩) (a:=205) (b:=9) (show ey (w8 205)=true from rfl) rfl,iW,Zi,pY,kZ,eT,Option.getD_none,Option.isSome_none];refine zh ?_
 simp only[BA,ak,aq,zd,ze,bX,bY,i_,oS];refine .inl ?_;refine zh ?_
 simp only[BA,ak,aq,zd,ze,bX,bY,l1,vx,OW];refine zh ?_
 simp only[BA,ak,aq,zd,ze,bX,bY,l1,vx,nh,v9 (cx:=⟨prog,gl.g,zj prog gl n,ey⟩) (a:=205) (b:=9) (show ey (w8 205)=true from rfl) rfl,iW];have Rg:=Zj (k:=0) hw Db hx;rw[oh] at Rg
 rw[zbT (b:=mp) (kv:=.str (rm m w)) (xv:=.int .i64 (ws.length:Nat)) rfl rfl rfl zmC (show Hp.get ⟨B,[]⟩ mp=_ from hm) Rg (by simp[V.top,aL])]
 obtain⟨B1,Aw⟩:∃B1,B1=B.set mp (.map (w6 m 0 (ws++[w]))):=⟨_,rfl⟩;have QC:Hp.set ⟨B,[]⟩ mp (.map (w6 m 0 (ws++[w])))=⟨B1,[]⟩:=by rw[Aw];rfl
 rw[QC];simp only[bB,aq]
 have nB:nth B1 c=some (.cells (dL m w) 5):=by rw[Aw,zg,r8 sH,<- zg,hc]
 obtain⟨B2,GI⟩:∃B2,B2=B1++[bq.cells (dL m 0) 5]:=⟨_,rfl⟩;have Zy:c<B1.length:=by rw[zg] at nB;exact(dA.1 nB).1
 have sg:nth B2 c=some (.cells (dL m w) 5):=by rw[GI,zg,gF Zy,<- zg,nB]
 have Ek:nth B2 B1.length=some (.cells (dL m 0) 5):=by rw[GI,zg,fM (dB _)];simp
 have EO:=xK (H:=⟨B1,[]⟩) nB;have Gi:=xK (H:=⟨B2,[]⟩) sg;have hvz:=xK (H:=⟨B2,[]⟩) Ek;obtain⟨n',rfl⟩:∃n',n=n'+1:=⟨n - 1,by omega⟩
 have uT:Cx.bK ⟨prog,gl.g,zj prog gl (n'+1),ey⟩ 108 [.int .i64 ((8 * m - 8:Nat):Int)] ⟨B1,[]⟩=some (.val (cJ m B1.length),⟨B2,[]⟩):=by
  refine zu func108 rfl ?_;have:=xx hg (n:=n') (k:=8 * m - 8) (by omega) (bs:=B1) (es:=[])
  rw[show(8 * m - 8) / 8+1=m by omega,<- GI] at this
  exact this
 refine vo (tk:=[]) (by kernel_rfl) ?_
 apply Exists.intro;apply And.intro;refine qu (m:=0) (v:=cJ m c) (by kernel_rfl) rfl (by simp only[BA,ak,zd,nh];rfl) (by kernel_rfl) (by kernel_rfl) (by kernel_rfl) ?_
 dsimp only[aq]
 refine ki (m:=1) (v:=.str (rm m w)) (by kernel_rfl) rfl (by simp only[BA,ak,zd,ze,bX,bY,nh,v9 (cx:=⟨prog,gl.g,zj prog gl (n'+1),ey⟩) (a:=205) (b:=9) (show ey (w8 205)=true from rfl) rfl,EO];rfl) (by kernel_rfl) (by kernel_rfl) (by kernel_rfl) (by kernel_rfl) ?_
 dsimp only[aq]
 refine qu (m:=0) (v:=cJ m c) (by kernel_rfl) rfl (by simp only[BA,ak,zd,bX,bY,nh];rfl) (by kernel_rfl) (by kernel_rfl) (by kernel_rfl) ?_
 dsimp only[aq]
 refine ki (m:=4) (v:=.int .i64 (m:Nat)) (by kernel_rfl) rfl (by simp only[BA,ak,zd,ze,bX,bY,cJ];rfl) (by kernel_rfl) (by kernel_rfl) (by kernel_rfl) (by kernel_rfl) ?_
 dsimp only[aq]
 refine qu (m:=12) (v:=.int .i64 ((8 * m:Nat):Int)) (by kernel_rfl) rfl (by simp only[BA,ak,aj,zd,ze,bX,bY,zeX (show 8 * m<2 ^ 60 by omega)];rfl) (by kernel_rfl) (by kernel_rfl) (by kernel_rfl) ?_
 dsimp only[aq]
 refine qu (m:=28) (v:=.int .i64 ((8 * m - 8:Nat):Int)) (by kernel_rfl) rfl (by simp only[BA,ak,aj,zd,ze,bX,bY,zmJ (show 8 * m<2 ^ 60 by omega) C3];rfl) (by kernel_rfl) (by kernel_rfl) (by kernel_rfl) ?_
 dsimp only[aq]
 refine yw (m:=60) (v:=cJ m B1.length) (cs':=[⟨64,⟨B2,[]⟩,[],[]⟩,⟨0,⟨B1,[]⟩,[],[]⟩]) (by kernel_rfl) rfl (by simp only[BA,av,ak,aC,zd,ze,bX,bY,uT];rfl) (by kernel_rfl) (by kernel_rfl) (by kernel_rfl) (λK=>?_) ?_
 rotate_left
 dsimp only[aq]
 refine ki (m:=124) (v:=.str (rm m 0)) (by kernel_rfl) rfl (by simp only[BA,ak,zd,ze,bX,bY,nh,v9 (cx:=⟨prog,gl.g,zj prog gl (n'+1),ey⟩) (a:=205) (b:=9) (show ey (w8 205)=true from rfl) rfl,hvz];rfl) (by kernel_rfl) (by kernel_rfl) (by kernel_rfl) (by kernel_rfl) ?_
 dsimp only[aq]
 refine qu (m:=255) (v:=.bool (!(ot (rm m w) (rm m 0)))) (by kernel_rfl) rfl (by simp only[BA,ak,zd,ze,bX,bY,zlz];rfl) (by kernel_rfl) (by kernel_rfl) (by kernel_rfl) vq
 ·have heq:ot (rm m w) (rm m 0)=(w == 0):=zji hw (Nat.pow_pos (by decide))
  have bW:∀d x,nth B d=some x->d≠mp->nth B2 d=some x:=λd x hd cK=>by
   have sD:d<B.length:=by rw[zg] at hd;exact(dA.1 hd).1
   rw[GI,zg,gF (by rw[Aw,bI];exact sD),Aw,r8 (Ne.symm cK),<- zg,hd]
  simp only[List.nodup_cons,dM,uh,tB,not_or,List.nodup_nil,and_true,ug] at si;obtain⟨⟨d12,d13,d14,d15,d1b,d1m,d1c⟩,⟨d23,d24,d25,d2b,d2m,d2c⟩,⟨d34,d35,d3b,d3m,d3c⟩,⟨d45,d4b,d4m,d4c⟩,⟨d5b,d5m,d5c⟩,⟨dbm,dbc⟩,dmc⟩:=si;have g2:=bW a2 _ h2 d2m;have g3:=bW a3 _ h3 d3m;have g4:=bW a4 _ h4 d4m;have g5:=bW a5 _ h5 d5m;have gM:=bW bm _ hM dbm
  have l2:zk prog ⟨B2,[]⟩ gl.g 3 (.ptr a2 0)=some (.int .i64 sum):=zr iU g2 rfl;have AQ:IntKind.i64.wrap (sum+1)=sum+1:=kU (by omega) (by omega)
  have Cv:∀env,qp prog 3 ⟨B2,[]⟩ [] [] (some (.int .i64 (sum+1),env)) (some (.ptr a2 0))=some (.skip,⟨env,⟨B2.set a2 (.cells [.int .i64 (sum+1)] t2),[]⟩,[],[]⟩):=λenv=>by
   rw[zA tX (show Hp.get ⟨B2,[]⟩ a2=_ from g2) rfl rfl (by simp) rfl,jV (by simp[V.top])]
   rfl
  simp only[BA,ak,aq,zd,ze,bX,bY,heq]
  let PP:aG->List bq->Prop:=λenv B3=>env.length=49/\nth env 0=some (cJ m c)/\nth env 3=some (.ptr a3 0)/\nth env 4=some (.ptr a4 0)/\nth env 5=some (.ptr a5 0)/\nth env 8=some (.int .i64 (ws.length:Nat)) /\
   B3.length=B2.length/\nth B3 a3=some (.cells [m5 z 1 205 wait] t3)/\nth B3 a4=some (.cells [aU,zm 1 3 dU] t4)/\nth B3 a5=some (.cells [.ptr bm 0] t5)/\nth B3 bm=some (.cells mc tM)/\nth B3 c=some (.cells (dL m w) 5)/\B3=B2.set a2 (.cells [.int .i64 (if w=0 then sum else sum+1)] t2)
  have JY:∀x d y,nth B2 d=some y->d≠a2->nth (B2.set a2 x) d=some y:=λx d y h1 h2=>by
   rw[zg,r8 (Ne.symm h2),<- zg,h1]
  have Zz:(w=0\/w≠0):=Decidable.em _;rcases Zz with BD|BD
  rotate_left
  refine .inl ⟨by simp[BD],?_⟩
  refine zh ?_;simp only[BA,ak,aj,aq,zd,ze,bX,bY,l2,wa,AQ,Cv]
  refine mj (P:=PP) ?_ ⟨rfl,rfl,rfl,rfl,rfl,rfl,by simp,JY _ _ _ g3 (Ne.symm d23),JY _ _ _ g4 (Ne.symm d24),JY _ _ _ g5 (Ne.symm d25),JY _ _ _ gM (Ne.symm d2b),JY _ _ _ sg (Ne.symm d2c),by rw[if_neg BD]⟩
  rotate_left
  refine .inr ⟨by simp[BD],?_⟩
  refine mj (P:=PP) ?_ ⟨rfl,rfl,rfl,rfl,rfl,rfl,rfl,g3,g4,g5,gM,sg,by rw[if_pos BD];exact(jZ g2).symm⟩
  all_goals
   rintro env B3 lk ⟨hlen,e0,e3,e4,e5,e8,PT,k3,k4,k5,kM,kc,C8⟩;have ha3:a3<B3.length:=by rw[zg] at k3;exact(dA.1 k3).1
   have mZ:∀env,v4 prog 201 env ⟨B3,[]⟩ [] [] (some (.ptr a3 0))=some (.val (m5 z 1 205 wait),⟨env,⟨B3.set a3 (.cells ([m5 z 1 205 wait].set 0 (GP z 1 wait)) t3),[]⟩,Ez z a3 0 wait,[]⟩):=λenv=>zqb ir k3 rfl;have lQ:=CJ.BH (v:=cJ m c) rfl rfl
   have gj:∀H,kb prog H 201 (m5 z 1 205 wait) (.sl 1 [cJ m c] .no)=some (zm 1 205 (wait++[cJ m c])):=λH=>zqD CJ (by simp) (j9 (by simp;omega) (by simp;omega))
   have Bm:∀env,qp prog 201 ⟨B3.set a3 (.cells ([m5 z 1 205 wait].set 0 (GP z 1 wait)) t3),[]⟩ (Ez z a3 0 wait) [] (some (zm 1 205 (wait++[cJ m c]),env)) (some (.ptr a3 0))=some (.skip,⟨env,⟨B3.set a3 (.cells [zm 1 205 (wait++[cJ m c])] t3),vg [] a3 (zm 1 205 (wait++[cJ m c]))⟩,Ez z a3 0 wait,[]⟩):=λenv=>zqc CJ.st ha3 (by simp) Pw (by rw[vt])
   try simp only[zi]
   refine wK (tk:=[36]) (by kernel_rfl) ?_
   simp only[BA,Nat.reduceEqDiff,ak,aq,za,bI,Nat.reduceLT,bD,e0,e3,hlen,nh,zeZ,mZ,lQ,BG,gj,Bm,ky (cx:=⟨prog,gl.g,zj prog gl (n'+1),ey⟩) (show rC prog ey 201=false by kernel_rfl)]
   obtain⟨B4,JB⟩:∃B4,B4=B3.set a3 (.cells [zm 1 205 (wait++[cJ m c])] t3):=⟨_,rfl⟩;obtain⟨e1,he1⟩:∃e1,e1=vg [] a3 (zm 1 205 (wait++[cJ m c])):=⟨_,rfl⟩;rw[<- JB,<- he1];have Uq:∀d y,nth B3 d=some y->d≠a3->nth B4 d=some y:=λd y h1 h2=>by
    rw[JB,zg,r8 (Ne.symm h2),<- zg,h1]
   have ZA:=Uq _ _ k4 (Ne.symm d34);have k45:=Uq _ _ k5 (Ne.symm d35);have k4M:=Uq _ _ kM (Ne.symm d3b);have k4c:=Uq _ _ kc (Ne.symm d3c)
   let PE:aG->List bq->Prop:=λenv Bx=>Bx=B4/\env.length=49/\nth env 0=some (cJ m c)/\nth env 4=some (.ptr a4 0)/\nth env 5=some (.ptr a5 0)/\nth env 8=some (.int .i64 (ws.length:Nat))
   refine mj (P:=PE) ?_ ⟨rfl,by simp[hlen],by simp[za,e0],by simp[za,e4],by simp[za,e5],by simp[za,e8]⟩
   clear mZ Bm gj lQ k3 k4 k5 kM kc e0 e3 e4 e5 e8 hlen;rintro env Bx lk ⟨rfl,hlen,e0,e4,e5,e8⟩;have ha4:a4<Bx.length:=by rw[zg] at ZA;exact(dA.1 ZA).1
   obtain⟨lab,Ae⟩:∃l,l=v8 f.s.2.length (wD m w) (-1):=⟨_,rfl⟩;obtain⟨BL,ZB⟩:∃BL,BL=Bx.set a4 (.cells ([aU,zm 1 3 dU].set 1 (oO 1 dU)) t4):=⟨_,rfl⟩;have ZC:∀d y,nth Bx d=some y->d≠a4->nth BL d=some y:=λd y h1 h2=>by
    rw[ZB,zg,r8 (Ne.symm h2),<- zg,h1]
   have mZ:∀env,v4 prog 27 env ⟨Bx,e1⟩ [] [] (some (.ptr a4 1))=some (.val (zm 1 3 dU),⟨env,⟨BL,e1⟩,kD a4 1 dU,[]⟩):=λenv=>by rw[ZB];exact Q2 Bl ZA rfl
   have l5:zk prog ⟨Bx,e1⟩ gl.g 141 (.ptr a5 0)=some (.ptr bm 0):=zr eU k45 rfl;have l5L:zk prog ⟨BL,e1⟩ gl.g 141 (.ptr a5 0)=some (.ptr bm 0):=zr eU (ZC _ _ k45 (Ne.symm d45)) rfl;obtain⟨n2,rfl⟩:∃n2,n'=n2+1+1:=⟨n' - 2,by omega⟩
   have BZ:∀H:List bq,nth H bm=some (.cells mc tM)->nth H c=some (.cells (dL m w) 5)->Cx.bK ⟨prog,gl.g,zj prog gl (n2+3),ey⟩ 112 [.ptr bm 0,cJ m c] ⟨H,e1⟩=some (.val (.int .i64 lab),⟨H,e1⟩):=λH q1 q2=>by
    rw[Ae];exact zu func112 rfl (zkG hg (n:=n2) uu (by omega) (by omega) rI q1 Dj q2)
   have ZD:=BZ _ k4M k4c;have ZE:=BZ _ (ZC _ _ k4M (Ne.symm d4b)) (ZC _ _ k4c (Ne.symm d4c));have lQ:=Mr.BH (v:=.int .i64 lab) rfl rfl;have gj:∀H,kb prog H 27 (zm 1 3 dU) (.sl 1 [.int .i64 lab] .no)=some (zm 1 3 (dU++[.int .i64 lab])):=λH=>jM Mr (by simp) (j9 (by simp;omega) (by simp;omega))
   have fe:∀env,qp prog 27 ⟨BL,e1⟩ (kD a4 1 dU) [] (some (zm 1 3 (dU++[.int .i64 lab]),env)) (some (.ptr a4 1))=some (.skip,⟨env,⟨Bx.set a4 (.cells [aU,zm 1 3 (dU++[.int .i64 lab])] t4),vg e1 a4 (zm 1 3 (dU++[.int .i64 lab]))⟩,kD a4 1 dU,[]⟩):=λenv=>by
    rw[ZB];exact Uj Mr.st ha4 (by simp)
   refine vo (tk:=[41]) (by kernel_rfl) ?_
   apply Exists.intro;apply And.intro;refine qu (m:=0) (v:=.ptr a4 1) (by kernel_rfl) rfl (by simp only[BA,ak,ah,Nat.reduceAdd,e4,FY];rfl) (by kernel_rfl) (by kernel_rfl) (by kernel_rfl) ?_
   dsimp only[aq]
   refine yw (m:=1) (v:=zm 1 3 dU) (cs':=[⟨2,⟨BL,e1⟩,kD a4 1 dU,[]⟩,⟨0,⟨Bx,e1⟩,[],[]⟩]) (by kernel_rfl) rfl (by simp only[BA,ak,Nat.reduceAdd,za,Nat.reduceLT,hlen,mZ];rfl) (by kernel_rfl) (by kernel_rfl) (by kernel_rfl) (λK=>?_) ?_
   rotate_left
   dsimp only[aq]
   refine ki (m:=0) (v:=.ptr bm 0) (by kernel_rfl) rfl (by simp only[BA,Nat.reduceEqDiff,ak,Nat.reduceAdd,za,bI,Nat.reduceLT,bD,e5,hlen,l5L];rfl) (by kernel_rfl) (by kernel_rfl) (by kernel_rfl) (wc λq hq=>by
    obtain rfl:=r9.1 hq;split
    ·exact iS (by simp only[BA,Nat.reduceEqDiff,ak,Nat.reduceAdd,za,bI,Nat.reduceLT,bD,e5,hlen,l5];rfl)
    ·rfl) ?_
   dsimp only[aq]
   refine qu (m:=0) (v:=cJ m c) (by kernel_rfl) rfl (by simp only[BA,Nat.reduceEqDiff,ak,Nat.reduceAdd,za,bI,Nat.reduceLT,bD,e0,hlen,nh];rfl) (by kernel_rfl) (by kernel_rfl) (by kernel_rfl) ?_
   dsimp only[aq]
   refine yw (m:=12) (v:=.int .i64 lab) (cs':=[⟨18,⟨BL,e1⟩,kD a4 1 dU,[]⟩,⟨16,⟨Bx,e1⟩,[],[]⟩,⟨2,⟨BL,e1⟩,kD a4 1 dU,[]⟩,⟨0,⟨Bx,e1⟩,[],[]⟩]) (by kernel_rfl) rfl (by simp only[BA,Nat.reduceEqDiff,av,ak,aC,Nat.reduceAdd,za,bI,Nat.reduceLT,bD,hlen,nh,ZE];rfl) (by kernel_rfl) (by kernel_rfl) (by kernel_rfl) (λK=>?_) ?_
   rotate_left
   dsimp only[aq]
   refine qu (m:=28) (v:=.sl 1 [.int .i64 lab] (.yes 3)) (by kernel_rfl) rfl (by simp only[BA,Nat.reduceEqDiff,ak,Nat.reduceAdd,za,bI,Nat.reduceLT,bD,hlen,lQ];rfl) (by kernel_rfl) (by kernel_rfl) (by kernel_rfl) ?_
   dsimp only[aq]
   refine ki (m:=63) (v:=zm 1 3 (dU++[.int .i64 lab])) (by kernel_rfl) rfl (by simp only[BA,Nat.reduceEqDiff,ak,Nat.reduceAdd,za,bI,Nat.reduceLT,bD,hlen,BG,gj,ky (cx:=⟨prog,gl.g,zj prog gl (n2+3),ey⟩) (show rC prog ey 27=false by kernel_rfl)];rfl) (by kernel_rfl) (by kernel_rfl) (by kernel_rfl) (by kernel_rfl) ?_
   dsimp only[aq]
   refine qu (m:=127) (v:=.ptr a4 1) (by kernel_rfl) rfl (by simp only[BA,Nat.reduceEqDiff,ak,ah,Nat.reduceAdd,za,bI,Nat.reduceLT,bD,e4,hlen,FY];rfl) (by kernel_rfl) (by kernel_rfl) (by kernel_rfl) ?_
   dsimp only[aq]
   refine w4 (m:=255) (cs':=[⟨274,⟨Bx.set a4 (.cells [aU,zm 1 3 (dU++[.int .i64 lab])] t4),vg e1 a4 (zm 1 3 (dU++[.int .i64 lab]))⟩,kD a4 1 dU,[]⟩,⟨18,⟨BL,e1⟩,kD a4 1 dU,[]⟩,⟨16,⟨Bx,e1⟩,[],[]⟩,⟨2,⟨BL,e1⟩,kD a4 1 dU,[]⟩,⟨0,⟨Bx,e1⟩,[],[]⟩]) (by kernel_rfl) rfl (by simp only[BA,Nat.reduceEqDiff,ak,Nat.reduceAdd,za,bI,Nat.reduceLT,bD,hlen,fe];rfl) (by kernel_rfl) (by kernel_rfl) (λK=>?_) vq
   ·refine j8 ?_ ?_ ?_ ?_
    ·kernel_rfl
    ·rfl
    ·intro c hc;simp only[dM,uh,tB] at hc;rcases hc with rfl|rfl|rfl<;>kernel_rfl
    ·kernel_rfl
   rotate_left
   ·refine j8 ?_ ?_ ?_ ?_
    ·kernel_rfl
    ·rfl
    ·intro c hc;simp at hc
    ·kernel_rfl
   ·refine zit (e:=⟨0,⟨BL,e1⟩,kD a4 1 dU,[]⟩) 2 rfl ?_ ?_ ?_ ?_ ?_ ?_ ?_ ?_ ?_ ?_ ?_
    ·kernel_rfl
    ·rfl
    ·intro q hq;simp only[dM,uh,tB] at hq;rcases hq with rfl|rfl|rfl|rfl
     ·exact .inr ⟨rfl,.inl rfl⟩
     ·exact .inr ⟨rfl,.inr (by kernel_rfl)⟩
     ·exact .inl rfl
     ·exact .inr ⟨rfl,.inl rfl⟩
    ·rfl
    ·kernel_rfl
    ·simp only[Cx.d_,jy];simp only[BA,Nat.reduceEqDiff,av,ak,aC,Nat.reduceAdd,za,bI,Nat.reduceLT,bD,hlen,nh,ZD];rfl
    ·kernel_rfl
    ·kernel_rfl
    ·simp only[Cx.d_,jy];simp only[BA,ak,Nat.reduceAdd,za,Nat.reduceLT,hlen,mZ]
    ·kernel_rfl
    ·exact zdv
   simp only[aq];simp only[zi]
   refine zh ?_;simp only[BA,Nat.reduceEqDiff,ak,aq,Nat.reduceAdd,za,bI,Nat.reduceLT,bD,e8,hlen,go_ret,zp,Fx]
   refine⟨[.int .i64 (ws.length:Nat)],?_,rfl,vg e1 a4 (zm 1 3 (dU++[.int .i64 lab])),?_,?_⟩
   ·simp only[zy,za,bI,hlen];rfl
   ·have tG:B1.length=B.length:=by rw[Aw,bI]
    have ha:∀d x,nth B d=some x->d<B.length:=λd x h=>by rw[zg] at h;exact(dA.1 h).1
    have q2:=ha _ _ h2;have q3:=ha _ _ h3;have q4:=ha _ _ h4;rw[JB,C8,GI,F_ _ _ (by omega),F_ _ _ (by rw[bI];omega),F_ _ _ (by rw[bI,bI];omega),Aw,<- Ae]
    rfl
   ·have Lf:(zm 1 3 (dU++[V.int .i64 lab])).top=0:=by rw[ya];exact gE Zx rfl
    have he:vg e1 a4 (zm 1 3 (dU++[.int .i64 lab]))=e1:=by rw[vg,Lf,if_pos (by omega)]
    rw[he,he1];intro e KC;unfold vg at KC;split at KC
    ·cases KC
    ·rw[r9.1 KC];show(zm 1 205 (wait++[cJ m c])).top<=_;rw[ya];refine qO λv hv=>?_;rcases tu.1 hv with hv|hv
     ·exact cZ (zn hv) Mt
     ·rw[r9.1 hv];simp only[cJ,V.top];omega
 ·refine j8 ?_ ?_ ?_ ?_
  ·kernel_rfl
  ·rfl
  ·intro c hc;cases hc
  ·unfold Cx.fG;refine wc λq hq=>?_;simp only[dM,uh,tB] at hq;rcases hq with rfl|rfl|rfl|rfl|rfl|rfl
   ·kernel_rfl
   ·kernel_rfl
   ·kernel_rfl
   ·kernel_rfl
   ·split
    ·rfl
    ·split
     next h=>cases h
     ·refine N9 ?_;exact iS (by simp only[BA,ak,zd,ze,bX,bY,jy,nh,v9 (cx:=⟨prog,gl.g,zj prog gl (n'+1),ey⟩) (a:=205) (b:=9) (show ey (w8 205)=true from rfl) rfl,Gi];rfl)
   ·kernel_rfl
end
def w7(ws:bO)(w:Nat):bO:=match kH w 0 ws with|some _=>ws|none=>ws++[w]
def jO(ws:bO)(g:Nat->Nat):Nat->bO
 | 0=>ws
 | y+1=>w7 (jO ws g y) (g y)
def zl(aU:Nat->Nat->Nat)(s0:Nat):Nat->bO
 | 0=>[s0]
 | i+1=>match (zl aU s0 i)[i]? with
  | some w=>jO (zl aU s0 i) (aU w) 256
  | none=>zl aU s0 i
def qB(ws:bO):Nat:=1+(ws.filter λw=>!(w == 0)).length
theorem ze0{w:Nat}:∀{ws:bO}{k i:Nat},kH w k ws=some i->k<=i/\ws[i - k]?=some w
 | [],k,i,h=>by simp[kH] at h
 | x::ws,k,i,h=>by
  simp only[kH] at h;split at h
  next e=>cases h;refine⟨dB _,?_⟩;rw[Dt,e];rfl
  ·obtain⟨h1,h2⟩:=ze0 h;refine⟨by omega,?_⟩
   rw[show i - k=(i - (k+1))+1 by omega]
   exact h2
theorem og{w:Nat}:∀{ws:bO}{k:Nat},kH w k ws=none ↔ w ∉ ws
 | [],k=>by simp[kH]
 | x::ws,k=>by
  simp only[kH,dM,not_or];split
  next e=>simp[e]
  next e=>rw[og];exact⟨λh=>⟨λe'=>e e'.symm,h⟩,λh=>h.2⟩
theorem zhw{w:Nat}{rs:bO}:∀{ws:bO}{k i:Nat},kH w k ws=some i->kH w k (ws++rs)=some i
 | [],k,i,h=>by simp[kH] at h
 | x::ws,k,i,h=>by
  simp only[kH,br] at h ⊢;split
  next e=>rw[if_pos e] at h;exact h
  next e=>rw[if_neg e] at h;exact zhw h
theorem zhx{w:Nat}:∀{ws:bO}{k:Nat},kH w k ws=none->kH w k (ws++[w])=some (k+ws.length)
 | [],k,_=>by simp[kH]
 | x::ws,k,h=>by
  simp only[kH,br] at h ⊢;split
  next e=>rw[if_pos e] at h;cases h
  next e=>rw[if_neg e] at h;rw[zhx h];simp;omega
theorem zhy{ws:bO}{w:Nat}:∃rs,w7 ws w=ws++rs:=by
 unfold w7;split
 ·exact⟨[],by simp⟩
 ·exact⟨_,rfl⟩
theorem ZF{ws:bO}{g:Nat->Nat}{y:Nat}:∀d,∃rs,jO ws g (y+d)=jO ws g y++rs
 | 0=>⟨[],by simp⟩
 | d+1=>by
  obtain⟨r1,h1⟩:=ZF (ws:=ws) (g:=g) (y:=y) d;obtain⟨r2,h2⟩:=zhy (ws:=jO ws g (y+d)) (w:=g (y+d));exact⟨r1++r2,by rw[<- p6];simp only[jO];rw[h2,h1,bp]⟩
theorem ze1{ws:bO}{g:Nat->Nat}(y:Nat):∃rs,jO ws g y=ws++rs:=by
 have:=ZF (ws:=ws) (g:=g) (y:=0) y;simpa[jO] using this
theorem ze2{aU:Nat->Nat->Nat}{s0 i:Nat}:∀d,∃rs,zl aU s0 (i+d)=zl aU s0 i++rs
 | 0=>⟨[],by simp⟩
 | d+1=>by
  obtain⟨r1,h1⟩:=ze2 (aU:=aU) (s0:=s0) (i:=i) d;rw[<- p6];simp only[zl];split
  ·obtain⟨r2,h2⟩:=ze1 (ws:=zl aU s0 (i+d)) (g:=aU _) 256;exact⟨r1++r2,by rw[h2,h1,bp]⟩
  ·exact⟨r1,h1⟩
theorem ZG{aU:Nat->Nat->Nat}{s0 i j:Nat}(h:i<=j):∃rs,zl aU s0 j=zl aU s0 i++rs:=by
 have:=ze2 (aU:=aU) (s0:=s0) (i:=i) (j - i)
 rwa [show i+(j - i)=j by omega] at this
theorem ZH{ws rs:bO}:qB ws<=qB (ws++rs):=by simp[qB]
theorem Ur{ws:bO}(h:ws.Nodup):ws.length<=qB ws:=by
 have:∀l:bO,l.Nodup->l.length<=(l.filter λw=>!(w == 0)).length+(if 0∈l then 1 else 0):=by
  intro l
  induction l with
  | nil=>intro _;simp
  | cons x l ih =>
   intro h;obtain⟨h1,h2⟩:=List.nodup_cons.1 h;have:=ih h2
   by_cases e:x=0
   ·subst e;rw[if_neg h1] at this;simp at this ⊢;omega
   ·have e1:¬(0=x):=λh=>e h.symm;simp[e,e1] at this ⊢;omega
 have:=this ws h;unfold qB;split at this<;>omega
theorem ziv{ws:bO}{w:Nat}(h:ws.Nodup):(w7 ws w).Nodup:=by
 unfold w7;split
 ·exact h
 ·rename_i e;refine List.nodup_append.2 ⟨h,by simp,?_⟩
  intro a ha b hb;rw[r9.1 hb];intro e';subst e';exact og.1 e ha
theorem xL{ws:bO}{g:Nat->Nat}(h:ws.Nodup):∀y,(jO ws g y).Nodup
 | 0=>h
 | y+1=>ziv (xL h y)
theorem yb{aU:Nat->Nat->Nat}{s0:Nat}:∀i,(zl aU s0 i).Nodup
 | 0=>by simp[zl]
 | i+1=>by
  simp only[zl];split
  ·exact xL (yb i) _
  ·exact yb i
section
variable{gl:Gl}
def dW(bs:List bq)(bm m:Nat)(lab:Nat->Int)(N:aG)(ws:bO)(z:Bool)(wait:aG)(rest:List bq):List bq :=
 bs++(.cells [.ptr bm 0] 141::.cells [.aH,.aH] 66::.cells [zm 1 27 N,zm 1 3 (ws.map λw=>A2.ie (lab w))] 66::.map (w6 m 0 ws)::.cells [.map (bs.length+3)] 207::.cells [.int .i64 (qB ws:Nat)] 3::.cells [m5 z 1 205 wait] 201::rest)
section
variable{bs:List bq}{bm m:Nat}{lab:Nat->Int}{N N':aG}{ws:bO}{z z':Bool}{wait:aG}{rest:List bq}{x:bq}{i:Nat}
theorem N_:(dW bs bm m lab N ws z wait rest).length=bs.length+7+rest.length:=by simp[dW];omega
theorem ZI{d:Nat}(h:d<bs.length):nth (dW bs bm m lab N ws z wait rest) d=nth bs d:=by
 rw[dW,zg,zg,gF h]
theorem wk{k:Nat}:nth (dW bs bm m lab N ws z wait rest) (bs.length+k)=nth (.cells [.ptr bm 0] 141::.cells [.aH,.aH] 66::.cells [zm 1 27 N,zm 1 3 (ws.map λw=>A2.ie (lab w))] 66::.map (w6 m 0 ws)::.cells [.map (bs.length+3)] 207::.cells [.int .i64 (qB ws:Nat)] 3::.cells [m5 z 1 205 wait] 201::rest) k:=by
 rw[dW,zg,zg,fM (by omega)]
 congr 1
 omega
theorem JZ:nth (dW bs bm m lab N ws z wait rest) bs.length=some (.cells [.ptr bm 0] 141):=wk (k:=0)
theorem Bn:nth (dW bs bm m lab N ws z wait rest) (bs.length+7+i)=nth rest i:=by
 rw[show bs.length+7+i=bs.length+(i+1+1+1+1+1+1+1) by omega,wk];rfl
theorem Bo:dW bs bm m lab N ws z wait rest++[x]=dW bs bm m lab N ws z wait (rest++[x]):=by simp[dW]
theorem zoj{xs:List bq}:dW bs bm m lab N ws z wait rest++xs=dW bs bm m lab N ws z wait (rest++xs):=by simp[dW]
theorem zmM:(dW bs bm m lab N ws z wait rest).set (bs.length+7+i) x=dW bs bm m lab N ws z wait (rest.set i x):=by
 rw[dW,uN _ _ (by omega),show bs.length+7+i - bs.length=i+1+1+1+1+1+1+1 by omega];rfl
theorem yn{l:List bq}{k:Nat}:(bs++l).set (bs.length+k) x=bs++l.set k x:=by
 rw[uN _ _ (by omega)]
 congr 2
 omega
theorem zmN{J0:aG}:(dW bs bm m lab N ws z wait rest).set (bs.length+6) (.cells [m5 z' 1 205 J0] 201)=dW bs bm m lab N ws z' J0 rest:=yn
theorem zmO:(dW bs bm m lab N ws z wait rest).set (bs.length+2) (.cells [zm 1 27 N',zm 1 3 (ws.map λw=>A2.ie (lab w))] 66)=dW bs bm m lab N' ws z wait rest:=yn
end
theorem zkN{ws:bO}{w:Nat}:qB (ws++[w])=if w=0 then qB ws else qB ws+1:=by
 unfold qB
 by_cases h:w=0
 ·simp[h]
 ·simp[h];omega
theorem zok{bs:List bq}{bm m c w:Nat}{lab:Nat->Int}{N wait:aG}{ws:bO}{z:Bool}{rest:List bq} :
  Ms (dW bs bm m lab N ws z wait rest) (bs.length+4) (bs.length+5) (bs.length+6) (bs.length+2) (bs.length+3) m c w (qB ws:Nat) ws wait (zm 1 27 N) (ws.map λw=>A2.ie (lab w)) (lab w) 3 201 66=dW bs bm m lab N (ws++[w]) z (wait++[cJ m c]) rest:=by
 have hs:(if w=0 then ((qB ws:Nat):Int) else ((qB ws:Nat):Int)+1)=((qB (ws++[w]):Nat):Int):=by
  rw[zkN];split<;>simp
 rw[Ms,hs,dW,yn,yn,yn,yn,dW];simp[A2.ie,zoi]
def J1(ws:bO)(w:Nat)(wait:aG)(v:V):aG:=match kH w 0 ws with|some _=>wait|none=>wait++[v]
theorem zkO(hg:GS gl){z:Bool}{n bm m w c:Nat}{ws:bO}{wait N:aG}{mc:aG}{tM:aD}{f:A2.F}(hn:m+400<=n)(As:wait.length<2 ^ 39)(Zf:ws.length<2 ^ 39)(C3:0<m)(uu:m<2 ^ 36)(hw:w<2 ^ (8 * m))(Db:∀x∈ws,x<2 ^ (8 * m))(rI:f.s.2.length<2 ^ 40){bs rest:List bq}{es:aP}
  (hM:nth bs bm=some (.cells mc tM)) (Dj:nth mc 0=some (A2.qv f.s)) (hc:nth rest c=some (.cells (dL m w) 5)) (Mt:aL wait<=bs.length+7+rest.length) :
  ∃iF j,zj prog gl (n+1) 111 [cJ m (bs.length+7+c),.ptr (bs.length+4) 0,.ptr (bs.length+5) 0,.ptr (bs.length+6) 0,.ptr (bs.length+2) 0,.ptr bs.length 0] ⟨dW bs bm m (λw=>v8 f.s.2.length (wD m w) (-1)) N ws z wait rest,es⟩=some (.ret (.int .i64 (j:Nat)),⟨dW bs bm m (λw=>v8 f.s.2.length (wD m w) (-1)) N (w7 ws w) z (J1 ws w wait (cJ m (bs.length+7+c))) rest,iF⟩)/\kH w 0 (w7 ws w)=some j:=by
 have Ca:bm<bs.length:=by rw[zg] at hM;exact(dA.1 hM).1
 have hcB:nth (dW bs bm m (λw=>v8 f.s.2.length (wD m w) (-1)) N ws z wait rest) (bs.length+7+c)=some (.cells (dL m w) 5):=Bn.trans hc;cases hx:kH w 0 ws with
 | some i =>
  refine⟨es,i,?_,?_⟩
  ·rw[w7,J1,hx];exact zkL hg hw Db (wk (k:=4)) (wk (k:=3)) hcB hx
  ·rw[w7,hx];exact hx
 | none =>
  have hcw:qB ws<2 ^ 40:=by
   have:=List.length_filter_le (λw=>!(w == 0)) ws;unfold qB;omega
  obtain⟨iF,h⟩:=zkM hg (B:=dW bs bm m (λw=>v8 f.s.2.length (wD m w) (-1)) N ws z wait rest) (es:=es) hn (by omega) (dU:=ws.map λw=>A2.ie (v8 f.s.2.length (wD m w) (-1))) (by rw[iK];omega) C3 uu hw Db (sum:=(qB ws:Nat)) ⟨by omega,by omega⟩ rI (A2.lH (λ_=>rfl) _)
   (wk (k:=4)) (wk (k:=5)) (wk (k:=6)) (wk (k:=2)) JZ ((ZI Ca).trans hM) Dj (wk (k:=3)) hcB
   (by simp only[List.nodup_cons,dM,uh,tB,not_or,List.nodup_nil,and_true,ug];omega) hx (by rw[N_];exact Mt)
  refine⟨iF,ws.length,?_,?_⟩
  ·rw[h,zok (lab:=λw=>v8 f.s.2.length (wD m w) (-1)),w7,J1,hx]
  ·rw[w7,hx];have:=zhx (k:=0) hx;rw[oh] at this;exact this
end
theorem Rh{w:Nat->Nat}:∀{Y y c:Nat},(fE w Y).2.1[y]?=some c->(fE w Y).1[c]?=some (w y)
 | 0,y,c,h=>by simp[fE] at h
 | Y+1,y,c,h=>by
  have hl:=N1 (w:=w) Y;simp only[fE] at h ⊢;split at h
  ·rename_i i hi;rcases eY y Y with hy|hy
   ·rw[gF (by omega)] at h
    exact Rh h
   ·rw[fM (by omega)] at h
    have e:y - (fE w Y).2.1.length=0:=by
     have:=(dA.1 h).1;simp at this;omega
    rw[e] at h;simp at h;subst h;obtain rfl:y=Y:=by omega
    have:=(ze0 hi).2;simpa using this
  ·rename_i hi;rcases eY y Y with hy|hy
   ·rw[gF (by omega)] at h
    have:=Rh h;rw[gF (dA.1 this).1];exact this
   ·rw[fM (by omega)] at h
    have e:y - (fE w Y).2.1.length=0:=by
     have:=(dA.1 h).1;simp at this;omega
    rw[e] at h;simp at h;subst h;obtain rfl:y=Y:=by omega
    simp
theorem ZJ{w:Nat->Nat}:∀Y,(fE w Y).2.2.length=(fE w Y).1.length
 | 0=>rfl
 | Y+1=>by
  simp only[fE];split
  ·exact ZJ Y
  ·simp[ZJ Y]
def rZ(f:A2.F)(y:Nat):Nat:=oG f.s.2 y f.s.2.length
def GQ(f:A2.F):bO:=(fE (rZ f) 256).2.1
def Ri(f:A2.F):Nat:=(fE (rZ f) 256).2.2.length
theorem zjN{f:A2.F}:(GQ f).length=256:=N1 256
theorem zmP{f:A2.F}{y c:Nat}(h:(GQ f)[y]?=some c):c<Ri f:=by
 have:=(dA.1 (Rh h)).1;rw[Ri,ZJ];exact this
theorem zol{f:A2.F}:0<Ri f:=by
 have h0:0<(GQ f).length:=by rw[zjN];exact Nat.succ_pos _
 exact Kl (dP _) (zmP (gG h0))
theorem zpA{f:A2.F}:Ri f<=256:=by
 have:∀(w:Nat->Nat) Y,(fE w Y).2.2.length<=Y:=by
  intro w Y
  induction Y with
  | zero=>exact dB _
  | succ Y ih =>
   simp only[fE];split
   ·exact Km ih
   ·simp;omega
 exact this _ _
theorem ZK{ss:List A2.Q4}{y k:Nat}{s:A2.Q4}:∀{K:Nat},k<K->ss[k]?=some s->(oG ss y K).testBit k=ym s y
 | 0,h,_=>by omega
 | K+1,h,hs=>by
  have hle:∀{K k},K<=k->(oG ss y K).testBit k=false:=by
   intro K
   induction K with
   | zero=>intro k _;simp[oG]
   | succ K ih =>
    intro k hk;have e:=ih (k:=k) (by omega)
    simp only[oG];split
    ·split
     ·rw[BR,e,Ga];simp;omega
     ·exact e
    ·exact e
  simp only[oG];rcases eY k K with hk|hk
  ·have ih:=ZK (y:=y) hk hs;split
   ·split
    ·rw[BR,ih,Ga];have:¬K=k:=by omega
     simp[this]
    ·exact ih
   ·exact ih
  ·obtain rfl:k=K:=by omega
   rw[hs];simp only;split
   next h1=>rw[BR,Ga,h1];simp
   next h1=>rw[hle (dB _)];simpa using h1
def uc(f:A2.F)(nx:aP)(m w y:Nat):Nat:=xQ f nx y (wD m w) 0
theorem zhz{f:A2.F}{nx:aP}{y z k q:Nat}(h:rZ f y=rZ f z):xf f nx y k q=xf f nx z k q:=by
 unfold xf;cases hs:f.s.2[k]? with
 | none=>rfl
 | some s =>
  cases hp:nx[k]? with
  | none=>rfl
  | some p =>
   have hk:=(dA.1 hs).1;have h1:=ZK (y:=y) hk hs;have h2:=ZK (y:=z) hk hs;have h3:(oG f.s.2 y f.s.2.length).testBit k=(oG f.s.2 z f.s.2.length).testBit k:=congrArg (λx=>Nat.testBit x k) h;simp only;rw[<- h1,<- h2,h3]
theorem zom{f:A2.F}{nx:aP}{m w y z c:Nat}(h1:(GQ f)[y]?=some c)(h2:(GQ f)[z]?=some c):uc f nx m w y=uc f nx m w z:=by
 have h:rZ f y=rZ f z:=BQ ((Rh h1).symm.trans (Rh h2));have:∀(l:bO)(q:Nat),xQ f nx y l q=xQ f nx z l q:=by
  intro l
  induction l with
  | nil=>intro q;rfl
  | cons k l ih =>
   intro q;show xQ f nx y l (xf f nx y k q)=xQ f nx z l (xf f nx z k q);rw[zhz h];exact ih _
 exact this _ _
theorem ZL{f:A2.F}{nx:aP}{m w y:Nat}(h:∀p∈nx,p.2<2 ^ (8 * m)):uc f nx m w y<2 ^ (8 * m):=by
 have:∀(l:bO)(q:Nat),q<2 ^ (8 * m)->xQ f nx y l q<2 ^ (8 * m):=by
  intro l
  induction l with
  | nil=>intro q hq;exact hq
  | cons k l ih =>
   intro q hq;refine ih _ ?_;show xf f nx y k q<_;unfold xf;split
   ·rename_i s p hs hp;split
    ·exact I2 hq (h p (pG hp))
    ·exact hq
   ·exact hq
 exact this _ _ (Nat.pow_pos (by decide))
theorem zon{ws:bO}{w B:Nat}(h:∀x∈ws,x<B)(hw:w<B):∀x∈w7 ws w,x<B:=by
 intro x hx;unfold w7 at hx;split at hx
 ·exact h x hx
 ·rcases tu.1 hx with hx|hx
  ·exact h x hx
  ·rw[r9.1 hx];exact hw
theorem ZM{ws:bO}{g:Nat->Nat}{B:Nat}(h:∀x∈ws,x<B)(hg:∀y,g y<B):∀y,∀x∈jO ws g y,x<B
 | 0=>h
 | y+1=>zon (ZM h hg y) (hg y)
theorem ZN{aU:Nat->Nat->Nat}{s0 B:Nat}(h:s0<B)(hn:∀w y,aU w y<B):∀i,∀x∈zl aU s0 i,x<B
 | 0=>by simp[zl,h]
 | i+1=>by
  simp only[zl];split
  ·exact ZM (ZN h hn i) (hn _) 256
  ·exact ZN h hn i
def EA(aU:Nat->Nat->Nat)(s0 j:Nat):List Int:=match (zl aU s0 j)[j]? with
 | some w=>(List.range 256).map λy=>(((kH (aU w y) 0 (zl aU s0 (j+1))).getD 0:Nat):Int)
 | none=>[]
inductive WF(m:Nat)(rest:List bq):bO->bO->Prop
 |nil:WF m rest [] []
 |cons {w c:Nat} {ws cs:bO} (h:nth rest c=some (.cells (dL m w) 5)) (t:WF m rest ws cs):WF m rest (w::ws) (c::cs)
theorem WF.mono{m:Nat}{r r':List bq}(hr:∀c w,nth r c=some (.cells (dL m w) 5)->nth r' c=some (.cells (dL m w) 5)){ws cs:bO}(h:WF m r ws cs):WF m r' ws cs:=by
 induction h with
 | nil=>exact .nil
 | cons h _ ih=>exact .cons (hr _ _ h) ih
theorem WF.snoc{m:Nat}{r:List bq}{w c:Nat}(hc:nth r c=some (.cells (dL m w) 5)){ws cs:bO}(h:WF m r ws cs):WF m r (ws++[w]) (cs++[c]):=by
 induction h with
 | nil=>exact .cons hc .nil
 | cons h _ ih=>exact .cons h ih
theorem WF.len{m:Nat}{r:List bq}{ws cs:bO}(h:WF m r ws cs):cs.length=ws.length:=by
 induction h with
 | nil=>rfl
 | cons _ _ ih=>simp[ih]
theorem WF.lt{m:Nat}{r:List bq}{ws cs:bO}(h:WF m r ws cs):∀c∈cs,c<r.length:=by
 induction h with
 | nil=>simp
 | cons h _ ih =>
  intro c hc;rcases dM.1 hc with rfl|hc
  ·rw[zg] at h;exact(dA.1 h).1
  ·exact ih c hc
section
def fY(b k:Nat):V:=.sr (b+k) 0 256 256
def AE(b:Nat)(NB:bO)(dU:List Int):V:=.agg [bg (zm 1 27 (NB.map (fY b))),bg (zm 1 3 (dU.map A2.ie))]
inductive RW(aU:Nat->Nat->Nat)(s0:Nat)(B:List bq)(b:Nat):Nat->bO->Prop
 |nil:RW aU s0 B b 0 []
 |snoc {i k:Nat} {NB:bO} (h:RW aU s0 B b i NB) (hk:∀j∈NB,j<k) (hb:nth B (b+k)=some (.cells ((EA aU s0 i).map A2.ie) 3)):RW aU s0 B b (i+1) (NB++[k])
theorem RW.mono{aU:Nat->Nat->Nat}{s0 b b' i:Nat}{B B':List bq}{NB:bO}(h:RW aU s0 B b i NB):(∀k x,k∈NB->nth B (b+k)=some x->nth B' (b'+k)=some x)->RW aU s0 B' b' i NB:=by
 induction h with
 | nil=>intro _;exact .nil
 | snoc h hk hb ih=>intro hm;exact .snoc (ih λk x hk=>hm k x (Bu _ hk)) hk (hm _ _ (by simp) hb)
theorem RW.len{aU:Nat->Nat->Nat}{s0 b i:Nat}{B:List bq}{NB:bO}(h:RW aU s0 B b i NB):NB.length=i:=by
 induction h with
 | nil=>rfl
 | snoc _ _ _ ih=>simp[ih]
theorem RW.lt{aU:Nat->Nat->Nat}{s0 b i:Nat}{B:List bq}{NB:bO}(h:RW aU s0 B b i NB):∀k∈NB,b+k<B.length:=by
 induction h with
 | nil=>simp
 | snoc h hk hb ih =>
  intro k hk;rcases tu.1 hk with hk|hk
  ·exact ih k hk
  ·rw[r9.1 hk];rw[zg] at hb;exact(dA.1 hb).1
theorem kI{rest:List bq}{k d:Nat}{x y:bq}(h1:nth rest k=some x):nth (rest.set k y) d=if d=k then some y else nth rest d:=by
 have hk:k<rest.length:=by rw[zg] at h1;exact(dA.1 h1).1
 rw[zg,zg,tc]
 by_cases e:k=d
 ·subst e;simp[hk]
 ·rw[if_neg e,if_neg (λe'=>e e'.symm)]
theorem vP{rest xs:List bq}{k:Nat}{x:bq}(h:nth rest k=some x):nth (rest++xs) k=some x:=by
 rw[zg] at h ⊢;rw[gF (dA.1 h).1,h]
structure m6(m i kr c0 nc w:Nat)(aU:Nat->Nat->Nat)(s0:Nat)(cl ws NB:bO)(y yr:Nat)(rest:List bq)(W:bO)(R T:List Int):Prop where
 wf:WF m rest ((jO ws (aU w) y).drop (i+1)) W
 sJ:nth rest c0=some (.cells (dL m w) 5)
 hR:nth rest kr=some (.cells (R.map A2.ie) 3)
 Rl:R.length=256
 Rv:∀b,b<yr->∃j:Nat,kH (aU w b) 0 (jO ws (aU w) y)=some j/\R[b]?=some (j:Int)
 hT:nth rest (kr+1)=some (.cells (T.map A2.ie) 3)
 Tl:T.length=nc
 Tv:∀(c:Nat)(v:Int),T[c]?=some v->(v = -1/\∀b,b<y->cl[b]?≠some c)\/∃b,b<y/\cl[b]?=some c/\∃j:Nat,v=j/\kH (aU w b) 0 (jO ws (aU w) y)=some j
 rw:RW aU s0 rest 0 i NB
 nb:∀k∈NB,k<kr
variable{m i kr c0 nc w:Nat}{aU:Nat->Nat->Nat}{s0:Nat}{cl ws NB:bO}{y yr:Nat}{rest:List bq}{W:bO}{R T:List Int}
theorem m6.app(h:m6 m i kr c0 nc w aU s0 cl ws NB y yr rest W R T)(xs:List bq):m6 m i kr c0 nc w aU s0 cl ws NB y yr (rest++xs) W R T :=
 {h with wf:=h.wf.mono λ_c _w e=>vP e,sJ:=vP h.sJ,hR:=vP h.hR,hT:=vP h.hT,rw:=h.rw.mono λ_k _x _ e=>vP e }
def II(ws:bO)(w:Nat)(W:bO)(c:Nat):bO:=match kH w 0 ws with|some _=>W|none=>W++[c]
theorem zhA{ws:bO}{x w j:Nat}(h:kH x 0 ws=some j):kH x 0 (w7 ws w)=some j:=by
 obtain⟨rs,e⟩:=zhy (ws:=ws) (w:=w);rw[e];exact zhw h
theorem ZO{k d:Nat}{L:List Int}{u:Nat}(h1:nth rest k=some (.cells (L.map A2.ie) 3))(h2:nth rest d=some (.cells (dL m u) 5)):d≠k:=λe=>by
 subst e;rw[h1] at h2;exact absurd (bq.cells.inj (BQ h2)).2 (by decide)
theorem WF.set{k:Nat}{L:List Int}{x:bq}{us cs:bO}(h:WF m rest us cs)(h1:nth rest k=some (.cells (L.map A2.ie) 3)):WF m (rest.set k x) us cs :=
 h.mono λc u e=>by rw[kI h1,if_neg (ZO h1 e),e]
theorem m6.new{c cn j:Nat}(h:m6 m i kr c0 nc w aU s0 cl ws NB y yr rest W R T)(gI:cl[y]?=some c)(J2:nth rest cn=some (.cells (dL m (aU w y)) 5))(hi:i+1<=(jO ws (aU w) y).length)
  (hj:kH (aU w y) 0 (w7 (jO ws (aU w) y) (aU w y))=some j):m6 m i kr c0 nc w aU s0 cl ws NB (y+1) yr (rest.set (kr+1) (.cells ((T.set c (j:Int)).map A2.ie) 3)) (II (jO ws (aU w) y) (aU w y) W cn) R (T.set c (j:Int)):=by
 refine { wf:=WF.set (L:=T) ?_ h.hT,sJ:=?_,hR:=?_,Rl:=h.Rl,Rv:=?_,hT:=?_,Tl:=?_,Tv:=?_,rw:=?_,nb:=h.nb }
 ·cases hx:kH (aU w y) 0 (jO ws (aU w) y) with
  | some k=>simp only[jO,w7,II,hx];exact h.wf
  | none =>
   simp only[jO,w7,II,hx];rw[List.drop_append_of_le_length hi];exact h.wf.snoc J2
 ·rw[kI h.hT,if_neg (ZO h.hT h.sJ),h.sJ]
 ·rw[kI h.hT,if_neg (by omega),h.hR]
 ·intro b hb;obtain⟨j',h1,h2⟩:=h.Rv b hb;exact⟨j',zhA h1,h2⟩
 ·rw[kI h.hT,if_pos rfl]
 ·rw[bI,h.Tl]
 ·intro d v hv;rw[tc] at hv
  by_cases e:c=d
  ·subst e;rw[if_pos rfl] at hv;split at hv
   ·cases hv;exact .inr ⟨y,Ko _,gI,j,rfl,hj⟩
   ·cases hv
  ·rw[if_neg e] at hv;rcases h.Tv d v hv with⟨h1,h2⟩|⟨b,h1,h2,j',h3,h4⟩
   ·refine .inl ⟨h1,λb hb=>?_⟩;rcases eY b y with dw|dw
    ·exact h2 b dw
    ·obtain rfl:b=y:=by omega
     rw[gI];intro e';exact e (BQ e')
   ·exact .inr ⟨b,by omega,h2,j',h3,zhA h4⟩
 ·refine h.rw.mono λk x hk e=>?_;rw[kI h.hT,if_neg,e];have:=h.nb k hk;omega
theorem m6.old{c:Nat}{v:Int}(h:m6 m i kr c0 nc w aU s0 cl ws NB y yr rest W R T)(gI:cl[y]?=some c)(hv:T[c]?=some v)(h0:¬v<0)(Oa:∀b,cl[b]?=some c->aU w b=aU w y) :
  jO ws (aU w) (y+1)=jO ws (aU w) y/\m6 m i kr c0 nc w aU s0 cl ws NB (y+1) yr rest W R T:=by
 rcases h.Tv c v hv with⟨rfl,_⟩|⟨b,h1,h2,j,h3,h4⟩
 ·exact absurd (by decide) h0
 ·have e:jO ws (aU w) (y+1)=jO ws (aU w) y:=by
   rw[Oa b h2] at h4;simp only[jO,w7,h4]
  refine⟨e,{ wf:=by rw[e];exact h.wf,sJ:=h.sJ,hR:=h.hR,Rl:=h.Rl,Rv:=by rw[e];exact h.Rv,hT:=h.hT,Tl:=h.Tl,Tv:=?_,rw:=h.rw,nb:=h.nb }⟩
  intro d u hu;rw[e];rcases h.Tv d u hu with⟨g1,g2⟩|⟨b',g1,g2,g3⟩
  ·refine .inl ⟨g1,λb' dw=>?_⟩;rcases eY b' y with Rj|Rj
   ·exact g2 b' Rj
   ·obtain rfl:b'=y:=by omega
    rw[gI];intro e';have:c=d:=BQ e';subst this;exact g2 b h1 h2
  ·exact .inr ⟨b',by omega,g2,g3⟩
theorem m6.val{c:Nat}{v:Int}(h:m6 m i kr c0 nc w aU s0 cl ws NB (y+1) yr rest W R T)(gI:cl[y]?=some c)(hv:T[c]?=some v)(Oa:∀b,cl[b]?=some c->aU w b=aU w y):∃j:Nat,v=j/\kH (aU w y) 0 (jO ws (aU w) (y+1))=some j:=by
 rcases h.Tv c v hv with⟨_,h2⟩|⟨b,h1,h2,j,h3,h4⟩
 ·exact absurd gI (h2 y (Ko _))
 ·rw[Oa b h2] at h4;exact⟨j,h3,h4⟩
theorem m6.row{j:Nat}(h:m6 m i kr c0 nc w aU s0 cl ws NB (y+1) y rest W R T)(hy:y<256)(hj:kH (aU w y) 0 (jO ws (aU w) (y+1))=some j):m6 m i kr c0 nc w aU s0 cl ws NB (y+1) (y+1) (rest.set kr (.cells ((R.set y (j:Int)).map A2.ie) 3)) W (R.set y (j:Int)) T:=by
 refine { wf:=WF.set (L:=R) h.wf h.hR,sJ:=?_,hR:=?_,Rl:=?_,Rv:=?_,hT:=?_,Tl:=h.Tl,Tv:=h.Tv,rw:=?_,nb:=h.nb }
 ·rw[kI h.hR,if_neg (ZO h.hR h.sJ),h.sJ]
 ·rw[kI h.hR,if_pos rfl]
 ·rw[bI,h.Rl]
 ·intro b hb;rcases eY b y with dw|dw
  ·obtain⟨j',h1,h2⟩:=h.Rv b dw;exact⟨j',h1,by rw[tc,if_neg (by omega)];exact h2⟩
  ·obtain rfl:b=y:=by omega
   exact⟨j,hj,by rw[tc,if_pos rfl,if_pos (by rw[h.Rl];exact hy)]⟩
 ·rw[kI h.hR,if_neg (by omega),h.hT]
 ·refine h.rw.mono λk x hk e=>?_;rw[kI h.hR,if_neg,e];have:=h.nb k hk;omega
theorem m6.done(h:m6 m i kr c0 nc w aU s0 cl (zl aU s0 i) NB 256 256 rest W R T)(hw:(zl aU s0 i)[i]?=some w):RW aU s0 rest 0 (i+1) (NB++[kr])/\WF m rest ((zl aU s0 (i+1)).drop (i+1)) W:=by
 have e:zl aU s0 (i+1)=jO (zl aU s0 i) (aU w) 256:=by simp only[zl,hw]
 refine⟨.snoc h.rw h.nb ?_,by rw[e];exact h.wf⟩
 rw[oh,h.hR]
 congr 3
 apply EI;intro b;rw[EA,hw];simp only;rcases eY b 256 with hb|hb
 ·obtain⟨j,h1,h2⟩:=h.Rv b hb;rw[h2,mu,Kj hb];simp only[aW,e,h1,gm]
 ·rw[uf (by rw[h.Rl];exact hb),uf (by rw[iK,List.length_range];exact hb)]
end
end Go.Proofs.YthohlnmcjkjeiaaGreatDoor
