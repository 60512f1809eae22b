/- Seat 8, subset: sets of places, as bytes in a block: none, add, zmP; Seat 8, subset: a byte's lowest bit; what is done of each place; Trees of bodies, as they are told of the program's code; and what follows from it. Conditions: none but those that each theorem names. -/
import Derived.Test.YthohlnmcjkjeiaaGreatDoorVmM
namespace Go.Proofs.YthohlnmcjkjeiaaGreatDoor
set_option maxRecDepth 100000
open Go Go.Vm
variable {gl:Gl}
def uqS (e:TypeId):Bool:=uqw e || Nat.beq e lateK
def subF:List Nat:=[28,30,73,74,108,109,110,111,112,113,114,148,149,150,151,188]
structure GS (gl:Gl):Prop where
 uq:gl.uq=uqS
 hk2:∀ n f args H,(subF.any (Nat.beq f))=true->gl.hk2 n f args H=none
 hk:∀ f args,(subF.any (Nat.beq f))=true->gl.hk f args=none
theorem yF {n0 t:Nat} {es:List (Nat×Nat)} {H:Hp} (h:n0<t):zL n0 es t H=⟨H.blks,H.edges++es⟩:=by
 unfold zL;have:Nat.ble t n0=false:=by
  cases hb:Nat.ble t n0 with
  | false=>rfl
  | true=>have:=zAf hb;omega
 rw [this];rfl
theorem zdp {bs:List Blk} {es:List (Nat×Nat)} {b:Nat} {x:Blk}:zL bs.length es 0 ⟨bs.set b x,[]⟩=⟨bs.set b x,es⟩:=by
 have:=qR (bs:=bs.set b x) (ls:=[]) (es:=es) (t:=0) (zAW _)
 rwa [zBB,zAF] at this
theorem u205:Tryz.prog.underlying 205=some (.slice 5):=by kernel_rfl
theorem sz5':zy Tryz.prog 5=some 1:=by kernel_rfl
theorem ag5':qC Tryz.prog 5=some false:=by kernel_rfl
theorem z5':zU Tryz.prog 5=some (.int .u8 0):=by kernel_rfl
theorem in5:∃ i,Tryz.prog.info? 5=some i/\i.bytes=1:=⟨_,rfl,rfl⟩
theorem zfB {v:V}:∀ {k:Nat},(List.replicate k [v]).flatten=List.replicate k v
 | 0=>rfl
 | k+1=>by rw [zBe,List.flatten_cons,zfB,zBe];rfl
theorem yG (hg:GS gl) {n k:Nat} (hk:k<2 ^ 40) {bs:List Blk} {es:List (Nat×Nat)}:zk Tryz.prog gl (n+1) 108 [.int .i64 (k:Nat)] ⟨bs,es⟩=some (.ret (.sr bs.length 0 (k / 8+1) (k / 8+1)),⟨bs++[.cells (bys (k / 8+1) 0) 5],es⟩):=by
 suffices hmain:(go ⟨Tryz.prog,gl,zk Tryz.prog gl n,uqS⟩ n (Fx Tryz.prog Tryz.f108.results.toList fun w H1=>w=.sr bs.length 0 (k / 8+1) (k / 8+1)/\H1=⟨bs++[.cells (bys (k / 8+1) 0) 5],[]⟩) [.c (Tryz.f108.body.getD .skip)] .normal ⟨[.int .i64 (k:Nat)]++List.replicate 6 (.tup []),⟨bs,[]⟩,[],[]⟩) by
  obtain ⟨w,H1,h0,rfl,rfl⟩:=z0 (gl:=gl) (f:=108) (bs:=bs) (es:=es) (args:=[.int .i64 (k:Nat)]) (n:=n) (hg.hk _ _ (by decide)) (fun H=>hg.hk2 _ _ _ _ (by decide)) Tryz.func108 rfl (by rw [hg.uq];exact hmain)
  rw [h0,yF (by simp [V.top])]
  rfl
 obtain ⟨i,hin1,hin2⟩:=in5;simp only [Tryz.f108,zAs,zA];refine ze (tk:=[]) (by kernel_rfl) ?_
 simp only [BA,zAN];simp only [List.replicate];refine ze (tk:=[]) (by kernel_rfl) ?_
 simp only [BA,zh,zi,zAQ,zAN,zir (show k<2 ^ 60 by omega),q9 (show k / 8<2 ^ 60 by omega)]
 rw [zkw (k:=k / 8+1) u205 sz5' z5' rfl hin1 (by decide) rfl rfl rfl rfl (by rw [hin2];exact roomA_of (by omega) (by omega)) (by omega)]
 simp only [BA,zc,zh,zi,zAQ,zAN,ziq];simp only [go_ret,zx,Fx]
 refine ⟨trivial,[.sr bs.length 0 (k / 8+1) (k / 8+1)],?_,rfl,?_⟩
 ·simp only [zt,zh,zi]
 ·show Hp.mk _ _=_;rw [znw,<- zfB];rfl
theorem zeo {b i m:Nat} (h:i<m):zr Tryz.prog 205 (.sr b 0 m m) ((i:Nat):Int)=some (.ptr b i):=by
 simp only [zr,u205,sz5'];rw [if_pos (by omega)]
 simp
theorem zrb {b i m p:Nat} (h:i<m):kQ [] b i 1 ((bys m p).drop i)=true:=zcw fun k hk=>by
 obtain rfl:k=0:=by omega
 exact ⟨_,by rw [zBf,wm h],rfl⟩
theorem zep (hg:GS gl) {n k m p b:Nat} (hk:k<2 ^ 40) (hm:k / 8<m) {bs:List Blk} {es:List (Nat×Nat)} (hb:nth bs b=some (.cells (bys m p) 5)) :
  zk Tryz.prog gl (n+1) 109 [.sr b 0 m m,.int .i64 (k:Nat)] ⟨bs,es⟩=some (.ret (.tup []),⟨bs.set b (.cells (bys m (p ||| 2 ^ k)) 5),es⟩):=by
 suffices hmain:(go ⟨Tryz.prog,gl,zk Tryz.prog gl n,uqS⟩ n (Fx Tryz.prog Tryz.f109.results.toList fun w H1=>w=.tup []/\H1=⟨bs.set b (.cells (bys m (p ||| 2 ^ k)) 5),[]⟩) [.c (Tryz.f109.body.getD .skip)] .normal ⟨[.sr b 0 m m,.int .i64 (k:Nat)]++List.replicate 12 (.tup []),⟨bs,[]⟩,[],[]⟩) by
  obtain ⟨w,H1,h0,rfl,rfl⟩:=z0 (gl:=gl) (f:=109) (bs:=bs) (es:=es) (args:=[.sr b 0 m m,.int .i64 (k:Nat)]) (n:=n) (hg.hk _ _ (by decide)) (fun H=>hg.hk2 _ _ _ _ (by decide)) Tryz.func109 rfl (by rw [hg.uq];exact hmain)
  rw [h0,show (V.tup []).top=0 from rfl,zdp]
 have hgb:(⟨bs,[]⟩:Hp).get b=some (.cells (bys m p) 5):=hb;have hld:zn Tryz.prog ⟨bs,[]⟩ gl.g 5 (.ptr b (k / 8))=some (.int .u8 (by8 p (k / 8):Nat)):=zu ag5' hgb (by rw [zd];exact wm hm)
 simp only [Tryz.f109,zAs];refine x7 (tk:=[]) (by kernel_rfl) (by kernel_rfl) ?_
 simp only [List.replicate];simp only [BA,zh,zi,zAQ,zAN,zcm,zeo hm,zir (show k<2 ^ 60 by omega),znz,znA (show k % 8<8 by omega),hld,ag5',zkE wd (zcx (show k % 8<8 by omega))]
 rw [zT sz5' hgb rfl rfl (by simp [v5];omega) (zrb hm)]
 simp only [opQ_skip,putA,V.laid,Vm.storeCells,zx,Fx]
 rw [v4 (by simp [V.top])]
 refine ⟨trivial,[],rfl,rfl,?_⟩;rw [zpa,zpc];rfl
theorem zgU {p q i j:Nat} (h:i<=j):by8 (p ||| q % 2 ^ (8 * i)) j=by8 p j :=
 (zek wd fun k hk=>by
  rw [jS hk,zBZ,Nat.testBit_mod_two_pow];have:¬ (8 * j+k<8 * i):=by omega
  simp [this]).symm
theorem zeq {p q i j:Nat} (h:j<i):by8 (p ||| q % 2 ^ (8 * i)) j=by8 (p ||| q) j :=
 (zek wd fun k hk=>by
  rw [jS hk,zBZ,zBZ,Nat.testBit_mod_two_pow];have:8 * j+k<8 * i:=by omega
  simp [this]).symm
theorem zpl {m p q i:Nat} (_h:i<m):(bys m (p ||| q % 2 ^ (8 * i))).set i (.int .u8 ((by8 p i ||| by8 q i:Nat):Int))=bys m (p ||| q % 2 ^ (8 * (i+1))):=by
 refine zgT (by rw [zAF,v5]) fun j hj=>?_
 rw [List.getElem?_set']
 by_cases e:i=j
 ·subst e;simp [wm hj,zqA,zeq (zBu i)]
 ·simp only [e,if_false,wm hj];rcases zAZ j i with h1|h1
  ·rw [zeq h1,zeq (by omega)]
  ·rw [zgU h1,zgU (by omega)]
theorem zgV {H:Hp} {b o l c:Nat}:qH Tryz.prog H 205 (.sr b o l c)=some (l:Int):=by simp only [qH,u205]
theorem zlK (hg:GS gl) {n m p q b c:Nat} (hm:m<2 ^ 40) (hq:q<2 ^ (8 * m)) (hne:c≠b) {bs:List Blk} {es:List (Nat×Nat)} (hb:nth bs b=some (.cells (bys m p) 5)) (hc:nth bs c=some (.cells (bys m q) 5)) (hn:m<n) :
  zk Tryz.prog gl (n+1) 151 [.sr b 0 m m,.sr c 0 m m] ⟨bs,es⟩=some (.ret (.tup []),⟨bs.set b (.cells (bys m (p ||| q)) 5),es⟩):=by
 suffices hmain:(go ⟨Tryz.prog,gl,zk Tryz.prog gl n,uqS⟩ n (Fx Tryz.prog Tryz.f151.results.toList fun w H1=>w=.tup []/\H1=⟨bs.set b (.cells (bys m (p ||| q)) 5),[]⟩) [.c (Tryz.f151.body.getD .skip)] .normal ⟨[.sr b 0 m m,.sr c 0 m m]++List.replicate 19 (.tup []),⟨bs,[]⟩,[],[]⟩) by
  obtain ⟨w,H1,h0,rfl,rfl⟩:=z0 (gl:=gl) (f:=151) (bs:=bs) (es:=es) (args:=[.sr b 0 m m,.sr c 0 m m]) (n:=n) (hg.hk _ _ (by decide)) (fun H=>hg.hk2 _ _ _ _ (by decide)) Tryz.func151 rfl (by rw [hg.uq];exact hmain)
  rw [h0,show (V.tup []).top=0 from rfl,zdp]
 simp only [Tryz.f151,zAs,zA];refine ze (tk:=[]) (by kernel_rfl) ?_
 simp only [List.replicate];simp only [BA,zh,zi,zAQ,zAN,zcm,zgV]
 let Hi:Nat->Hp:=fun i=>⟨bs.set b (.cells (bys m (p ||| q % 2 ^ (8 * i))) 5),[]⟩
 refine jU (fun k s=>∃ i env,k+i=m/\s=⟨env,Hi i,[],[]⟩/\env.length=21/\nth env 0=some (.sr b 0 m m)/\nth env 1=some (.sr c 0 m m)/\nth env 6=some (.int .i64 (m:Nat))/\nth env 7=some (.int .i64 (i:Nat))) m (by omega) ?_ ?_
 ·have hs0:Hi 0=⟨bs,[]⟩:=by
   simp only [Hi,Nat.mul_zero,Nat.pow_zero,Nat.mod_one,Nat.or_zero];rw [q8 hb]
  refine ⟨0,_,rfl,by rw [hs0],?_,?_,?_,?_,?_⟩<;>rfl
 rintro k s ⟨i,env,hmi,rfl,hlen,h0,h1,h6,h7⟩;simp only [zA];refine ze (tk:=[]) (by kernel_rfl) ?_
 simp only [BA,za,Nat.reduceLT,h6,h7,hlen,je]
 by_cases hi:i<m
 ·refine .inl ⟨by simp;omega,?_⟩
  refine ze (tk:=[]) (by kernel_rfl) ?_
  simp only [BA,Nat.reduceEqDiff,za,zAF,Nat.reduceLT,if_false,h7,hlen];refine x7 (tk:=[]) (by kernel_rfl) (by kernel_rfl) ?_
  have hgb:(Hi i).get b=some (.cells (bys m (p ||| q % 2 ^ (8 * i))) 5):=by
   have hlt:b<bs.length:=by rw [zd] at hb;exact (zAB.1 hb).1
   show nth (bs.set b _) b=_;rw [zd,zAl,if_pos rfl,if_pos hlt]
  have hgc:(Hi i).get c=some (.cells (bys m q) 5):=by
   show nth (bs.set b _) c=_;rw [zd,zAl,if_neg (Ne.symm hne),<- zd,hc]
  have hld:zn Tryz.prog (Hi i) gl.g 5 (.ptr b i)=some (.int .u8 (by8 p i:Nat)):=zu ag5' hgb (by rw [zd,wm hi,zgU (zAO _)])
  have hld':zn Tryz.prog (Hi i) gl.g 5 (.ptr c i)=some (.int .u8 (by8 q i:Nat)):=zu ag5' hgc (by rw [zd,wm hi])
  simp only [BA,Nat.reduceEqDiff,za,zAF,Nat.reduceLT,if_false,h0,h1,hlen,zcm,zeo hi,ag5',hld,hld',zkE wd wd];rw [zT sz5' hgb rfl rfl (by simp [v5];omega) (zrb hi)]
  simp only [opQ_skip,putA,V.laid,Vm.storeCells]
  rw [v4 (by simp [V.top]),zpl hi]
  have hH:(Hi i).set b (.cells (bys m (p ||| q % 2 ^ (8 * (i+1)))) 5)=Hi (i+1):=by simp only [Hi,Hp.set,List.set_set]
  rw [hH];refine ze (tk:=[]) (by kernel_rfl) ?_
  simp only [BA,Nat.reduceEqDiff,za,zAF,Nat.reduceLT,if_false,h7,hlen,q9 (show i<2 ^ 60 by omega),zx,thn_normal]
  refine ⟨m - 1 - i,by omega,i+1,_,by omega,rfl,?_,?_,?_,?_,?_⟩<;>simp [za,hlen,h0,h1,h6]
 ·obtain rfl:i=m:=by omega
  refine .inr ⟨by simp,?_⟩
  simp only [ju,qh,zZ,zx,thn_exit,zAu,if_true,Fx]
  refine ⟨trivial,[],rfl,rfl,?_⟩;simp only [Hi,zBV hq]
end Go.Proofs.YthohlnmcjkjeiaaGreatDoor
namespace Go.Vm
set_option maxRecDepth 100000
open Go
def zjp (cx:Cx) (H:Hp) (lk:List (Nat×Nat)) (df:List (V×List V)) (env:List V):Option V->Option (List V)->Option (OR×St)
 | some fv,some l=>callQ lk df env (cx.callV (clr fv) l H)
 | _,_=>none
theorem zab {cx:Cx} {H:Hp} {lk:List (Nat×Nat)} {df:List (V×List V)} {env:List V} {fv:V} {l:List V}:zjp cx H lk df env (some fv) (some l)=callQ lk df env (cx.callV (clr fv) l H):=rfl
theorem zer {cx:Cx} {takes:List Tmp} {dst:Option Tmp} {type:TypeId} {pos:String} {after:Array Edge} {guard:Option (Nat×Bool)} {env:List V} {H:Hp} {lk:List (Nat×Nat)} {df:List (V×List V)} {t:Tmp} {args:Array Operand} {ts:Array TypeId} :
  cx.op takes ⟨dst,.call ⟨.value (.tmp t),args,ts⟩,type,pos,after,guard⟩ env H lk df=zjp cx H lk df env (nth env t) (peeks env args.toList):=by
 simp only [Cx.op,peek];cases nth env t with
 | none=>rfl
 | some fv=>cases peeks env args.toList with
  | none=>rfl
  | some l=>simp only [zjp,callQ];cases cx.callV (clr fv) l H with
   | none=>rfl
   | some q=>obtain ⟨a,b⟩:=q;rfl
end Go.Vm
namespace Go.Proofs.YthohlnmcjkjeiaaGreatDoor
open Go Go.Vm
variable {gl:Gl}
theorem u9':Tryz.prog.underlying 9=some .string:=by kernel_rfl
theorem u5':Tryz.prog.underlying 5=some (.int .u8):=by kernel_rfl
theorem u3':Tryz.prog.underlying 3=some (.int .i64):=by kernel_rfl
theorem zpm (hg:GS gl) {n v:Nat} (hv:v<256) (h0:v≠0) {H:Hp}:zk Tryz.prog gl (n+1) 188 [.int .u8 (v:Nat)] H=some (.ret (.int .i64 (x9 v:Nat)),H):=by
 obtain ⟨bs,es⟩:=H;have hfin:zL bs.length es 0 ⟨bs,[]⟩=⟨bs,es⟩:=by
  have:=qR (bs:=bs) (ls:=[]) (es:=es) (t:=0) (zAW _)
  rwa [zBB] at this
 suffices hmain:(go ⟨Tryz.prog,gl,zk Tryz.prog gl n,uqS⟩ n (Fx Tryz.prog Tryz.f188.results.toList fun w H1=>w=.int .i64 (x9 v:Nat)/\H1=⟨bs,[]⟩) [.c (Tryz.f188.body.getD .skip)] .normal ⟨[.int .u8 (v:Nat)]++List.replicate 5 (.tup []),⟨bs,[]⟩,[],[]⟩) by
  obtain ⟨w,H1,h0,rfl,rfl⟩:=z0 (gl:=gl) (f:=188) (bs:=bs) (es:=es) (args:=[.int .u8 (v:Nat)]) (n:=n) (hg.hk _ _ (by decide)) (fun H=>hg.hk2 _ _ _ _ (by decide)) Tryz.func188 rfl (by rw [hg.uq];exact hmain)
  rw [h0];exact congrArg (fun x=>some (Out.ret _,x)) hfin
 simp only [Tryz.f188,zAs,zA];refine ze (tk:=[]) (by kernel_rfl) ?_
 simp only [BA,zAN];refine ze (tk:=[]) (by kernel_rfl) ?_
 simp only [List.replicate];simp only [zku,zdQ,peek,zh,zi,yu,opQ_val,putA,zAQ,zAN,jt,zbr]
 generalize hs:ofVal _=sv;obtain ⟨L,hL,hLz⟩:∃ L,sv=some (.str L)/\∀ v,v<256->v≠0->nth L v=some (x9 v):=by
  subst hs;refine ⟨_,rfl,?_⟩;decide +kernel
 have hlo:x9 v<2 ^ 60:=by
  have h8:∀ v,v<256->x9 v<2 ^ 60:=by decide +kernel
  exact h8 v hv
 have hix:xq Tryz.prog 9 (.str L) ((v:Nat):Int)=some (.int .u8 (x9 v:Nat)):=by
  simp only [xq,u9',zAd,hLz v hv h0];simp
 have hcv:jx Tryz.prog 5 3 (.int .u8 (x9 v:Nat))=some (.int .i64 (x9 v:Nat)):=by
  simp only [jx,u5',u3',Option.bind_eq_bind,zAT];rw [kN (by omega) (by omega)]
 subst hL;simp only [idxV,hix,yu,opQ_val,putA];simp only [BA,zh,zi,zAQ,zAN,vQ (a:=5) (b:=3) (hm:=rfl),show uqS (kb 5)=false from rfl,hcv,go_ret]
 refine ⟨rfl,[.int .i64 (x9 v:Nat)],?_,rfl,rfl⟩;simp only [zt,zh,zi]
def zit (w m:Nat):Nat->List Nat
 | 0=>[]
 | k+1=>(xl (by8 w (m - (k+1)))).map (8 * (m - (k+1)) + ·)++zit w m k
theorem zkH {w m:Nat}:∀ k,k<=m->zfA w m=zfA w (m - k)++zit w m k
 | 0,_=>by simp [zit]
 | k+1,h=>by
  rw [zkH k (by omega),zit,show m - k=(m - (k+1))+1 by omega,zfA,zAc]
theorem znH {w m:Nat}:zit w m m=j8 m w:=by
 have:=zkH (w:=w) m (zAO _);rw [zBk,zkD] at this;exact this.symm
theorem ziu {cx:Cx} {F:FuncId} {caps args:List V} {H:Hp} (hc:caps.map clr=caps):cx.callV (.fn (.func F) [] caps) args H=cx.callF F (args.map clr++caps) H:=by
 simp [Cx.callV,fL_eq,hc]
theorem zfC {P:Program} {t:TypeId} {x y:Operand} {b:Nat} (h:8 * b<2 ^ 60):zQ P .mul t x y (some (.int .i64 8)) (some (.int .i64 b))=some (.int .i64 ((8 * b:Nat):Int)):=znt (a:=8) h
theorem ziv (hg:GS gl) {n m w b:Nat} {F:FuncId} {caps:List V} (hcl:caps.map clr=caps) (hm:m<2 ^ 40) (hmn:m<n) (hn:300<=n) (I:List Nat->Hp->Prop) (hget:∀ l H,I l H->H.get b=some (.cells (bys m w) 5))
  (hstep:∀ k l H,k<8 * m->I (k::l) H->∃ H',Cx.callF ⟨Tryz.prog,gl.g,zk Tryz.prog gl n,uqS⟩ F ([.int .i64 (k:Nat)]++caps) H=some (.val (.tup []),H')/\I l H') {bs:List Blk} {es:List (Nat×Nat)} (h0:I (j8 m w) ⟨bs,[]⟩) :
  ∃ H',zk Tryz.prog gl (n+1) 148 [.sr b 0 m m,.fn (.func F) [] caps] ⟨bs,es⟩=some (.ret (.tup []),zL bs.length es 0 H')/\I [] H':=by
 suffices hmain:(go ⟨Tryz.prog,gl,zk Tryz.prog gl n,uqS⟩ n (Fx Tryz.prog Tryz.f148.results.toList fun w H1=>w=.tup []/\I [] H1) [.c (Tryz.f148.body.getD .skip)] .normal ⟨[.sr b 0 m m,.fn (.func F) [] caps]++List.replicate 25 (.tup []),⟨bs,[]⟩,[],[]⟩) by
  obtain ⟨w,H1,h0,rfl,h1⟩:=z0 (gl:=gl) (f:=148) (bs:=bs) (es:=es) (args:=[.sr b 0 m m,.fn (.func F) [] caps]) (n:=n) (hg.hk _ _ (by decide)) (fun H=>hg.hk2 _ _ _ _ (by decide)) Tryz.func148 rfl (by rw [hg.uq];exact hmain)
  exact ⟨H1,h0,h1⟩
 simp only [Tryz.f148,zAs,zA];refine ze (tk:=[]) (by kernel_rfl) ?_
 simp only [List.replicate];simp only [BA,zh,zi,zAQ,zAN,zcm,zgV];refine jU (fun k s=>∃ i env H,k+i=m/\s=⟨env,H,[],[]⟩/\I (zit w m k) H/\env.length=27/\nth env 1=some (.fn (.func F) [] caps)/\nth env 6=some (.sr b 0 m m)/\nth env 7=some (.int .i64 (m:Nat))/\nth env 8=some (.int .i64 (i:Nat))) m (by omega) ?_ ?_
 ·refine ⟨0,_,_,rfl,rfl,by rw [znH];exact h0,?_,?_,?_,?_,?_⟩<;>rfl
 rintro k s ⟨i,env,H,hmi,rfl,hI,hlen,h1,h6,h7,h8⟩;simp only [zA];refine ze (tk:=[]) (by kernel_rfl) ?_
 simp only [BA,za,Nat.reduceLT,h7,h8,hlen,je]
 by_cases hi:i<m
 ·refine .inl ⟨by simp;omega,?_⟩
  obtain ⟨k,rfl⟩:∃ k',k=k'+1:=⟨k - 1,by omega⟩
  have hik:m - (k+1)=i:=by omega
  have hI':I ((xl (by8 w i)).map (8 * i + ·)++zit w m k) H:=by rw [<- hik];exact hI
  have hld:zn Tryz.prog H gl.g 5 (.ptr b i)=some (.int .u8 (by8 w i:Nat)):=zu ag5' (hget _ _ hI) (by rw [zd,wm hi])
  refine ze (tk:=[]) (by kernel_rfl) ?_
  simp only [BA,Nat.reduceEqDiff,za,zAF,Nat.reduceLT,if_false,h6,h8,hlen,zcm,zeo hi,hld]
  refine jU (fun u s=>∃ env H,s=⟨env,H,[],[]⟩/\u<256/\I ((xl u).map (8 * i + ·)++zit w m k) H/\env.length=27/\nth env 1=some (.fn (.func F) [] caps)/\nth env 4=some (.int .i64 (i:Nat))/\nth env 5=some (.int .u8 (u:Nat))/\nth env 6=some (.sr b 0 m m)/\nth env 7=some (.int .i64 (m:Nat))/\nth env 8=some (.int .i64 (i:Nat))) (by8 w i) (zAh wd (by omega)) ?_ ?_
  ·refine ⟨_,_,rfl,wd,hI',?_,?_,?_,?_,?_,?_,?_⟩<;>simp [za,hlen,h1,h6,h7,h8]
  rintro u s ⟨env2,H2,rfl,hu,hI2,hlen2,g1,g4,g5,g6,g7,g8⟩;simp only [zA];refine ze (tk:=[]) (by kernel_rfl) ?_
  simp only [BA,Nat.reduceEqDiff,za,zAF,Nat.reduceLT,if_false,g5,hlen2,zoF]
  by_cases hu0:u=0
  ·subst hu0;refine .inr ⟨by simp,?_⟩
   simp only [ju,qh,zZ,zx,thn_exit,kG,zAu,if_true]
   refine ze (tk:=[]) (by kernel_rfl) ?_
   simp only [BA,Nat.reduceEqDiff,za,zAF,Nat.reduceLT,if_false,g8,hlen2,q9 (show i<2 ^ 60 by omega),zx,thn_normal]
   refine ⟨k,by omega,i+1,_,_,by omega,rfl,?_,?_,?_,?_,?_,?_⟩
   ·simpa [bits8_zero] using hI2
   all_goals simp [za,hlen2,g1,g6,g7]
  ·refine .inl ⟨by simp;omega,?_⟩
   refine ze (tk:=[]) (by kernel_rfl) ?_
   obtain ⟨e1,e2⟩:=bits8_step u hu hu0;rw [e1,zAz,zA6] at hI2;have hl8:x9 u<8:=by
    have:x9 u∈xl u:=by rw [e1];exact zAL ..
    simpa [xl] using (List.mem_filter.1 this).1
   obtain ⟨H3,hc,hI3⟩:=hstep (8 * i+x9 u) _ _ (by omega) hI2
   obtain ⟨n',rfl⟩:∃ n',n=n'+1:=⟨n - 1,by omega⟩
   have htz:=zpm hg (n:=n') hu hu0 (H:=H2);have htz':Cx.callF ⟨Tryz.prog,gl.g,zk Tryz.prog gl (n'+1),uqS⟩ 188 [.int .u8 (u:Nat)] H2=some (.val (.int .i64 (x9 u:Nat)),H2):=zw Tryz.func188 rfl htz;simp only [zA6,zA7] at hc;have hw:IntKind.i64.wrap (((8 * i:Nat):Int)+((x9 u:Nat):Int))=((8 * i+x9 u:Nat):Int):=by
    rw [kN (by omega) (by omega)];omega
   simp only [BA,Nat.reduceEqDiff,za,zAF,Nat.reduceLT,if_false,g1,g4,g5,hlen2,zer,zab,show clr (V.fn (.func F) [] caps)=.fn (.func F) [] caps from rfl,ziu hcl,htz',zfC (show 8 * i<2 ^ 60 by omega),zda,hw,hc]
   refine ze (tk:=[]) (by kernel_rfl) ?_
   simp only [BA,Nat.reduceEqDiff,za,zAF,Nat.reduceLT,if_false,g5,hlen2,zny hu0 hu,znx hu (show u - 1<256 by omega),zx,thn_normal]
   refine ⟨u &&& (u - 1),e2,_,_,rfl,by omega,hI3,?_,?_,?_,?_,?_,?_,?_⟩<;>simp [za,hlen2,g1,g4,g6,g7,g8]
 ·obtain rfl:i=m:=by omega
  obtain rfl:k=0:=by omega
  refine .inr ⟨by simp,?_⟩
  simp only [ju,qh,zZ,zx,thn_exit,zAu,if_true,Fx]
  exact ⟨trivial,[],rfl,rfl,hI⟩
end Go.Proofs.YthohlnmcjkjeiaaGreatDoor
namespace Go.Proofs.YthohlnmcjkjeiaaGreatDoor.A2
set_option maxRecDepth 100000
open Go Go.Vm Go.Vm.Sx
def hs53:List (Nat×JS):=[]
def tree53:Tree :=
 (.kin 0 (.sl 1)
 (.need (.room (.var 0) 8)
 (.letv (.app (.k .snil) 1 3 (.var 0))
 (.letv (.sc (.one (.v 1 false)))
 (.out [(.v 2 false)])))))
def hs68:List (Nat×JS):=[(58,⟨[(3,(.one (.sl 1))),(4,(.one (.int .i64))),(5,.drop),(6,.drop),(7,.drop),(8,.drop),(9,.drop),(10,.drop),(11,.drop),(12,.drop),(13,.drop),(14,.drop),(15,.drop),(16,.drop),(17,.drop),(18,.drop)],[]⟩)]
def lp68_1:Tree :=
 (.ite (.cmp .lss (.var 2) (.len (.var 0)))
     (.elem (.var 0) (.var 2)
     (.kin 3 (.sl 1)
     (.call 53 [(.d (.one (.v 3 true)))] [] []
     (.kin 4 (.sl 1)
     (.letv (.sc (.one (.v 4 true)))
     (.need (.own 1 27)
     (.need (.room (.snoc (.var 1) 5) 24)
     (.out [(.sl 1 (.snoc (.var 1) 5) (.yes 27)),(.i .i64 (.bin .add .i64 (.var 2) (.lit (1))))]))))))))
     (.esc
      (.letv (.sc (.one (.v 1 false)))
      (.out [(.v 3 false)]))))
def tree68:Tree :=
 (.kin 0 (.sl 1)
 (.loop [(.k .snil),(.i .i64 (.lit (0)))] lp68_1))
theorem tree53_ok:yQ Tryz.prog hs53 53=some tree53:=by kernel_rfl
theorem tree68_ok:yQ Tryz.prog hs68 68=some tree68:=by kernel_rfl
end Go.Proofs.YthohlnmcjkjeiaaGreatDoor.A2
namespace Go.Proofs.YthohlnmcjkjeiaaGreatDoor.A2
set_option maxRecDepth 10000
open Go Go.Vm Go.Vm.Sx
abbrev Ints:=Bool×List Int
abbrev Rows':=Bool×List Ints
abbrev Q4:=Int×Int×Int×Int
structure F where
 s:Bool×List Q4
 r:Ints
 f:Rows'
 n:Rows'
def ie (n:Int):V:=.int .i64 n
def iv (p:Ints):V:=lv 1 p.1 (p.2.map ie)
def rv (p:Rows'):V:=lv 1 p.1 (p.2.map iv)
def qe (q:Q4):V:=.agg [.int .u64 q.1,.int .u64 q.2.1,.int .u64 q.2.2.1,.int .u64 q.2.2.2]
def qv (p:Bool×List Q4):V:=lv 4 p.1 (p.2.map qe)
def fc (f:F):List V:=[qv f.s,iv f.r,rv f.f,rv f.n]
def fv (f:F):V:=.agg (fc f)
theorem tops_map {α:Type} {h:α->V} (hh:∀ a,(h a).top=0):∀ (l:List α),tops (l.map h)=0
 | []=>rfl
 | a::l=>by simp [tops,hh a,tops_map hh l]
theorem top_iv (p:Ints):(iv p).top=0:=by unfold iv;rw [zec];exact tops_map (fun _=>rfl) _
theorem zjq (p:Rows'):(rv p).top=0:=by unfold rv;rw [zec];exact tops_map top_iv _
def W64 (z:Int):Prop:=-9223372036854775808<=z/\z<=9223372036854775807
def WI (p:Ints):Prop:=p.2.length * 8<=reachBytes/\∀ z∈p.2,W64 z
def WR (p:Rows'):Prop:=p.2.length * 24<=reachBytes/\∀ q∈p.2,WI q
structure WF (f:F):Prop where
 s:f.s.2.length * 32<=reachBytes
 r:WI f.r
 fi:WR f.f
 ne:WR f.n
theorem c3:Tryz.prog.cellsOf 3=1:=by kernel_rfl
theorem c24:Tryz.prog.cellsOf 27=1:=by kernel_rfl
theorem c25:Tryz.prog.cellsOf 28=1:=by kernel_rfl
theorem b3:Tryz.prog.bytesOf 3=8:=by kernel_rfl
theorem b24:Tryz.prog.bytesOf 27=24:=by kernel_rfl
theorem mk3 (cs:List V):vt Tryz.prog 3 cs=cs.headD .junk:=by
 have:yL Tryz.prog 3=false:=by kernel_rfl
 simp [vt,this]
theorem zrt (cs:List V):vt Tryz.prog 27 cs=cs.headD .junk:=by
 have:yL Tryz.prog 27=false:=by kernel_rfl
 simp [vt,this]
theorem zav {α:Type} {h:α->V} {Q:α->Prop}:∀ (ys:List V),(∀ y∈ys,∃ a,h a=y/\Q a)->∃ l:List α,l.map h=ys/\∀ a∈l,Q a
 | [],_=>⟨[],rfl,fun _ h=>by simp at h⟩
 | y::ys,hy=>by
  obtain ⟨a,h1,h2⟩:=hy y (zAL ..);obtain ⟨l,h3,h4⟩:=zav ys fun z hz=>hy z (zAE _ hz);refine ⟨a::l,by simp [h1,h3],fun b hb=>?_⟩
  rcases zAK.1 hb with rfl|hb
  ·exact h2
  ·exact h4 b hb
theorem zqG {n:Nat} {xs:List V} (h:qD Tryz.prog n 3 xs):∃ z,xs=[ie z]/\W64 z:=by
 cases n with
 | zero=>exact h.elim
 | succ n =>
  simp only [qD,Tryz.underlying3] at h;obtain ⟨z,h,hw⟩:=h;refine ⟨z,h,?_⟩;have hw':IntKind.i64.min<=z/\z<=IntKind.i64.max:=by simpa [Lit.wf] using hw
  have e1:IntKind.i64.min = -9223372036854775808:=by decide
  have e2:IntKind.i64.max=9223372036854775807:=by decide
  rw [e1,e2] at hw';exact hw'
theorem zkI {n:Nat} {xs:List V} (h:qD Tryz.prog n 27 xs):∃ p,xs=[iv p]/\WI p:=by
 cases n with
 | zero=>exact h.elim
 | succ n =>
  simp only [qD,Tryz.underlying27,c3,b3] at h;rcases h with h|⟨ys,h,⟨_,hb⟩,hy⟩
  ·exact ⟨(true,[]),h,by simp [WI]⟩
  ·obtain ⟨l,h1,h2⟩:=zav (h:=ie) (Q:=W64) ys fun y hyy=>by
    obtain ⟨cs,g1,g2⟩:=hy y hyy;obtain ⟨z,g3,g4⟩:=zqG g1;rw [mk3,g3] at g2;exact ⟨z,g2.symm,g4⟩
   subst h1;exact ⟨(false,l),h,by simpa using hb,h2⟩
theorem zpn {n:Nat} {xs:List V} (h:qD Tryz.prog n 28 xs):∃ p,xs=[rv p]/\WR p:=by
 cases n with
 | zero=>exact h.elim
 | succ n =>
  simp only [qD,Tryz.underlying28,c24,b24] at h;rcases h with h|⟨ys,h,⟨_,hb⟩,hy⟩
  ·exact ⟨(true,[]),h,by simp [WR]⟩
  ·obtain ⟨l,h1,h2⟩:=zav (h:=iv) (Q:=WI) ys fun y hyy=>by
    obtain ⟨cs,g1,g2⟩:=hy y hyy;obtain ⟨z,g3,g4⟩:=zkI g1;rw [zrt,g3] at g2;exact ⟨z,g2.symm,g4⟩
   subst h1;exact ⟨(false,l),h,by simpa using hb,h2⟩
end Go.Proofs.YthohlnmcjkjeiaaGreatDoor.A2
namespace Go.Proofs.YthohlnmcjkjeiaaGreatDoor.A2
set_option linter.unusedSectionVars false
set_option maxRecDepth 10000
open Go Go.Vm Go.Vm.Sx
theorem j9 (p:Ints):kOk (.sl 1) (iv p)=true:=znj ..
theorem zaC (p:Rows'):kOk (.sl 1) (rv p)=true:=znj ..
theorem jn (p:Ints):vL (iv p)=p.2.map ie:=zic ..
theorem qB (p:Rows'):vL (rv p)=p.2.map iv:=zic ..
theorem clr_iv (p:Ints):clr (iv p)=iv p:=zcu ..
theorem clr_rv (p:Rows'):clr (rv p)=rv p:=zcu ..
theorem clr_qv (p:Bool×List Q4):clr (qv p)=qv p:=zcu ..
theorem zaD (n:Int):kOk (.int .i64) (ie n)=true:=by simp [ie,kOk]
theorem wL (n:Int):vI (ie n)=n:=by simp [ie,vI]
theorem znI (n:Int):clr (ie n)=ie n:=rfl
theorem znJ (sz:Nat) (e:TypeId) (l:List V):zgr .snil sz e l=acc sz e l:=by cases l<;>rfl
theorem nth_map {α:Type} {h:α->V} {l:List α} {i:Nat} {a:α} (ha:l[i]?=some a):nth (l.map h) i=some (h a):=by rw [zd,zAY,ha];rfl
theorem reach_le:reachBytes<=140737488355328:=by decide
variable {gl:Gl} [NoU gl]
theorem zrc {x:V}:wB Tryz.prog [27] [.d x] 0:=by
 refine ⟨fun e=>?_,trivial⟩;rw [Tryz.underlying27];simp
theorem zrd {x:V}:wB Tryz.prog [28] [.d x] 0:=by
 refine ⟨fun e=>?_,trivial⟩;rw [Tryz.underlying28];simp
theorem zpo {x y:V}:wB Tryz.prog [27,27] [.d x,.d y] 0:=by
 refine ⟨fun e=>?_,fun e=>?_,trivial⟩<;>rw [Tryz.underlying27]<;>simp
theorem zpp {x y:V}:wB Tryz.prog [28,28] [.d x,.d y] 0:=by
 refine ⟨fun e=>?_,fun e=>?_,trivial⟩<;>rw [Tryz.underlying28]<;>simp
theorem zqH {x:V}:wB Tryz.prog [3] [.d x] 0:=by
 refine ⟨fun e=>?_,trivial⟩;rw [Tryz.underlying3];simp
theorem lent53:jB Tryz.prog Tryz.f53.params.toList=some []:=by kernel_rfl
theorem lent68:jB Tryz.prog Tryz.f68.params.toList=some []:=by kernel_rfl
theorem lent63:jB Tryz.prog Tryz.f63.params.toList=some []:=by kernel_rfl
theorem lent64:jB Tryz.prog Tryz.f64.params.toList=some []:=by kernel_rfl
theorem zre (hgl:GL gl) (p:Ints) (hp:WI p):Ev Tryz.prog gl 53 [.d (iv p)] [] (acc 1 3 (p.2.map ie)) []:=by
 refine qL (xs:=[iv p]) hgl.top (hgl.no 53 rfl) tree53_ok Tryz.func53 lent53 zrc (by simp [tops,top_iv]) (N:=1) ?_
 have hr:=reach_le;have h1:qG p.2.length 8=true:=Sx.roomA_of (by have:=hp.1;omega) (by have:=hp.1;omega)
 simp only [tree53]
 simp only [wU,y7,wV,y9,zgJ,zgK,kF,wP,evB,evL,evCs,evC,evSC,evVE,j9,jn,h1,znJ,zAU]
end Go.Proofs.YthohlnmcjkjeiaaGreatDoor.A2
namespace Go.Proofs.YthohlnmcjkjeiaaGreatDoor
set_option maxRecDepth 100000
open Go Go.Vm
variable {gl:Gl} {P:Program} {t:TypeId} {x y:Operand}
def znK (q:A2.Q4):Nat->Int
 | 0=>q.1
 | 1=>q.2.1
 | 2=>q.2.2.1
 | _=>q.2.2.2
def QOk (q:A2.Q4):Prop:=∀ i,0<=znK q i/\znK q i<18446744073709551616
def zc4 (q:A2.Q4) (b:Nat):Bool:=(znK q (b / 64)).toNat.testBit (b % 64)
theorem ziw {b:Nat} (h:b<256):zQ P .quo t x y (some (.int .u8 b)) (some (.int .u8 64))=some (.int .u8 ((b / 64:Nat):Int)):=by
 have e:(b:Int).tdiv 64=((b / 64:Nat):Int):=by
  rw [Int.tdiv_eq_ediv_of_nonneg (by omega)];omega
 simp only [zQ,zM,ja,ql,if_true];rw [e,zbQ (by omega)]
 rfl
theorem zix {b:Nat} (h:b<256):zQ P .rem t x y (some (.int .u8 b)) (some (.int .u8 64))=some (.int .u8 ((b % 64:Nat):Int)):=by
 have e:(b:Int).tmod 64=((b % 64:Nat):Int):=by
  rw [Int.tmod_eq_emod_of_nonneg (by omega)];omega
 simp only [zQ,zM,ja,ql,if_true];rw [e];rfl
theorem zlL {a k:Nat} (_ha:a<2 ^ 64) (hk:k<64):zQ P .shr t x y (some (.int .u64 a)) (some (.int .u8 k))=some (.int .u64 ((a / 2 ^ k:Nat):Int)):=by
 have h2:min ((k:Int).toNat) IntKind.u64.bits=k:=by
  have:IntKind.u64.bits=64:=rfl;rw [this,zAd];omega
 have h3:(a:Int).fdiv (2 ^ k)=((a / 2 ^ k:Nat):Int):=by
  rw [Int.fdiv_eq_ediv_of_nonneg _ (Int.le_of_lt (Int.pow_pos (by decide)))]
  simp
 simp only [zQ,zM,ja,zb2,if_true,show ¬ ((k:Int)<0) by omega,if_false,h2,h3]
theorem znL {a k:Nat}:((a / 2 ^ k &&& 1:Nat):Int)=if a.testBit k then 1 else 0:=by
 have:a / 2 ^ k &&& 1=a / 2 ^ k % 2:=Nat.and_one_is_mod _;rw [this,Nat.testBit_eq_decide_div_mod_eq]
 by_cases h:a / 2 ^ k % 2=1
 ·simp [h]
 ·have:a / 2 ^ k % 2=0:=by omega
  simp [this]
theorem znM {a:Nat} (ha:a<2 ^ 64):zQ P .and t x y (some (.int .u64 a)) (some (.int .u64 1))=some (.int .u64 ((a &&& 1:Nat):Int)):=zlH (b:=1) ha (by decide)
theorem u50':Tryz.prog.underlying 50=some (.array 4 48):=by kernel_rfl
theorem sz48':zy Tryz.prog 48=some 1:=by kernel_rfl
theorem ag48':qC Tryz.prog 48=some false:=by kernel_rfl
theorem zkJ (hg:GS gl) {n b:Nat} {q:A2.Q4} (hq:QOk q) (hb:b<256) {H:Hp}:zk Tryz.prog gl (n+1) 110 [A2.qe q,.int .u8 (b:Nat)] H=some (.ret (.bool (zc4 q b)),H):=by
 obtain ⟨bs,es⟩:=H;have hfin:zL bs.length es 0 ⟨bs++[.cells (A2.qe q).laid 50],[]⟩=⟨bs,es⟩:=qR (zAW _)
 suffices hmain:(go ⟨Tryz.prog,gl,zk Tryz.prog gl n,uqS⟩ n (Fx Tryz.prog Tryz.f110.results.toList fun w H1=>w=.bool (zc4 q b)/\H1=⟨bs++[.cells (A2.qe q).laid 50],[]⟩) [.c (Tryz.f110.body.getD .skip)] .normal ⟨[A2.qe q,.int .u8 (b:Nat)]++List.replicate 12 (.tup []),⟨bs,[]⟩,[],[]⟩) by
  obtain ⟨w,H1,h0,rfl,rfl⟩:=z0 (gl:=gl) (f:=110) (bs:=bs) (es:=es) (args:=[A2.qe q,.int .u8 (b:Nat)]) (n:=n) (hg.hk _ _ (by decide)) (fun H=>hg.hk2 _ _ _ _ (by decide)) Tryz.func110 rfl (by rw [hg.uq];exact hmain)
  rw [h0];exact congrArg (fun x=>some (Out.ret _,x)) hfin
 obtain ⟨a,ha1,ha2⟩:∃ a:Nat,znK q (b / 64)=(a:Int)/\a<2 ^ 64:=⟨(znK q (b / 64)).toNat,by have:=hq (b / 64);omega,by have:=hq (b / 64);omega⟩
 have hhas:zc4 q b=a.testBit (b % 64):=by unfold zc4;rw [ha1];rfl
 have hq4:(A2.qe q).laid=[.int .u64 q.1,.int .u64 q.2.1,.int .u64 q.2.2.1,.int .u64 q.2.2.2]:=rfl;have hix:zr Tryz.prog 50 (.ptr bs.length 0) ((b / 64:Nat):Int)=some (.ptr bs.length (b / 64)):=by
  simp only [zr,u50',sz48'];rw [if_pos (by omega),zAd,zBz,zA0]
 have hget:(⟨bs++[.cells (A2.qe q).laid 50],[]⟩:Hp).get bs.length=some (.cells (A2.qe q).laid 50):=by
  show nth _ _=_;rw [zd,zAP (zAO _)];simp
 have hld:zn Tryz.prog ⟨bs++[.cells (A2.qe q).laid 50],[]⟩ gl.g 48 (.ptr bs.length (b / 64))=some (.int .u64 (a:Nat)):=zu ag48' hget (by
  rw [<- ha1,hq4];have:b / 64=0\/b / 64=1\/b / 64=2\/b / 64=3:=by omega
  rcases this with e|e|e|e<;>rw [e]<;>rfl)
 simp only [Tryz.f110,zAs,zA];refine ze (tk:=[]) (by kernel_rfl) ?_
 have hqk:okC (A2.qe q)=true:=rfl;have hqt:∀ env t,qE env t (some (A2.qe q))=some (A2.qe q,env):=fun _ _=>rfl;simp only [BA,zc,zh,zAQ,zAN,List.replicate,hqt,jG hqk];refine ze (tk:=[]) (by kernel_rfl) ?_
 simp only [BA,zh,zi,zAQ,zAN,ziw hb,zix hb,hix,hld,zlL ha2 (show b % 64<64 by omega),znM (show a / 2 ^ (b % 64)<2 ^ 64 from Nat.lt_of_le_of_lt (Nat.div_le_self _ _) ha2),zoE]
 simp only [go_ret,zx,Fx]
 refine ⟨trivial,[.bool (zc4 q b)],?_,rfl,trivial⟩;simp only [zt,zh,zi,hhas,znL];cases a.testBit (b % 64)<;>rfl
end Go.Proofs.YthohlnmcjkjeiaaGreatDoor
namespace Go.Proofs.YthohlnmcjkjeiaaGreatDoor
set_option maxRecDepth 100000
open Go Go.Vm
variable {gl:Gl}
theorem u26':Tryz.prog.underlying 26=some (.slice 50):=by kernel_rfl
theorem u201':Tryz.prog.underlying 201=some (.slice 205):=by kernel_rfl
theorem sz50':zy Tryz.prog 50=some 4:=by kernel_rfl
theorem sz205':zy Tryz.prog 205=some 1:=by kernel_rfl
theorem ag141':qC Tryz.prog 141=some false:=by kernel_rfl
theorem ag26':qC Tryz.prog 26=some false:=by kernel_rfl
theorem ag205':qC Tryz.prog 205=some false:=by kernel_rfl
theorem ag201':qC Tryz.prog 201=some false:=by kernel_rfl
theorem ag50':qC Tryz.prog 50=some true:=by kernel_rfl
theorem fo204_0:ji Tryz.prog 204 0=some 0:=by kernel_rfl
theorem fo204_1:ji Tryz.prog 204 1=some 4:=by kernel_rfl
theorem fo204_2:ji Tryz.prog 204 2=some 5:=by kernel_rfl
theorem fo204_3:ji Tryz.prog 204 3=some 261:=by kernel_rfl
theorem fo30_0:ji Tryz.prog 30 0=some 0:=by kernel_rfl
theorem fo30_2:ji Tryz.prog 30 2=some 2:=by kernel_rfl
theorem xe {H:Hp} {p:Bool×List A2.Q4}:qH Tryz.prog H 26 (A2.qv p)=some ((p.2.length:Nat):Int):=by
 rcases Sx.lv_cases 4 p.1 (p.2.map A2.qe) with e|⟨e0,e⟩
 ·simp [A2.qv,e,qH]
 ·have:p.2=[]:=by simpa using e0
  rw [A2.qv,e,this];simp [qH]
theorem znN {p:Bool×List A2.Q4} {k:Nat} {q:A2.Q4} (h:p.2[k]?=some q):zr Tryz.prog 26 (A2.qv p) ((k:Nat):Int)=some (.vp (A2.qe q).cells):=by
 have hn:nth (p.2.map A2.qe) k=some (A2.qe q):=by rw [zd,zAY,h];rfl
 have e:A2.qv p=.sl 4 (p.2.map A2.qe) .no:=by
  rcases Sx.lv_cases 4 p.1 (p.2.map A2.qe) with e|⟨e0,e⟩
  ·exact e
  ·have:p.2=[]:=by simpa using e0
   rw [this] at h;simp at h
 rw [e];simp only [zr,u26',sz50',zAd,hn];simp
theorem zpU {H:Hp} {q:A2.Q4}:zn Tryz.prog H gl.g 50 (.vp (A2.qe q).cells)=some (A2.qe q):=by
 simp [zn,ag50',sz50',A2.qe,V.cells,qq]
def srV (m c:Nat):V:=.sr c 0 m m
theorem zqI {m k c w:Nat} {nx:List (Nat×Nat)} (h:nx[k]?=some (c,w)):zr Tryz.prog 201 (clr (zp 1 205 (nx.map fun p=>srV m p.1))) ((k:Nat):Int)=some (.vp [srV m c]):=by
 have hn:nth (nx.map fun p=>srV m p.1) k=some (srV m c):=by rw [zd,zAY,h];rfl
 cases hx:nx.map fun p=>srV m p.1 with
 | nil=>rw [hx] at hn;simp [zd] at hn
 | cons a l =>
  rw [hx] at hn;simp only [zp,clr,zr,u201',sz205',zAd,hn];simp [srV,V.cells]
theorem zpV {H:Hp} {m c:Nat}:zn Tryz.prog H gl.g 205 (.vp [srV m c])=some (srV m c):=by
 simp [zn,ag205',qq,srV,zd]
structure LB (B:List Blk) (bm a1 a2 a3 c m q b:Nat) (f:A2.F) (nx:List (Nat×Nat)):Prop where
 A:∃ t,nth B a1=some (.cells [.ptr bm 0] t)
 Y:∃ t,nth B a2=some (.cells [.int .u8 (b:Nat)] t)
 D:∃ t,nth B a3=some (.cells [srV m c] t)
 Q:nth B c=some (.cells (bys m q) 5)
 M:∃ mc t,nth B bm=some (.cells mc t)/\nth mc 0=some (A2.qv f.s)/\nth mc 4=some (zp 1 205 (nx.map fun p=>srV m p.1))
 X:∀ p∈nx,nth B p.1=some (.cells (bys m p.2) 5)/\p.2<2 ^ (8 * m)/\p.1≠c
def xf (f:A2.F) (nx:List (Nat×Nat)) (b k q:Nat):Nat :=
 match f.s.2[k]?,nx[k]? with
 | some s,some p=>if zc4 s b then q ||| p.2 else q
 | _,_=>q
theorem zjr (hg:GS gl) {n bm a1 a2 a3 c m q b k:Nat} {f:A2.F} {nx:List (Nat×Nat)} (hs:∀ q∈f.s.2,QOk q) (hb:b<256) (_hk:k<2 ^ 40) (hm:m<2 ^ 40) (hn:m<n) (hnx:nx.length=f.s.2.length) {B:List Blk} {es:List (Nat×Nat)} (h:LB B bm a1 a2 a3 c m q b f nx) :
  zk Tryz.prog gl (n+1+1) 150 [.int .i64 (k:Nat),.ptr a1 0,.ptr a2 0,.ptr a3 0] ⟨B,es⟩=some (.ret (.tup []),⟨B.set c (.cells (bys m (xf f nx b k q)) 5),es⟩):=by
 suffices hmain:(go ⟨Tryz.prog,gl,zk Tryz.prog gl (n+1),uqS⟩ (n+1) (Fx Tryz.prog Tryz.f150.results.toList fun w H1=>w=.tup []/\H1=⟨B.set c (.cells (bys m (xf f nx b k q)) 5),[]⟩) [.c (Tryz.f150.body.getD .skip)] .normal ⟨[.int .i64 (k:Nat),.ptr a1 0,.ptr a2 0,.ptr a3 0]++List.replicate 30 (.tup []),⟨B,[]⟩,[],[]⟩) by
  obtain ⟨w,H1,h0,rfl,rfl⟩:=z0 (gl:=gl) (f:=150) (bs:=B) (es:=es) (args:=[.int .i64 (k:Nat),.ptr a1 0,.ptr a2 0,.ptr a3 0]) (n:=n+1) (hg.hk _ _ (by decide)) (fun H=>hg.hk2 _ _ _ _ (by decide)) Tryz.func150 rfl (by rw [hg.uq];exact hmain)
  rw [h0,show (V.tup []).top=0 from rfl,zdp]
 obtain ⟨tA,hA⟩:=h.A;obtain ⟨tY,hY⟩:=h.Y;obtain ⟨tD,hD⟩:=h.D;obtain ⟨mc,tM,hM,hM0,hM4⟩:=h.M;have lA:zn Tryz.prog ⟨B,[]⟩ gl.g 141 (.ptr a1 0)=some (.ptr bm 0):=zu ag141' hA rfl;have lY:zn Tryz.prog ⟨B,[]⟩ gl.g 5 (.ptr a2 0)=some (.int .u8 (b:Nat)):=zu ag5' hY rfl;have lD:zn Tryz.prog ⟨B,[]⟩ gl.g 205 (.ptr a3 0)=some (srV m c):=zu ag205' hD rfl
 have lS:zn Tryz.prog ⟨B,[]⟩ gl.g 26 (.ptr bm 0)=some (A2.qv f.s):=zu ag26' hM hM0;have lN:zn Tryz.prog ⟨B,[]⟩ gl.g 201 (.ptr bm 4)=some (zp 1 205 (nx.map fun p=>srV m p.1)):=zu ag201' hM hM4;simp only [Tryz.f150,zAs,zA];refine x7 (tk:=[]) (by kernel_rfl) (by kernel_rfl) ?_
 by_cases hks:k<f.s.2.length
 ·obtain ⟨s,hs1⟩:∃ s,f.s.2[k]?=some s:=⟨_,zAS hks⟩;obtain ⟨⟨cn,wn⟩,hn1⟩:∃ p,nx[k]?=some p:=⟨_,zAS (by omega)⟩
  have hsq:QOk s:=hs s (zAb hs1);have hcall:Cx.callF ⟨Tryz.prog,gl.g,zk Tryz.prog gl (n+1),uqS⟩ 110 [A2.qe s,.int .u8 (b:Nat)] ⟨B,[]⟩=some (.val (.bool (zc4 s b)),⟨B,[]⟩):=zw Tryz.func110 rfl (zkJ hg hsq hb);have hd:decide (((k:Nat):Int)<((f.s.2.length:Nat):Int))=true:=by simp;omega
  have hqc:clr (A2.qe s)=A2.qe s:=rfl;simp only [BA,zh,zi,zAQ,zAN,yh,qS,wl,wantB_tt,zaK,List.replicate,lA,lY,lS,ag141',ag26',ag5',ag50',fo204_0,fo30_0,A2.clr_qv,xe,je,hd,znN hs1,zpU,hqc,hcall];have hX:=h.X _ (zAb hn1)
  have hjc:Cx.callF ⟨Tryz.prog,gl.g,zk Tryz.prog gl (n+1),uqS⟩ 151 [srV m c,srV m cn] ⟨B,[]⟩=some (.val (.tup []),⟨B.set c (.cells (bys m (q ||| wn)) 5),[]⟩):=zw Tryz.func151 rfl (zlK hg hm hX.2.1 hX.2.2 h.Q hX.1 hn)
  have hsc:∀ c,clr (srV m c)=srV m c:=fun _=>rfl;cases hh:zc4 s b with
  | true =>
   simp only []
   refine .inl ⟨trivial,?_⟩;refine x7 (tk:=[]) (by kernel_rfl) (by kernel_rfl) ?_
   simp only [BA,zh,zi,zAQ,zAN,lA,lD,lN,ag141',ag205',ag201',fo204_1,hsc,zqI hn1,zpV,hjc];simp only [zx,Fx]
   first|refine ⟨rfl,[],rfl,rfl,?_⟩|refine ⟨trivial,[],rfl,rfl,?_⟩|refine ⟨[],rfl,rfl,?_⟩
   simp [xf,hs1,hn1,hh]
  | false =>
   simp only []
   refine .inr ⟨by first|rfl|trivial,?_⟩
   simp only [zx,Fx]
   first|refine ⟨rfl,[],rfl,rfl,?_⟩|refine ⟨trivial,[],rfl,rfl,?_⟩|refine ⟨[],rfl,rfl,?_⟩
   simp [xf,hs1,hn1,hh,q8 h.Q]
 ·have hd:decide (((k:Nat):Int)<((f.s.2.length:Nat):Int))=false:=by simp;omega
  simp only [BA,zh,zi,zAQ,zAN,yh,qS,wl,wantB_tf,zaL,List.replicate,lA,lY,lS,ag141',ag26',ag5',ag50',fo204_0,fo30_0,A2.clr_qv,xe,je,hd];refine .inr ⟨by first|rfl|trivial,?_⟩
  simp only []
  first|refine ⟨rfl,[],rfl,rfl,?_⟩|refine ⟨trivial,[],rfl,rfl,?_⟩|refine ⟨[],rfl,rfl,?_⟩
  simp [xf,zAk (Nat.le_of_not_lt hks),q8 h.Q]
def zbS (f:A2.F) (nx:List (Nat×Nat)) (b:Nat) (l:List Nat) (q:Nat):Nat:=l.foldl (fun q k=>xf f nx b k q) q
end Go.Proofs.YthohlnmcjkjeiaaGreatDoor
namespace Go.Proofs.YthohlnmcjkjeiaaGreatDoor
set_option maxRecDepth 100000
open Go Go.Vm
variable {gl:Gl}
theorem zjs {cx:Cx} {takes:List Tmp} {dst:Option Tmp} {type:TypeId} {pos:String} {after:Array Edge} {guard:Option (Nat×Bool)} {env:List V} {H:Hp} {lk:List (Nat×Nat)} {df:List (V×List V)} {fn:Fn} {first cap:Array Operand} :
  cx.op takes ⟨dst,.makeFunc fn first cap,type,pos,after,guard⟩ env H lk df=rdQ env H lk df ((peeks env first.toList).bind fun a=>(peeks env cap.toList).bind fun c=>some (.fn fn a c)):=by
 simp only [Cx.op];exact jK rfl
theorem znO {cx:Cx} {x:Operand} {type:TypeId} {pos:String} {after:Array Edge} {guard:Option (Nat×Bool)} {env:List V} {H:Hp} {lk:List (Nat×Nat)} {df:List (V×List V)}:cx.op [] ⟨none,.move x,type,pos,after,guard⟩ env H lk df=rdQ env H lk df (peek env x):=by
 simp only [Cx.op];exact jK rfl
theorem u28':Tryz.prog.underlying 28=some (.slice 27):=by kernel_rfl
theorem ag28':qC Tryz.prog 28=some false:=by kernel_rfl
theorem ag3w:qC Tryz.prog 3=some false:=by kernel_rfl
theorem sz3w:zy Tryz.prog 3=some 1:=by kernel_rfl
theorem z3w:zU Tryz.prog 3=some (.int .i64 0):=by kernel_rfl
theorem z205w:zU Tryz.prog 205=some .snil:=by kernel_rfl
theorem zgW {H:Hp} {p:A2.Rows'}:qH Tryz.prog H 28 (A2.rv p)=some ((p.2.length:Nat):Int):=by
 rcases Sx.lv_cases 1 p.1 (p.2.map A2.iv) with e|⟨e0,e⟩
 ·simp [A2.rv,e,qH]
 ·have:p.2=[]:=by simpa using e0
  rw [A2.rv,e,this];simp [qH]
def zeX (ns:Nat) (k:Nat) (z:Int):Int:=if ns<=k/\z<0 then (k:Int) - ns else z
theorem zjt (hg:GS gl) {n bm a1 a2 k:Nat} {z:Int} {f:A2.F} {tA tZ tM:TypeId} {mc:List V} (hk:k<2 ^ 40) (hns:f.s.2.length<2 ^ 40) {B:List Blk} {es:List (Nat×Nat)} (hA:nth B a1=some (.cells [.ptr bm 0] tA)) (hZ:nth B a2=some (.cells [.int .i64 z] tZ)) (hM:nth B bm=some (.cells mc tM)) (hM0:nth mc 0=some (A2.qv f.s)) (_hz:-1<=z/\z<2 ^ 40) :
  zk Tryz.prog gl (n+1) 149 [.int .i64 (k:Nat),.ptr a1 0,.ptr a2 0] ⟨B,es⟩=some (.ret (.tup []),⟨B.set a2 (.cells [.int .i64 (zeX f.s.2.length k z)] tZ),es⟩):=by
 suffices hmain:(go ⟨Tryz.prog,gl,zk Tryz.prog gl n,uqS⟩ n (Fx Tryz.prog Tryz.f149.results.toList fun w H1=>w=.tup []/\H1=⟨B.set a2 (.cells [.int .i64 (zeX f.s.2.length k z)] tZ),[]⟩) [.c (Tryz.f149.body.getD .skip)] .normal ⟨[.int .i64 (k:Nat),.ptr a1 0,.ptr a2 0]++List.replicate 21 (.tup []),⟨B,[]⟩,[],[]⟩) by
  obtain ⟨w,H1,h0,rfl,rfl⟩:=z0 (gl:=gl) (f:=149) (bs:=B) (es:=es) (args:=[.int .i64 (k:Nat),.ptr a1 0,.ptr a2 0]) (n:=n) (hg.hk _ _ (by decide)) (fun H=>hg.hk2 _ _ _ _ (by decide)) Tryz.func149 rfl (by rw [hg.uq];exact hmain)
  rw [h0,show (V.tup []).top=0 from rfl,zdp]
 have lA:zn Tryz.prog ⟨B,[]⟩ gl.g 141 (.ptr a1 0)=some (.ptr bm 0):=zu ag141' hA rfl;have lZ:zn Tryz.prog ⟨B,[]⟩ gl.g 3 (.ptr a2 0)=some (.int .i64 z):=zu ag3w hZ rfl;have lS:zn Tryz.prog ⟨B,[]⟩ gl.g 26 (.ptr bm 0)=some (A2.qv f.s):=zu ag26' hM hM0;simp only [Tryz.f149,zAs,zA];refine ze (tk:=[]) (by kernel_rfl) ?_
 by_cases hks:f.s.2.length<=k
 ·have hd:decide (((f.s.2.length:Nat):Int)<=((k:Nat):Int))=true:=by simp;omega
  simp only [BA,zh,zi,zAQ,zAN,yg,qS,wl,wantB_tt,zaK,List.replicate,lA,lZ,lS,fo204_0,fo30_0,A2.clr_qv,xe,je,zj1,ge_iff_le,hd]
  by_cases hz0:z<0
  ·refine .inl ⟨by simpa using hz0,?_⟩
   refine ze (tk:=[]) (by kernel_rfl) ?_
   have hw:IntKind.i64.wrap (((k:Nat):Int) - ((f.s.2.length:Nat):Int))=((k:Nat):Int) - ((f.s.2.length:Nat):Int):=kN (by omega) (by omega)
   have hgZ:(⟨B,[]⟩:Hp).get a2=some (.cells [.int .i64 z] tZ):=hZ;simp only [BA,zh,zi,zAQ,zAN,lA,lS,fo204_0,fo30_0,A2.clr_qv,xe,zgq,hw];rw [zT sz3w hgZ rfl rfl (by simp) rfl,v4 (by simp [V.top])]
   simp only [opQ_skip,putA,V.laid,Vm.storeCells,zx,Fx]
   first|refine ⟨rfl,[],rfl,rfl,?_⟩|refine ⟨trivial,[],rfl,rfl,?_⟩|refine ⟨[],rfl,rfl,?_⟩
   simp only [zeX,if_pos (And.intro hks hz0)];rfl
  ·refine .inr ⟨by simpa using hz0,?_⟩
   simp only [zx,Fx]
   first|refine ⟨rfl,[],rfl,rfl,?_⟩|refine ⟨trivial,[],rfl,rfl,?_⟩|refine ⟨[],rfl,rfl,?_⟩
   rw [zeX,if_neg (fun e=>hz0 e.2),q8 hZ]
 ·have hd:decide (((f.s.2.length:Nat):Int)<=((k:Nat):Int))=false:=by simp;omega
  simp only [BA,zh,zi,zAQ,zAN,yg,qS,wl,wantB_tf,zaL,List.replicate,lA,lZ,lS,fo204_0,fo30_0,A2.clr_qv,xe,je,zj1,ge_iff_le,hd];refine .inr ⟨by first|rfl|trivial,?_⟩
  simp only []
  first|refine ⟨rfl,[],rfl,rfl,?_⟩|refine ⟨trivial,[],rfl,rfl,?_⟩|refine ⟨[],rfl,rfl,?_⟩
  rw [zeX,if_neg (fun e=>hks e.1),q8 hZ]
def vH (ns:Nat) (l:List Nat) (z:Int):Int:=l.foldl (fun z k=>zeX ns k z) z
theorem zkK {ns k:Nat} {z:Int} (h:-1<=z/\z<2 ^ 40) (hk:k<2 ^ 40):-1<=zeX ns k z/\zeX ns k z<2 ^ 40:=by
 unfold zeX;split<;>omega
theorem zkL {m w k:Nat} (h:k∈j8 m w):k<8 * m:=by
 simpa using (List.mem_filter.1 h).1
theorem zlM (hg:GS gl) {n bm b m w:Nat} {f:A2.F} {tM:TypeId} {mc:List V} (hm:m<2 ^ 36) (hmn:m<n) (hn:300<=n) (hns:f.s.2.length<2 ^ 40) {bs:List Blk} {es:List (Nat×Nat)} (hM:nth bs bm=some (.cells mc tM)) (hM0:nth mc 0=some (A2.qv f.s)) (hb:nth bs b=some (.cells (bys m w) 5)) :
  zk Tryz.prog gl (n+1+1+1) 112 [.ptr bm 0,srV m b] ⟨bs,es⟩=some (.ret (.int .i64 (vH f.s.2.length (j8 m w) (-1))),⟨bs,es⟩):=by
 have hbl:b<bs.length:=by rw [zd] at hb;exact (zAB.1 hb).1
 have hml:bm<bs.length:=by rw [zd] at hM;exact (zAB.1 hM).1
 let Hz:Int->List Blk:=fun z=>bs++[.cells [.ptr bm 0] 141,.cells [.int .i64 z] 3]
 have g1:∀ z,nth (Hz z) bs.length=some (.cells [.ptr bm 0] 141):=fun z=>by
  show nth _ _=_;rw [zd,zAP (zAO _)];simp
 have g2:∀ z,nth (Hz z) (bs.length+1)=some (.cells [.int .i64 z] 3):=fun z=>by
  show nth _ _=_;rw [zd,zAP (by omega)];simp
 have gO:∀ z d,d<bs.length->nth (Hz z) d=nth bs d:=fun z d hd=>by
  show nth _ _=_;rw [zd,zd,zAR hd]
 have hset:∀ z y,(Hz z).set (bs.length+1) (.cells [.int .i64 y] 3)=Hz y:=fun z y=>by
  show (bs++_).set _ _=_;rw [zA5 _ _ (by omega)];simp [Hz]
 let I:List Nat->Hp->Prop:=fun l H=>(∀ k∈l,k<8 * m)/\∃ z es',-1<=z/\z<2 ^ 40/\H=⟨Hz z,es'⟩/\es'=[]/\vH f.s.2.length l z=vH f.s.2.length (j8 m w) (-1)
 have heach:=ziv hg (F:=149) (caps:=[.ptr bs.length 0,.ptr (bs.length+1) 0]) (m:=m) (w:=w) (b:=b) (n:=n+1) rfl (by omega) (by omega) (by omega) I (fun l H hI=>by
   obtain ⟨_,z,es',_,_,rfl,_,_⟩:=hI;exact (gO z b hbl).trans hb) (fun k l H hk hI=>by
   obtain ⟨hl,z,es',z1,z2,rfl,rfl,hz⟩:=hI;have hk':k<2 ^ 40:=by omega
   refine ⟨⟨Hz (zeX f.s.2.length k z),[]⟩,zw Tryz.func149 rfl ?_,fun j hj=>hl j (zAE _ hj),_,[],(zkK ⟨z1,z2⟩ hk').1,(zkK ⟨z1,z2⟩ hk').2,rfl,rfl,?_⟩
   ·have:=zjt hg (n:=n) (es:=[]) hk' hns (g1 z) (g2 z) ((gO z bm hml).trans hM) hM0 ⟨z1,z2⟩;rw [hset] at this;exact this
   ·rw [<- hz];rfl) (bs:=Hz (-1)) (es:=[]) ⟨fun k hk=>zkL hk,-1,[],by omega,by omega,rfl,rfl,rfl⟩
 obtain ⟨H',hcall,_,zf,es',zf1,zf2,rfl,rfl,hzf⟩:=heach;have hfinE:zL (Hz (-1)).length [] 0 ⟨Hz zf,[]⟩=⟨Hz zf,[]⟩:=by
  have:=qR (bs:=Hz zf) (ls:=[]) (es:=[]) (t:=0) (zAW _);rw [zBB] at this;rw [show (Hz (-1)).length=(Hz zf).length by simp [Hz]]
  exact this
 rw [hfinE] at hcall;have hcF:Cx.callF ⟨Tryz.prog,gl.g,zk Tryz.prog gl (n+1+1),uqS⟩ 148 [srV m b,.fn (.func 149) [] [.ptr bs.length 0,.ptr (bs.length+1) 0]] ⟨Hz (-1),[]⟩=some (.val (.tup []),⟨Hz zf,[]⟩):=zw Tryz.func148 rfl hcall;have hzf':zf=vH f.s.2.length (j8 m w) (-1):=hzf
 suffices hmain:(go ⟨Tryz.prog,gl,zk Tryz.prog gl (n+1+1),uqS⟩ (n+1+1) (Fx Tryz.prog Tryz.f112.results.toList fun w H1=>w=.int .i64 zf/\H1=⟨Hz zf,[]⟩) [.c (Tryz.f112.body.getD .skip)] .normal ⟨[.ptr bm 0,srV m b]++List.replicate 8 (.tup []),⟨bs,[]⟩,[],[]⟩) by
  obtain ⟨w,H1,h0,rfl,rfl⟩:=z0 (gl:=gl) (f:=112) (bs:=bs) (es:=es) (args:=[.ptr bm 0,srV m b]) (n:=n+1+1) (hg.hk _ _ (by decide)) (fun H=>hg.hk2 _ _ _ _ (by decide)) Tryz.func112 rfl (by rw [hg.uq];exact hmain)
  rw [h0,<- hzf'];have:=qR (bs:=bs) (ls:=[.cells [.ptr bm 0] 141,.cells [.int .i64 zf] 3]) (es:=es) (t:=0) (zAW _);exact congrArg (fun x=>some (Out.ret _,x)) this
 simp only [Tryz.f112,zAs,zA];refine ze (tk:=[]) (by kernel_rfl) ?_
 simp only [BA,zc,Nat.reduceAdd,zh,zAQ,zAN,List.replicate,jG (v:=.ptr bm 0) rfl];refine ze (tk:=[]) (by kernel_rfl) ?_
 have hgN:(⟨bs++[.cells [.ptr bm 0] 141,.cells [.int .i64 0] 3],[]⟩:Hp).get (bs.length+1)=some (.cells [.int .i64 0] 3):=g2 0;have hV:V.laid (.ptr bm 0)=[.ptr bm 0]:=rfl;simp only [BA,zc,zh,zi,zAQ,zAN,hV,z3w,jI (show okC (V.int .i64 0)=true from rfl),V.cells];rw [zT sz3w hgN rfl rfl (by simp) rfl,v4 (by simp [V.top])]
 have hH1:(⟨bs++[.cells [.ptr bm 0] 141,.cells [.int .i64 0] 3],[]⟩:Hp).set (bs.length+1) (.cells (Vm.storeCells [.int .i64 0] 0 (V.laid (.int .i64 (-1)))) 3)=⟨Hz (-1),[]⟩:=congrArg (fun x=>Hp.mk x []) (hset 0 (-1));rw [hH1];simp only [opQ_skip,putA]
 refine ze (tk:=[]) (by kernel_rfl) ?_
 have hsc:∀ c,clr (srV m c)=srV m c:=fun _=>rfl;have hfc:∀ a c,clr (V.fn (.func 149) a c)=.fn (.func 149) a c:=fun _ _=>rfl;simp only [BA,zh,zi,zAQ,zAN,zjs,hsc,hfc,hcF];refine ze (tk:=[]) (by kernel_rfl) ?_
 have lZ:zn Tryz.prog ⟨Hz zf,[]⟩ gl.g 3 (.ptr (bs.length+1) 0)=some (.int .i64 zf):=zu ag3w (g2 zf) rfl;simp only [BA,zh,zi,zAQ,zAN,lZ,go_ret]
 first|refine ⟨rfl,[.int .i64 zf],?_,rfl,rfl⟩|refine ⟨trivial,[.int .i64 zf],?_,rfl,trivial⟩|refine ⟨trivial,[.int .i64 zf],?_,rfl,rfl⟩|refine ⟨rfl,[.int .i64 zf],?_,rfl,trivial⟩
 simp only [zt,zh,zi]
theorem zlN (hg:GS gl) {n bm b m w y:Nat} {f:A2.F} {nx:List (Nat×Nat)} {tM:TypeId} {mc:List V} (hm:m<2 ^ 36) (hmn:m<n) (hn:300<=n) (hy:y<256) (hs:∀ q∈f.s.2,QOk q) (hns:f.s.2.length<2 ^ 36) (hnf:f.f.2.length<2 ^ 36) (hmm:m=(f.s.2.length+f.f.2.length) / 8+1) (hnx:nx.length=f.s.2.length) {bs:List Blk} {es:List (Nat×Nat)}
  (hM:nth bs bm=some (.cells mc tM)) (hM0:nth mc 0=some (A2.qv f.s)) (hM2:nth mc 2=some (A2.rv f.f)) (hM4:nth mc 4=some (zp 1 205 (nx.map fun p=>srV m p.1))) (hX:∀ p∈nx,nth bs p.1=some (.cells (bys m p.2) 5)/\p.2<2 ^ (8 * m)) (hb:nth bs b=some (.cells (bys m w) 5)) :
  zk Tryz.prog gl (n+1+1+1+1) 114 [.ptr bm 0,srV m b,.int .u8 (y:Nat)] ⟨bs,es⟩=some (.ret (srV m (bs.length+2)),⟨bs++[.cells [.ptr bm 0] 141,.cells [.int .u8 (y:Nat)] 5,.cells (bys m (zbS f nx y (j8 m w) 0)) 5,.cells [srV m (bs.length+2)] 205],es⟩):=by
 have hbl:b<bs.length:=by rw [zd] at hb;exact (zAB.1 hb).1
 have hml:bm<bs.length:=by rw [zd] at hM;exact (zAB.1 hM).1
 let Hz:Nat->List Blk:=fun q=>bs++[.cells [.ptr bm 0] 141,.cells [.int .u8 (y:Nat)] 5,.cells (bys m q) 5,.cells [srV m (bs.length+2)] 205]
 have gA:∀ z,nth (Hz z) bs.length=some (.cells [.ptr bm 0] 141):=fun z=>by
  show nth _ _=_;rw [zd,zAP (zAO _)];simp
 have gY:∀ z,nth (Hz z) (bs.length+1)=some (.cells [.int .u8 (y:Nat)] 5):=fun z=>by
  show nth _ _=_;rw [zd,zAP (by omega)];simp
 have gQ:∀ z,nth (Hz z) (bs.length+2)=some (.cells (bys m z) 5):=fun z=>by
  show nth _ _=_;rw [zd,zAP (by omega)];simp
 have gD:∀ z,nth (Hz z) (bs.length+3)=some (.cells [srV m (bs.length+2)] 205):=fun z=>by
  show nth _ _=_;rw [zd,zAP (by omega)];simp
 have gO:∀ z d,d<bs.length->nth (Hz z) d=nth bs d:=fun z d hd=>by
  show nth _ _=_;rw [zd,zd,zAR hd]
 have hset:∀ z q,(Hz z).set (bs.length+2) (.cells (bys m q) 5)=Hz q:=fun z q=>by
  show (bs++_).set _ _=_;rw [zA5 _ _ (by omega)];simp [Hz]
 have hlb:∀ q,LB (Hz q) bm bs.length (bs.length+1) (bs.length+3) (bs.length+2) m q y f nx:=fun q =>
  ⟨⟨_,gA q⟩,⟨_,gY q⟩,⟨_,gD q⟩,gQ q,⟨mc,tM,(gO q bm hml).trans hM,hM0,hM4⟩,fun p hp=>by
   obtain ⟨h1,h2⟩:=hX p hp;have hlt:p.1<bs.length:=by rw [zd] at h1;exact (zAB.1 h1).1
   exact ⟨(gO q _ hlt).trans h1,h2,by omega⟩⟩
 let I:List Nat->Hp->Prop:=fun l H=>(∀ k∈l,k<8 * m)/\∃ q,H=⟨Hz q,[]⟩/\zbS f nx y l q=zbS f nx y (j8 m w) 0
 have heach:=ziv hg (F:=150) (caps:=[.ptr bs.length 0,.ptr (bs.length+1) 0,.ptr (bs.length+3) 0]) (m:=m) (w:=w) (b:=b) (n:=n+1+1) rfl (by omega) (by omega) (by omega) I (fun l H hI=>by
   obtain ⟨_,q,rfl,_⟩:=hI;exact (gO q b hbl).trans hb) (fun k l H hk hI=>by
   obtain ⟨hl,q,rfl,hz⟩:=hI;refine ⟨⟨Hz (xf f nx y k q),[]⟩,zw Tryz.func150 rfl ?_,fun j hj=>hl j (zAE _ hj),_,rfl,?_⟩
   ·have:=zjr hg (n:=n) (es:=[]) (k:=k) hs hy (by omega) (by omega) hmn hnx (hlb q)
    rw [hset] at this;exact this
   ·rw [<- hz];rfl) (bs:=Hz 0) (es:=[]) ⟨fun k hk=>zkL hk,0,rfl,rfl⟩
 obtain ⟨H',hcall,_,qf,rfl,hzf⟩:=heach;have hfinE:zL (Hz 0).length [] 0 ⟨Hz qf,[]⟩=⟨Hz qf,[]⟩:=by
  have:=qR (bs:=Hz qf) (ls:=[]) (es:=[]) (t:=0) (zAW _);rw [zBB] at this;rw [show (Hz 0).length=(Hz qf).length by simp [Hz]]
  exact this
 rw [hfinE] at hcall;have hcF:Cx.callF ⟨Tryz.prog,gl.g,zk Tryz.prog gl (n+1+1+1),uqS⟩ 148 [srV m b,.fn (.func 150) [] [.ptr bs.length 0,.ptr (bs.length+1) 0,.ptr (bs.length+3) 0]] ⟨Hz 0,[]⟩=some (.val (.tup []),⟨Hz qf,[]⟩):=zw Tryz.func148 rfl hcall;have hzf':qf=zbS f nx y (j8 m w) 0:=hzf
 suffices hmain:(go ⟨Tryz.prog,gl,zk Tryz.prog gl (n+1+1+1),uqS⟩ (n+1+1+1) (Fx Tryz.prog Tryz.f114.results.toList fun w H1=>w=srV m (bs.length+2)/\H1=⟨Hz qf,[]⟩) [.c (Tryz.f114.body.getD .skip)] .normal ⟨[.ptr bm 0,srV m b,.int .u8 (y:Nat)]++List.replicate 23 (.tup []),⟨bs,[]⟩,[],[]⟩) by
  obtain ⟨w,H1,h0,rfl,rfl⟩:=z0 (gl:=gl) (f:=114) (bs:=bs) (es:=es) (args:=[.ptr bm 0,srV m b,.int .u8 (y:Nat)]) (n:=n+1+1+1) (hg.hk _ _ (by decide)) (fun H=>hg.hk2 _ _ _ _ (by decide)) Tryz.func114 rfl (by rw [hg.uq];exact hmain)
  rw [h0,<- hzf',yF (by simp only [V.top,srV];omega)]
  rfl
 simp only [Tryz.f114,zAs,zA];refine ze (tk:=[]) (by kernel_rfl) ?_
 simp only [BA,zc,Nat.reduceAdd,zh,zi,zAQ,zAN,List.replicate,jG (v:=.ptr bm 0) rfl,jG (v:=.int .u8 (y:Nat)) rfl];refine zpe (tk:=[]) rfl rfl (by kernel_rfl) (by kernel_rfl) (by simp) (by kernel_rfl) ?_
 simp only [List.reverse_cons,List.reverse_nil,zA7,zA6,zba];have hV:V.laid (.ptr bm 0)=[.ptr bm 0]:=rfl;have hV':V.laid (.int .u8 (y:Nat))=[.int .u8 (y:Nat)]:=rfl;simp only [hV,hV'];obtain ⟨bs2,hbs2⟩:∃ x:List Blk,x=bs++[.cells [.ptr bm 0] 141,.cells [.int .u8 (y:Nat)] 5]:=⟨_,rfl⟩;rw [<- hbs2];have g2:∀ d,d<bs.length->nth bs2 d=nth bs d:=fun d hd=>by
  rw [hbs2,zd,zd,zAR hd]
 have hgA:(⟨bs2,[]⟩:Hp).get bs.length=some (.cells [.ptr bm 0] 141):=by
  show nth _ _=_;rw [hbs2,zd,zAP (zAO _)];simp
 have hgM:(⟨bs2,[]⟩:Hp).get bm=some (.cells mc tM):=(g2 bm hml).trans hM;have lA:zn Tryz.prog ⟨bs2,[]⟩ gl.g 141 (.ptr bs.length 0)=some (.ptr bm 0):=zu ag141' hgA rfl;have lS:zn Tryz.prog ⟨bs2,[]⟩ gl.g 26 (.ptr bm 0)=some (A2.qv f.s):=zu ag26' hgM hM0;have lF:zn Tryz.prog ⟨bs2,[]⟩ gl.g 28 (.ptr bm 2)=some (A2.rv f.f):=zu ag28' hgM hM2
 have hnc:Cx.callF ⟨Tryz.prog,gl.g,zk Tryz.prog gl (n+3),uqS⟩ 108 [.int .i64 ((f.s.2.length+f.f.2.length:Nat):Int)] ⟨bs2,[]⟩=some (.val (srV m (bs.length+2)),⟨bs++[.cells [.ptr bm 0] 141,.cells [.int .u8 (y:Nat)] 5,.cells (bys m 0) 5],[]⟩):=by
  refine zw Tryz.func108 rfl ?_;have:=yG hg (n:=n+2) (k:=f.s.2.length+f.f.2.length) (by omega) (bs:=bs2) (es:=[])
  rw [<- hmm] at this;rw [this];simp [hbs2,srV]
 simp only [BA,zh,zi,zAQ,zAN,znO,lA,lS,lF,ag141',ag26',ag28',fo204_0,fo30_0,fo30_2,A2.clr_qv,A2.clr_rv,xe,zgW,zeh (show f.s.2.length+f.f.2.length<2 ^ 60 by omega),hnc]
 simp only [zx,zpT];refine ⟨trivial,srV m (bs.length+2),_,1,.snil,rfl,sz205',z205w,rfl,rfl,rfl,rfl,?_⟩;have hlen3:(bs++[Blk.cells [.ptr bm 0] 141,.cells [.int .u8 (y:Nat)] 5,.cells (bys m 0) 5]).length=bs.length+3:=by simp
 have hHz:(⟨bs++([Blk.cells [.ptr bm 0] 141,.cells [.int .u8 (y:Nat)] 5,.cells (bys m 0) 5]++[.cells (V.laid (srV m (bs.length+2))) 205]),[]⟩:Hp)=⟨Hz 0,[]⟩:=rfl;simp only [zAQ,zAN,zb,hlen3];rw [hHz];refine ze (tk:=[]) (by kernel_rfl) ?_
 have hsc:∀ c,clr (srV m c)=srV m c:=fun _=>rfl;have hst:∀ c env t,qE env t (some (srV m c))=some (srV m c,env):=fun _ _ _=>rfl;have hfc:∀ a c,clr (V.fn (.func 150) a c)=.fn (.func 150) a c:=fun _ _=>rfl;simp only [BA,zh,zi,zAQ,zAN,zjs,hsc,hfc,hcF];refine ze (tk:=[]) (by kernel_rfl) ?_
 have lD:zn Tryz.prog ⟨Hz qf,[]⟩ gl.g 205 (.ptr (bs.length+3) 0)=some (srV m (bs.length+2)):=zu ag205' (gD qf) rfl;simp only [BA,zh,zi,zAQ,zAN,lD,hsc,hst,go_ret]
 first|refine ⟨rfl,[srV m (bs.length+2)],?_,rfl,rfl⟩|refine ⟨trivial,[srV m (bs.length+2)],?_,rfl,trivial⟩|refine ⟨trivial,[srV m (bs.length+2)],?_,rfl,rfl⟩|refine ⟨rfl,[srV m (bs.length+2)],?_,rfl,trivial⟩
 simp only [zt,zh,zi]
end Go.Proofs.YthohlnmcjkjeiaaGreatDoor
namespace Go.Proofs.YthohlnmcjkjeiaaGreatDoor
set_option maxRecDepth 100000
open Go Go.Vm
variable {gl:Gl}
theorem u27':Tryz.prog.underlying 27=some (.slice 3):=by kernel_rfl
theorem sz27':zy Tryz.prog 27=some 1:=by kernel_rfl
theorem ag27':qC Tryz.prog 27=some false:=by kernel_rfl
theorem zju {H:Hp} {p:A2.Ints}:qH Tryz.prog H 27 (A2.iv p)=some ((p.2.length:Nat):Int):=by
 rcases Sx.lv_cases 1 p.1 (p.2.map A2.ie) with e|⟨e0,e⟩
 ·simp [A2.iv,e,qH]
 ·have:p.2=[]:=by simpa using e0
  rw [A2.iv,e,this];simp [qH]
theorem znP {sz:Nat} {nl:Bool} {l:List V} {k:Nat} {v:V} (h:l[k]?=some v):Sx.lv sz nl l=.sl sz l .no:=by
 rcases Sx.lv_cases sz nl l with e|⟨e0,e⟩
 ·exact e
 ·rw [e0] at h;simp at h
theorem zjv {p:A2.Ints} {k:Nat} {z:Int} (h:p.2[k]?=some z):zr Tryz.prog 27 (A2.iv p) ((k:Nat):Int)=some (.vp [.int .i64 z]):=by
 have hn:(p.2.map A2.ie)[k]?=some (A2.ie z):=by rw [zAY,h];rfl
 rw [A2.iv,znP hn];simp only [zr,u27',sz3w,zAd,zd,hn];simp [A2.ie,V.cells]
theorem znQ {H:Hp} {z:Int}:zn Tryz.prog H gl.g 3 (.vp [.int .i64 z])=some (.int .i64 z):=by
 simp [zn,ag3w,qq,zd]
theorem znR {p:A2.Rows'} {k:Nat} {r:A2.Ints} (h:p.2[k]?=some r):zr Tryz.prog 28 (A2.rv p) ((k:Nat):Int)=some (.vp [A2.iv r]):=by
 have hn:(p.2.map A2.iv)[k]?=some (A2.iv r):=by rw [zAY,h];rfl
 have hc:(A2.iv r).cells=[A2.iv r]:=by
  rcases Sx.lv_cases 1 r.1 (r.2.map A2.ie) with e|⟨_,e⟩<;>rw [A2.iv,e]<;>rfl
 rw [A2.rv,znP hn];simp only [zr,u28',sz27',zAd,zd,hn,hc];simp
theorem zpW {H:Hp} {r:A2.Ints}:zn Tryz.prog H gl.g 27 (.vp [A2.iv r])=some (A2.iv r):=by
 simp [zn,ag27',qq,zd]
def vG (l:List Int) (q:Nat):Nat:=l.foldl (fun q n=>q ||| 2 ^ n.toNat) q
def z7 (rows:List A2.Ints) (l:List Int) (q:Nat):Nat:=l.foldl (fun q r=>vG ((rows[r.toNat]?).map (·.2) |>.getD []) q) q
theorem zes {l:List Int} {z:Int} {q:Nat}:vG (l++[z]) q=vG l q ||| 2 ^ z.toNat:=by simp [vG]
theorem zgX {rows:List A2.Ints} {l:List Int} {r:Int} {row:A2.Ints} {q:Nat} (h:rows[r.toNat]?=some row):z7 rows (l++[r]) q=vG row.2 (z7 rows l q):=by
 simp [z7,h]
theorem zlO (hg:GS gl) {n bm m:Nat} {f:A2.F} {act:A2.Ints} {tM:TypeId} {mc:List V} (hns:f.s.2.length<2 ^ 36) (hnf:f.f.2.length<2 ^ 36) (hmm:m=(f.s.2.length+f.f.2.length) / 8+1)
  (ha:∀ r∈act.2,0<=r/\r.toNat<f.f.2.length) (hr:∀ row∈f.f.2,row.2.length<n+1/\row.2.length<2 ^ 60/\∀ z∈row.2,0<=z/\z.toNat<f.s.2.length+f.f.2.length) (han:act.2.length<n+1) (hal:act.2.length<2 ^ 60) {bs:List Blk} {es:List (Nat×Nat)}
  (hM:nth bs bm=some (.cells mc tM)) (hM0:nth mc 0=some (A2.qv f.s)) (hM2:nth mc 2=some (A2.rv f.f)) :
  zk Tryz.prog gl (n+1+1) 113 [.ptr bm 0,A2.iv act] ⟨bs,es⟩=some (.ret (srV m bs.length),⟨bs++[.cells (bys m (z7 f.f.2 act.2 0)) 5],es⟩):=by
 have hml:bm<bs.length:=by rw [zd] at hM;exact (zAB.1 hM).1
 suffices hmain:(go ⟨Tryz.prog,gl,zk Tryz.prog gl (n+1),uqS⟩ (n+1) (Fx Tryz.prog Tryz.f113.results.toList fun w H1=>w=srV m bs.length/\H1=⟨bs++[.cells (bys m (z7 f.f.2 act.2 0)) 5],[]⟩) [.c (Tryz.f113.body.getD .skip)] .normal ⟨[.ptr bm 0,A2.iv act]++List.replicate 47 (.tup []),⟨bs,[]⟩,[],[]⟩) by
  obtain ⟨w,H1,h0,rfl,rfl⟩:=z0 (gl:=gl) (f:=113) (bs:=bs) (es:=es) (args:=[.ptr bm 0,A2.iv act]) (n:=n+1) (hg.hk _ _ (by decide)) (fun H=>hg.hk2 _ _ _ _ (by decide)) Tryz.func113 rfl (by rw [hg.uq];exact hmain)
  rw [h0,yF (by simp only [V.top,srV];omega)]
  rfl
 let Hz:Nat->Hp:=fun q=>⟨bs++[.cells (bys m q) 5],[]⟩
 have gM:∀ q,(Hz q).get bm=some (.cells mc tM):=fun q=>by
  show nth _ _=_;rw [zd,zAR hml,<- zd,hM]
 have lS0:zn Tryz.prog ⟨bs,[]⟩ gl.g 26 (.ptr bm 0)=some (A2.qv f.s):=zu ag26' hM hM0;have lF0:zn Tryz.prog ⟨bs,[]⟩ gl.g 28 (.ptr bm 2)=some (A2.rv f.f):=zu ag28' hM hM2;have lF:∀ q,zn Tryz.prog (Hz q) gl.g 28 (.ptr bm 2)=some (A2.rv f.f):=fun q=>zu ag28' (gM q) hM2
 have hnc:Cx.callF ⟨Tryz.prog,gl.g,zk Tryz.prog gl (n+1),uqS⟩ 108 [.int .i64 ((f.s.2.length+f.f.2.length:Nat):Int)] ⟨bs,[]⟩=some (.val (srV m bs.length),Hz 0):=by
  refine zw Tryz.func108 rfl ?_;have:=yG hg (n:=n) (k:=f.s.2.length+f.f.2.length) (by omega) (bs:=bs) (es:=[])
  rw [<- hmm] at this;exact this
 have hadd:∀ q (z:Int),0<=z->z.toNat<f.s.2.length+f.f.2.length->Cx.callF ⟨Tryz.prog,gl.g,zk Tryz.prog gl (n+1),uqS⟩ 109 [srV m bs.length,A2.ie z] (Hz q)=some (.val (.tup []),Hz (q ||| 2 ^ z.toNat)):=fun q z h0 h1=>by
  refine zw Tryz.func109 rfl ?_;have:=zep hg (n:=n) (k:=z.toNat) (m:=m) (p:=q) (b:=bs.length) (by omega) (by omega) (bs:=bs++[.cells (bys m q) 5]) (es:=[]) (by rw [zd,zAP (zAO _)];simp)
  rw [show ((z.toNat:Nat):Int)=z by omega] at this
  refine this.trans ?_;simp [Hz]
 have hsc:∀ c,clr (srV m c)=srV m c:=fun _=>rfl;have hst:∀ c env t,qE env t (some (srV m c))=some (srV m c,env):=fun _ _ _=>rfl;simp only [Tryz.f113,zAs,zA];refine ze (tk:=[]) (by kernel_rfl) ?_
 simp only [BA,zAQ,zAN,List.replicate];refine x7 (tk:=[]) (by kernel_rfl) (by kernel_rfl) ?_
 simp only [BA,zh,zi,zAQ,zAN,lS0,lF0,ag26',ag28',fo204_0,fo30_0,fo30_2,A2.clr_qv,A2.clr_rv,xe,zgW,zeh (show f.s.2.length+f.f.2.length<2 ^ 60 by omega),hnc,hst]
 refine ze (tk:=[]) (by kernel_rfl) ?_
 simp only [BA,zh,zi,zAQ,zAN,A2.clr_iv,zju]
 refine jU (fun k s=>∃ i env,k+i=act.2.length/\s=⟨env,Hz (z7 f.f.2 (act.2.take i) 0),[],[]⟩/\env.length=49/\nth env 0=some (.ptr bm 0)/\nth env 5=some (srV m bs.length)/\nth env 24=some (A2.iv act)/\nth env 25=some (.int .i64 (act.2.length:Nat))/\nth env 26=some (.int .i64 (i:Nat))) act.2.length han ⟨0,_,rfl,rfl,rfl,rfl,rfl,rfl,rfl,rfl⟩ ?_;rintro k s ⟨i,env,hki,rfl,hlen,h0,h5,h24,h25,h26⟩
 simp only [zA];refine ze (tk:=[]) (by kernel_rfl) ?_
 simp only [BA,za,Nat.reduceLT,h25,h26,hlen,je]
 by_cases hi:i<act.2.length
 ·refine .inl ⟨by simp;omega,?_⟩
  obtain ⟨r,hri⟩:∃ r,act.2[i]?=some r:=⟨_,zAS hi⟩;obtain ⟨hr0,hr1⟩:=ha r (zAb hri);obtain ⟨row,hrow⟩:∃ row,f.f.2[r.toNat]?=some row:=⟨_,zAS hr1⟩;obtain ⟨hl1,hl2,hz⟩:=hr row (zAb hrow);have hrr:((r.toNat:Nat):Int)=r:=by omega
  have hix:zr Tryz.prog 28 (A2.rv f.f) r=some (.vp [A2.iv row]):=by
   have:=znR hrow
   rwa [hrr] at this
  have htk:act.2.take (i+1)=act.2.take i++[r]:=by rw [List.take_add_one,hri];rfl
  refine ze (tk:=[]) (by kernel_rfl) ?_
  simp only [BA,Nat.reduceEqDiff,za,zAF,Nat.reduceLT,if_false,h24,h26,hlen,A2.clr_iv,zjv hri,znQ];refine ze (tk:=[]) (by kernel_rfl) ?_
  simp only [BA,Nat.reduceEqDiff,za,zAF,Nat.reduceLT,if_false,h0,hlen,lF,fo204_0,fo30_2,A2.clr_rv,A2.clr_iv,hix,zpW,zju]
  refine jU (fun k2 s=>∃ j env,k2+j=row.2.length/\s=⟨env,Hz (vG (row.2.take j) (z7 f.f.2 (act.2.take i) 0)),[],[]⟩/\env.length=49/\nth env 0=some (.ptr bm 0)/\nth env 5=some (srV m bs.length)/\nth env 24=some (A2.iv act)/\nth env 25=some (.int .i64 (act.2.length:Nat))/\nth env 26=some (.int .i64 (i:Nat))/\nth env 37=some (A2.iv row)/\nth env 38=some (.int .i64 (row.2.length:Nat))/\nth env 39=some (.int .i64 (j:Nat))) row.2.length hl1 ?_ ?_
  ·refine ⟨0,_,rfl,rfl,?_,?_,?_,?_,?_,?_,?_,?_,?_⟩<;>simp [za,hlen,h0,h5,h24,h25,h26]
  rintro k2 s ⟨j,env2,hkj,rfl,hlen2,e0,e5,e24,e25,e26,e37,e38,e39⟩;simp only [zA];refine ze (tk:=[]) (by kernel_rfl) ?_
  simp only [BA,za,Nat.reduceLT,e38,e39,hlen2,je]
  by_cases hj:j<row.2.length
  ·refine .inl ⟨by simp;omega,?_⟩
   obtain ⟨z,hzj⟩:∃ z,row.2[j]?=some z:=⟨_,zAS hj⟩;obtain ⟨hz0,hz1⟩:=hz z (zAb hzj);have htk2:row.2.take (j+1)=row.2.take j++[z]:=by rw [List.take_add_one,hzj];rfl
   have hcl:∀ q,Cx.callF ⟨Tryz.prog,gl.g,zk Tryz.prog gl (n+1),uqS⟩ 109 [srV m bs.length,.int .i64 z] (Hz q)=some (.val (.tup []),Hz (q ||| 2 ^ z.toNat)):=fun q=>hadd q z hz0 hz1
   refine ze (tk:=[]) (by kernel_rfl) ?_
   simp only [BA,Nat.reduceEqDiff,za,zAF,Nat.reduceLT,if_false,e37,e39,hlen2,A2.clr_iv,zjv hzj,znQ];refine ze (tk:=[]) (by kernel_rfl) ?_
   simp only [BA,Nat.reduceEqDiff,za,zAF,Nat.reduceLT,if_false,e5,hlen2,hsc,hcl];refine ze (tk:=[]) (by kernel_rfl) ?_
   simp only [BA,Nat.reduceEqDiff,za,zAF,Nat.reduceLT,if_false,e39,hlen2,q9 (show j<2 ^ 60 by omega),zx,thn_normal]
   rw [show Hz (vG (row.2.take j) (z7 f.f.2 (act.2.take i) 0) ||| 2 ^ z.toNat)=Hz (vG (row.2.take (j+1)) (z7 f.f.2 (act.2.take i) 0)) by rw [htk2,zes]]
   refine ⟨row.2.length - 1 - j,by omega,j+1,_,by omega,rfl,?_,?_,?_,?_,?_,?_,?_,?_,?_⟩
   all_goals simp [za,hlen2,e0,e5,e24,e25,e26,e37,e38]
  ·refine .inr ⟨by simp;omega,?_⟩
   obtain rfl:j=row.2.length:=by omega
   simp only [ju,qh,zZ,zx,thn_exit,kG,zAu,if_true]
   refine ze (tk:=[]) (by kernel_rfl) ?_
   simp only [BA,Nat.reduceEqDiff,za,zAF,Nat.reduceLT,if_false,e26,hlen2,q9 (show i<2 ^ 60 by omega),zx,thn_normal]
   rw [show Hz (vG (row.2.take row.2.length) (z7 f.f.2 (act.2.take i) 0))=Hz (z7 f.f.2 (act.2.take (i+1)) 0) by rw [htk,zgX hrow,zBc]]
   refine ⟨act.2.length - 1 - i,by omega,i+1,_,by omega,rfl,?_,?_,?_,?_,?_,?_⟩
   all_goals simp [za,hlen2,e0,e5,e24,e25]
 ·obtain rfl:i=act.2.length:=by omega
  refine .inr ⟨by simp,?_⟩
  simp only [ju,qh,zZ,zx,thn_exit,zA,zAu,if_true]
  refine ze (tk:=[]) (by kernel_rfl) ?_
  simp only [BA,Nat.reduceEqDiff,za,zAF,Nat.reduceLT,if_false,h5,hlen,hsc,hst,go_ret,zx,Fx]
  refine ⟨[srV m bs.length],?_,rfl,?_⟩
  ·simp [zt,za,hlen]
  ·simp only [Hz,zBc]
end Go.Proofs.YthohlnmcjkjeiaaGreatDoor
namespace Go.Vm
set_option maxRecDepth 100000
open Go
variable {cx:Cx} {takes:List Tmp} {dst:Option Tmp} {type:TypeId} {pos:String} {after:Array Edge} {guard:Option (Nat×Bool)} {env:List V} {H:Hp} {lk:List (Nat×Nat)} {df:List (V×List V)}
theorem wC {a b:TypeId} {x:Operand} (hu:cx.uq (kb a)=true) (hm:Nat.beq a b=false):cx.op takes ⟨dst,.convert a b x,type,pos,after,guard⟩ env H lk df=rdQ env H lk df (xr cx.P H a b (peek env x)):=by
 have hk:jO cx.P a b x env=none:=by
  unfold jO;rw [hm]
 simp only [Cx.op,hk,hu];cases xr cx.P H a b (peek env x)<;>rfl
def zkM (P:Program) (t:TypeId) (H:Hp) (ok:Bool):Option V->Option V->Option V
 | some m,some k=>match P.underlying t with
  | some (.map kt e)=>match P.underlying kt with
   | some kd=>match wH kd k with
    | true=>match yl H m with
     | some es=>match zb4 P e k es with
      | some (v,f)=>some (if ok then .tup [clr v,.bool f] else clr v)
      | none=>none
     | none=>none
    | false=>none
   | none=>none
  | _=>none
 | _,_=>none
theorem zcA {t : TypeId} {m k : Operand} {ok : Bool} : cx.op takes ⟨dst, .lookup t m k ok, type, pos, after, guard⟩ env H lk df = rdQ env H lk df (zkM cx.P t H ok (peek env m) (peek env k)) := by
  simp only [Cx.op];refine jK ?_;simp only [zD, zkM];cases peek env m with
  | none =>
    cases cx.P.underlying t with
    | none => rfl
    | some d => cases d <;> try rfl
                rename_i kt e;cases hu : cx.P.underlying kt <;> simp
  | some mv =>
    cases cx.P.underlying t with
    | none => cases peek env k <;> rfl
    | some d => cases d <;> try (cases peek env k <;> rfl)
                rename_i kt e;cases peek env k with
                | none => cases hu : cx.P.underlying kt <;> simp
                | some kv =>
                  cases hu : cx.P.underlying kt with
                  | none => simp [hu]
                  | some kd =>
                    simp only [hu, Option.bind_eq_bind, zAT];cases wH kd kv with
                    | false => rfl
                    | true =>
                      simp only [zAg, zAH, if_false];cases yl H mv with
                      | none => rfl
                      | some es =>
                        simp only [zAT];cases zb4 cx.P e kv es with
                        | none => rfl
                        | some q => rfl
theorem zet {t:TypeId}:cx.op takes ⟨dst,.makeMap t none,type,pos,after,guard⟩ env H lk df=some (.val (.map H.blks.length),⟨env,H.push (.map []),lk,df⟩):=by
 simp [Cx.op,zB]
theorem zbT {t:TypeId} {m k x:Operand} {b:Nat} {kv xv:V} {es es':List (V×V)} (h1:peek env m=some (.map b)) (h2:peek env k=some kv) (h3:peek env x=some xv) (hk:zeY cx.P t kv=true) (hb:H.get b=some (.map es)) (hs:zfK kv xv es=some es') (ht:(V.tup [kv,xv]).top<=b+1) :
  cx.op takes ⟨dst,.mapUpdate t m k x,type,pos,after,guard⟩ env H lk df=some (.skip,⟨env,H.set b (.map es'),lk,df⟩):=by
 simp only [Cx.op,h1,h2,h3,hk,zAg,zAH,if_false,zI,hb,hs,fL_eq,zR];rw [v4 ht]
end Go.Vm
namespace Go.Proofs.YthohlnmcjkjeiaaGreatDoor
open Go Go.Vm
variable {gl:Gl}
theorem bytesA_ok:∀ {l:List Nat},(∀ b∈l,b<256)->bytesA (l.map fun b=>V.int .u8 (b:Nat))=some l
 | [],_=>rfl
 | b::l,h=>by
  have hb:=h b (zAL ..);simp only [zAz,bytesA,bytesA_ok fun x hx=>h x (zAE _ hx),zAa]
  congr 2
  simp;omega
theorem chunk1:∀ {m:Nat} {l:List V},m<=l.length->xo false 1 m l=l.take m
 | 0,_,_=>rfl
 | m+1,[],h=>by simp at h
 | m+1,x::l,h=>by
  simp only [zAj] at h;simp only [xo,List.drop_succ_cons,zBo,List.take_succ_cons];rw [chunk1 (by omega)]
  rfl
theorem xg {H:Hp} {m w c:Nat} (hb:H.get c=some (.cells (bys m w) 5)):xr Tryz.prog H 205 9 (some (srV m c))=some (.str (byN m w)):=by
 have hcl:((bys m w).drop 0).map clr=bys m w:=by
  rw [zBo];simp only [bys,List.map_map];exact List.map_congr_left fun _ _=>rfl
 have he:jv Tryz.prog H 5 (.sr c 0 m m)=some (bys m w):=by
  simp only [jv,hb,sz5',ag5',Option.bind_eq_bind,zAT,hcl];rw [if_pos (by simp [v5,Nat.ble_eq]),chunk1 (by rw [v5];exact zAO _),zBN (by rw [v5];exact zAO _)]
 simp only [xr,ziL,u205,srV,he,jx,u9',u5',Option.bind_eq_bind,zAT];rw [bys,bytesA_ok zqB];rfl
def ka (m:Nat):Nat->List Nat->List (V×V)
 | _,[]=>[]
 | k,w::ws=>(.str (byN m w),.int .i64 (k:Nat))::ka m (k+1) ws
def qU (w:Nat):Nat->List Nat->Option Nat
 | _,[]=>none
 | k,x::xs=>if x=w then some k else qU w (k+1) xs
theorem ziy {m p q:Nat} (hp:p<2 ^ (8 * m)) (hq:q<2 ^ (8 * m)):zg6 (.str (byN m p)) (.str (byN m q))=some (q == p):=by
 simp only [zg6,zkC hp hq]
 congr 1
 exact zBU.2 ⟨fun h=>by simpa using (by simpa using h:p=q).symm,fun h=>by simpa using (by simpa using h:q=p).symm⟩
theorem ziz {m w:Nat} (hw:w<2 ^ (8 * m)):∀ {ws:List Nat} {k:Nat},(∀ x∈ws,x<2 ^ (8 * m))->zcE (.str (byN m w)) (ka m k ws)=some ((qU w k ws).map fun i=>.int .i64 (i:Nat))
 | [],_,_=>rfl
 | x::ws,k,h=>by
  simp only [ka,zcE,ziy hw (h x (zAL ..)),qU]
  by_cases e:x=w
  ·simp [e]
  ·have:(x == w)=false:=by simpa using e
   simp only [this,if_neg e];exact ziz hw fun y hy=>h y (zAE _ hy)
theorem zgY {m w:Nat} (hw:w<2 ^ (8 * m)):∀ {ws:List Nat} {k:Nat},(∀ x∈ws,x<2 ^ (8 * m))->qU w k ws=none->zfK (.str (byN m w)) (.int .i64 ((k+ws.length:Nat):Int)) (ka m k ws)=some (ka m k (ws++[w]))
 | [],_,_,_=>rfl
 | x::ws,k,h,hn=>by
  simp only [qU] at hn;split at hn
  ·cases hn
  ·rename_i e;have:(x == w)=false:=by simpa using e
   simp only [ka,zfK,ziy hw (h x (zAL ..)),this,zAj,zA6];rw [show k+(ws.length+1)=(k+1)+ws.length by omega,zgY hw (fun y hy=>h y (zAE _ hy)) hn]
   rfl
theorem zeu {m:Nat}:∀ {ws:List Nat} {k:Nat},(ka m k ws).length=ws.length
 | [],_=>rfl
 | _::ws,k=>by simp [ka,zeu]
theorem u207':Tryz.prog.underlying 207=some (.map 9 3):=by kernel_rfl
theorem zev {H:Hp} {m w d:Nat} {ws:List Nat} (hw:w<2 ^ (8 * m)) (hws:∀ x∈ws,x<2 ^ (8 * m)) (hb:H.get d=some (.map (ka m 0 ws))) :
  zkM Tryz.prog 207 H true (some (.map d)) (some (.str (byN m w)))=some (.tup [.int .i64 (((qU w 0 ws).getD 0:Nat):Int),.bool (qU w 0 ws).isSome]):=by
 simp only [zkM,u207',u9',wH,yl,hb,zb4,ziz hw hws];cases qU w 0 ws with
 | none=>simp [z3w,clr]
 | some i=>simp [clr]
theorem znS {s:List Nat}:zeY Tryz.prog 207 (.str s)=true:=by
 simp only [zeY,u207',u9',wH]
theorem zkN {H:Hp} {d:Nat} {es:List (V×V)} (hb:H.get d=some (.map es)):qH Tryz.prog H 207 (.map d)=some ((es.length:Nat):Int):=by
 simp only [qH,u207',hb]
end Go.Proofs.YthohlnmcjkjeiaaGreatDoor
namespace Go.Proofs.YthohlnmcjkjeiaaGreatDoor
set_option maxRecDepth 100000
open Go Go.Vm
variable {gl:Gl}
def mkC (f:A2.F) (xs cls:List V) (ld:V):List V:=A2.qv f.s::A2.iv f.r::A2.rv f.f::A2.rv f.n::zp 1 205 xs::(cls++[ld])
def kO (es:List (Nat×Nat)) (b:Nat) (v:V):List (Nat×Nat):=if v.top<=b+1 then es else (b,v.top)::es
theorem edge_eq {B:List Blk} {es:List (Nat×Nat)} {b:Nat} {v:V}:Hp.edge ⟨B,es⟩ b v=⟨B,kO es b v⟩:=by
 unfold Hp.edge kO;split<;>rfl
section
variable {P:Program} {t n:TypeId} {B:List Blk} {off bm:Nat} {cs:List V} {ty e:TypeId} {xs ys:List V} {env:List V} {df:List (V×List V)} {es:List (Nat×Nat)}
theorem zac (ha:qC P t=some false) (hb:nth B bm=some (.cells cs ty)) (hn:nth cs off=some (zp n e xs)) :
  x6 P t env ⟨B,es⟩ [] df (some (.ptr bm off))=some (.val (zp n e xs),⟨env,⟨B.set bm (.cells (cs.set off (lkL n xs)) ty),es⟩,kR bm off xs,df⟩):=by
 rw [znv ha (show Hp.get ⟨B,es⟩ bm=_ from hb) hn];rfl
theorem zaw (hs:zy P t=some 1) (hlt:bm<B.length) (ho:off<cs.length) :
  qZ P t ⟨B.set bm (.cells (cs.set off (lkL n xs)) ty),es⟩ (kR bm off xs) df (some (zp n e ys,env)) (some (.ptr bm off))=some (.skip,⟨env,⟨B.set bm (.cells (cs.set off (zp n e ys)) ty),kO es bm (zp n e ys)⟩,kR bm off xs,df⟩):=by
 rw [zT hs (show Hp.get ⟨_,es⟩ bm=some (.cells (cs.set off (lkL n xs)) ty) by show nth _ _=_;simp [zd,hlt]) zkA (by rw [zei];rfl) (by rw [zAF];omega) (zio ho)]
 simp only [Hp.set,List.set_set,zei,Vm.storeCells,edge_eq]
end
theorem ag30':qC Tryz.prog 30=some true:=by kernel_rfl
theorem sz30':zy Tryz.prog 30=some 4:=by kernel_rfl
theorem fo30_3:ji Tryz.prog 30 3=some 3:=by kernel_rfl
theorem r201:RowT Tryz.prog 201 205 1 24:=⟨by kernel_rfl,by kernel_rfl,by kernel_rfl,by decide,by kernel_rfl,by kernel_rfl,by kernel_rfl⟩
theorem znT (f:A2.F):(A2.fc f).map clr=A2.fc f:=by
 simp [A2.fc,A2.clr_qv,A2.clr_iv,A2.clr_rv]
theorem zqJ {f:A2.F} {env:List V} (h:nth env 17=some (A2.fv f)):kV Tryz.prog 204 #[(0,.tmp 17)] env=some (.agg (mkC f [] (List.replicate 256 (.int .i64 0)) .snil)):=by
 rw [zbl (env2:=List.replicate 17 .junk++[A2.fv f]) (xs:=[.tmp 17]) (fun t ht=>?_) (by simp)]
 ·kernel_rfl
 ·have:t=17:=by simpa using ht
  subst this;rw [<- zd,h];rfl
theorem zpq {f:A2.F} {a0 a1 a2 a3 a4 a5 a6 a7 a8 a9 a10 a11 a12 a13 a14 a15 a16:V} {r:List V}:kV Tryz.prog 204 #[(0,.tmp 17)] (a0::a1::a2::a3::a4::a5::a6::a7::a8::a9::a10::a11::a12::a13::a14::a15::a16::A2.fv f::r)=some (.agg (mkC f [] (List.replicate 256 (.int .i64 0)) .snil)):=zqJ rfl
theorem zpr {f:A2.F}:(mkC f [] (List.replicate 256 (.int .i64 0)) .snil).map clr=mkC f [] (List.replicate 256 (.int .i64 0)) .snil:=by
 simp only [mkC,zp,zAz,List.map_append,List.map_replicate,List.map_nil,A2.clr_qv,A2.clr_iv,A2.clr_rv,clr_snil,jt]
def zbU (r:A2.Ints):Nat:=vG r.2 0
def hbN (bs:List Blk) (f:A2.F) (xs cls:List V) (ld:V) (rest:List Blk):List Blk:=bs++(.cells (A2.fc f) 30::.cells (mkC f xs cls ld) 204::rest)
def vJ (m:Nat) (rows:List A2.Ints):List Blk:=rows.map fun r=>.cells (bys m (zbU r)) 5
def yj (m b k:Nat):List V:=(List.range k).map fun j=>srV m (b+j)
section
variable {bs:List Blk} {f:A2.F} {xs cls xs' cls':List V} {ld ld':V} {rest:List Blk} {x:Blk} {i:Nat}
theorem zax:(hbN bs f xs cls ld rest).length=bs.length+2+rest.length:=by simp [hbN];omega
theorem hbN_A:nth (hbN bs f xs cls ld rest) bs.length=some (.cells (A2.fc f) 30):=by
 rw [hbN,zd,zAP (zAO _)];simp
theorem hbN_M:nth (hbN bs f xs cls ld rest) (bs.length+1)=some (.cells (mkC f xs cls ld) 204):=by
 rw [hbN,zd,zAP (by omega)];simp
theorem hbN_R:nth (hbN bs f xs cls ld rest) (bs.length+2+i)=nth rest i:=by
 rw [hbN,zd,zd,zAP (by omega),show bs.length+2+i - bs.length=i+1+1 by omega];simp
theorem zew:(hbN bs f xs cls ld rest).set (bs.length+1) (.cells (mkC f xs' cls' ld') 204)=hbN bs f xs' cls' ld' rest:=by
 rw [hbN,zA5 _ _ (by omega)];simp [hbN]
theorem hbN_push:hbN bs f xs cls ld rest++[x]=hbN bs f xs cls ld (rest++[x]):=by simp [hbN]
theorem zbV:(hbN bs f xs cls ld rest).set (bs.length+2+i) x=hbN bs f xs cls ld (rest.set i x):=by
 rw [hbN,zA5 _ _ (by omega),show bs.length+2+i - bs.length=i+1+1 by omega];simp [hbN]
end
theorem zkO {rs:List Blk} {x y:Blk} {i:Nat} (h:rs.length=i):(rs++[x]).set i y=rs++[y]/\nth (rs++[x]) i=some x:=by
 subst h;constructor
 ·rw [zA5 _ _ (zAO _)];simp
 ·rw [zd,zAP (zAO _)];simp
theorem znU {env:List V} {t:Nat} {r:A2.Ints}:qE env t (some (A2.iv r))=some (A2.iv r,env):=by
 rcases Sx.lv_cases 1 r.1 (r.2.map A2.ie) with e|⟨_,e⟩<;>rw [A2.iv,e]<;>rfl
theorem zlP {m b k:Nat}:yj m b (k+1)=yj m b k++[srV m (b+k)]:=by simp [yj,List.range_succ]
theorem zlQ {m k:Nat} {rows:List A2.Ints} {r:A2.Ints} (h:rows[k]?=some r):vJ m (rows.take (k+1))=vJ m (rows.take k)++[.cells (bys m (zbU r)) 5]:=by
 rw [List.take_add_one,h];simp [vJ]
def wyP (ss:List A2.Q4) (y:Nat):Nat->Nat
 | 0=>0
 | k+1=>match ss[k]? with
  | some s=>if zc4 s y then wyP ss y k ||| 2 ^ k else wyP ss y k
  | none=>wyP ss y k
def mkS (w:Nat->Nat):Nat->List Nat×List Nat×List Nat
 | 0=>([],[],[])
 | y+1=>match qU (w y) 0 (mkS w y).1 with
  | some i=>((mkS w y).1,(mkS w y).2.1++[i],(mkS w y).2.2)
  | none=>((mkS w y).1++[w y],(mkS w y).2.1++[(mkS w y).1.length],(mkS w y).2.2++[y])
def yH (w:Nat->Nat) (y:Nat):List V:=(mkS w y).2.1.map (fun i=>.int .i64 (i:Nat))++List.replicate (256 - y) (.int .i64 0)
def ldL (w:Nat->Nat) (y:Nat):V:=zp 1 5 ((mkS w y).2.2.map fun b=>.int .u8 (b:Nat))
theorem zay {w:Nat->Nat}:∀ y,(mkS w y).2.1.length=y
 | 0=>rfl
 | y+1=>by
  simp only [mkS];split<;>simp [zay y]
theorem zbW {w:Nat->Nat} {y:Nat} (h:y<=256):(yH w y).length=256:=by simp [yH,zay];omega
theorem znV {ss:List A2.Q4} {y m:Nat}:∀ k,k<=8 * m->wyP ss y k<2 ^ (8 * m)
 | 0,_=>Nat.pow_pos (by decide)
 | k+1,h=>by
  have h0:=znV (ss:=ss) (y:=y) (m:=m) k (by omega)
  simp only [wyP];split
  ·split
   ·exact Nat.or_lt_two_pow h0 (Nat.pow_lt_pow_right (by decide) (by omega))
   ·exact h0
  ·exact h0
theorem znW {rs js:List Blk} {x y:Blk} {i:Nat} (h:rs.length=i):(rs++(x::js)).set i y=rs++(y::js)/\nth (rs++(x::js)) i=some x:=by
 subst h;constructor
 ·rw [zA5 _ _ (zAO _)];simp
 ·rw [zd,zAP (zAO _)];simp
theorem zcB {env:List V} {t b:Nat}:qE env t (some (.map b))=some (.map b,env):=rfl
theorem kP {b:Nat}:clr (.map b)=.map b:=rfl
theorem ziA {w:Nat->Nat} {y c:Nat} (h:y<256) (hc:(mkS w (y+1)).2.1=(mkS w y).2.1++[c]):(yH w y).set y (.int .i64 (c:Nat))=yH w (y+1):=by
 unfold yH;rw [hc,List.map_append,zA5 _ _ (by simp [zay]),show 256 - y=(256 - (y+1))+1 by omega,zBe]
 simp [zay]
theorem u202':Tryz.prog.underlying 202=some (.array 256 3):=by kernel_rfl
theorem zjw {b y:Nat} (h:y<256):zr Tryz.prog 202 (.ptr b 5) ((y:Nat):Int)=some (.ptr b (5+y)):=by
 simp only [zr,u202',sz3w];rw [if_pos (by omega),zAd,zBz]
theorem zps {f:A2.F} {xs cls:List V} {ld v:V} {y:Nat} (h:y<cls.length):(mkC f xs cls ld).set (5+y) v=mkC f xs (cls.set y v) ld:=by
 rw [Nat.add_comm 5 y];simp only [mkC,zAN];rw [List.set_append_left _ _ h]
theorem zkP {f:A2.F} {xs cls:List V} {ld:V} {y:Nat} (h:y<cls.length):(mkC f xs cls ld)[5+y]?=cls[y]?:=by
 rw [Nat.add_comm 5 y];simp only [mkC,zBF];rw [zAR h]
theorem znX {w:Nat->Nat} {y i:Nat} (h:i<(yH w y).length):∃ z,(yH w y)[i]?=some (.int .i64 z):=by
 have hall:∀ v∈yH w y,∃ z,v=.int .i64 z:=by
  intro v hv;unfold yH at hv;rcases zA3.1 hv with hv|hv
  ·obtain ⟨a,_,ha⟩:=zAo.1 hv;exact ⟨_,ha.symm⟩
  ·exact ⟨0,(List.mem_replicate.1 hv).2⟩
 obtain ⟨z,hz⟩:=hall _ (List.getElem_mem h);exact ⟨z,by rw [zAS h,hz]⟩
theorem znY {f:A2.F} {xs cls:List V} {ld:V} (h:cls.length=256):nth (mkC f xs cls ld) 261=some ld:=by
 rw [zd,show 261=5+256 from rfl,Nat.add_comm];simp only [mkC,zBF];rw [zAP (by omega),h];rfl
theorem znZ {f:A2.F} {xs cls:List V} {ld v:V} (h:cls.length=256):(mkC f xs cls ld).set 261 v=mkC f xs cls v:=by
 rw [show 261=256+5 from rfl];simp only [mkC,zAN];rw [zA5 _ _ (by omega),h];rfl
theorem r78:RowT Tryz.prog 78 5 1 1:=⟨by kernel_rfl,by kernel_rfl,by kernel_rfl,by decide,by kernel_rfl,by kernel_rfl,by kernel_rfl⟩
theorem ag78':qC Tryz.prog 78=some false:=by kernel_rfl
theorem zcX {w:Nat->Nat}:∀ y,(mkS w y).2.2.length<=y/\(mkS w y).1.length<=y
 | 0=>by simp [mkS]
 | y+1=>by
  have:=zcX (w:=w) y;simp only [mkS];split
  ·exact ⟨zBt this.1,zBt this.2⟩
  ·simp only [zAi,List.length_singleton];omega
theorem clr_tup {l:List V}:clr (.tup l)=.tup l:=rfl
theorem sz50w:zy Tryz.prog 50=some 4:=by kernel_rfl
theorem z50w:zU Tryz.prog 50=some (.agg [.int .u64 0,.int .u64 0,.int .u64 0,.int .u64 0]):=by kernel_rfl
theorem zjx {y:Nat} (h:y<256):jx Tryz.prog 3 5 (.int .i64 (y:Nat))=some (.int .u8 (y:Nat)):=by
 simp only [jx,u3',u5',Option.bind_eq_bind,zAT,zbQ h]
theorem zgZ (hg:GS gl) {n m:Nat} {f:A2.F} (hns:f.s.2.length<2 ^ 30) (hnf:f.f.2.length<2 ^ 30) (hnn:f.n.2.length<2 ^ 30) (hmm:m=(f.s.2.length+f.f.2.length) / 8+1) (hln:f.n.2.length<n+1) (hls:f.s.2.length<n+1) (hn:300<=n)
  (hr:∀ row∈f.n.2,row.2.length<n+1/\row.2.length<2 ^ 60/\∀ z∈row.2,0<=z/\z.toNat<f.s.2.length+f.f.2.length) (hs:∀ q∈f.s.2,QOk q) {bs:List Blk} {es:List (Nat×Nat)} :
  ∃ junk es',zk Tryz.prog gl (n+1+1) 73 [A2.fv f] ⟨bs,es⟩=some (.ret (.ptr (bs.length+1) 0),⟨hbN bs f (yj m (bs.length+2) f.n.2.length) (yH (fun y=>wyP f.s.2 y f.s.2.length) 256) (ldL (fun y=>wyP f.s.2 y f.s.2.length) 256) (vJ m f.n.2++junk),es'⟩):=by
 suffices hmain:(go ⟨Tryz.prog,gl,zk Tryz.prog gl (n+1),uqS⟩ (n+1) (Fx Tryz.prog Tryz.f73.results.toList fun w H1=>w=.ptr (bs.length+1) 0/\∃ junk es',H1=⟨hbN bs f (yj m (bs.length+2) f.n.2.length) (yH (fun y=>wyP f.s.2 y f.s.2.length) 256) (ldL (fun y=>wyP f.s.2 y f.s.2.length) 256) (vJ m f.n.2++junk),es'⟩) [.c (Tryz.f73.body.getD .skip)] .normal ⟨[A2.fv f]++List.replicate 112 (.tup []),⟨bs,[]⟩,[],[]⟩) by
  obtain ⟨w,H1,h0,rfl,junk,es',rfl⟩:=z0 (gl:=gl) (f:=73) (bs:=bs) (es:=es) (args:=[A2.fv f]) (n:=n+1) (hg.hk _ _ (by decide)) (fun H=>hg.hk2 _ _ _ _ (by decide)) Tryz.func73 rfl (by rw [hg.uq];exact hmain)
  exact ⟨junk,es'++es,by rw [h0,yF (by simp only [V.top];omega)]⟩
 have hfk:okC (A2.fv f)=true:=rfl;have hft:∀ env t,qE env t (some (A2.fv f))=some (A2.fv f,env):=fun _ _=>rfl;have hfl:V.laid (A2.fv f)=A2.fc f:=znT f;have hfc:clr (A2.fv f)=A2.fv f:=rfl;simp only [Tryz.f73,zAs,zA];refine ze (tk:=[]) (by kernel_rfl) ?_
 simp only [BA,zc,zh,zAQ,zAN,List.replicate,hft,jG hfk,hfl];refine ze (tk:=[]) (by kernel_rfl) ?_
 have hg1:(⟨bs++[.cells (A2.fc f) 30],[]⟩:Hp).get bs.length=some (.cells (A2.fc f) 30):=by
  show nth _ _=_;rw [zd,zAP (zAO _)];simp
 have lfv:zn Tryz.prog ⟨bs++[.cells (A2.fc f) 30],[]⟩ gl.g 30 (.ptr bs.length 0)=some (A2.fv f):=by
  rw [qF,hg1,qi,jj,ag30',sz30'];simp [xK,A2.fv,A2.fc]
 have hbt:∀ env t,qE env t (some (.agg (mkC f [] (List.replicate 256 (.int .i64 0)) .snil)))=some (.agg (mkC f [] (List.replicate 256 (.int .i64 0)) .snil),env):=fun _ _=>rfl;have hml:V.laid (.agg (mkC f [] (List.replicate 256 (.int .i64 0)) .snil))=mkC f [] (List.replicate 256 (.int .i64 0)) .snil:=zpr;have hmk:okC (V.agg (mkC f [] (List.replicate 256 (.int .i64 0)) .snil))=true:=rfl
 have hmc:clr (V.agg (mkC f [] (List.replicate 256 (.int .i64 0)) .snil))=V.agg (mkC f [] (List.replicate 256 (.int .i64 0)) .snil):=rfl;simp only [BA,zc,zh,zi,zAQ,zAN,lfv,hfc,zpq,hbt,jG hmk,hml];obtain ⟨cls0,hcls0⟩:∃ c:List V,c=List.replicate 256 (.int .i64 0):=⟨_,rfl⟩;rw [<- hcls0];have hcl0:cls0.length=256:=by rw [hcls0];simp
 have hH0:bs++[Blk.cells (A2.fc f) 30,.cells (mkC f [] cls0 .snil) 204]=hbN bs f [] cls0 .snil []:=rfl;rw [hH0];have lS:∀ xs cls ld rest e,zn Tryz.prog ⟨hbN bs f xs cls ld rest,e⟩ gl.g 26 (.ptr bs.length 0)=some (A2.qv f.s):=fun _ _ _ _ _=>zu ag26' hbN_A rfl
 have lF:∀ xs cls ld rest e,zn Tryz.prog ⟨hbN bs f xs cls ld rest,e⟩ gl.g 28 (.ptr bs.length 2)=some (A2.rv f.f):=fun _ _ _ _ _=>zu ag28' hbN_A rfl;have lN:∀ xs cls ld rest e,zn Tryz.prog ⟨hbN bs f xs cls ld rest,e⟩ gl.g 28 (.ptr bs.length 3)=some (A2.rv f.n):=fun _ _ _ _ _=>zu ag28' hbN_A rfl;refine ze (tk:=[]) (by kernel_rfl) ?_
 simp only [BA,zh,zi,zAQ,zAN,lS,lF,fo30_0,fo30_2,A2.clr_qv,A2.clr_rv,xe,zgW,zeh (show f.s.2.length+f.f.2.length<2 ^ 60 by omega)]
 refine ze (tk:=[]) (by kernel_rfl) ?_
 simp only [BA,zh,zi,zAQ,zAN,lN,fo30_3,A2.clr_rv,zgW];have hsc:∀ c,clr (srV m c)=srV m c:=fun _=>rfl;have hst:∀ c env t,qE env t (some (srV m c))=some (srV m c,env):=fun _ _ _=>rfl
 refine jU (fun k s=>∃ i env e,k+i=f.n.2.length/\s=⟨env,⟨hbN bs f (yj m (bs.length+2) i) cls0 .snil (vJ m (f.n.2.take i)),e⟩,[],[]⟩/\env.length=113/\nth env 1=some (.ptr bs.length 0)/\nth env 3=some (.ptr (bs.length+1) 0)/\nth env 4=some (.int .i64 ((f.s.2.length+f.f.2.length:Nat):Int))/\nth env 28=some (A2.rv f.n)/\nth env 29=some (.int .i64 (f.n.2.length:Nat))/\nth env 30=some (.int .i64 (i:Nat))) f.n.2.length hln ⟨0,_,_,rfl,rfl,rfl,rfl,rfl,rfl,rfl,rfl,rfl⟩ ?_
 rintro k s ⟨i,env,e,hki,rfl,hlen,h1,h3,h4,h28,h29,h30⟩;simp only [zA];refine ze (tk:=[]) (by kernel_rfl) ?_
 simp only [BA,za,Nat.reduceLT,h29,h30,hlen,je]
 by_cases hi:i<f.n.2.length
 ·refine .inl ⟨by simp;omega,?_⟩
  obtain ⟨row,hrow⟩:∃ row,f.n.2[i]?=some row:=⟨_,zAS hi⟩;obtain ⟨hl1,hl2,hz⟩:=hr row (zAb hrow);refine ze (tk:=[]) (by kernel_rfl) ?_
  simp only [BA,Nat.reduceEqDiff,za,zAF,Nat.reduceLT,if_false,h28,h30,hlen,A2.clr_rv,A2.clr_iv,znR hrow,zpW,znU];refine ze (tk:=[]) (by kernel_rfl) ?_
  have hxl:(vJ m (f.n.2.take i)).length=i:=by simp [vJ];omega
  obtain ⟨bi,hbi⟩:∃ x,x=bs.length+2+i:=⟨_,rfl⟩;have hnc:Cx.callF ⟨Tryz.prog,gl.g,zk Tryz.prog gl (n+1),uqS⟩ 108 [.int .i64 ((f.s.2.length+f.f.2.length:Nat):Int)] ⟨hbN bs f (yj m (bs.length+2) i) cls0 .snil (vJ m (f.n.2.take i)),e⟩=some (.val (srV m bi),⟨hbN bs f (yj m (bs.length+2) i) cls0 .snil (vJ m (f.n.2.take i)++[.cells (bys m 0) 5]),e⟩):=by
   refine zw Tryz.func108 rfl ?_;have:=yG hg (n:=n) (k:=f.s.2.length+f.f.2.length) (by omega) (bs:=hbN bs f (yj m (bs.length+2) i) cls0 .snil (vJ m (f.n.2.take i))) (es:=e)
   rw [<- hmm,hbN_push,zax,hxl,<- hbi] at this;exact this
  simp only [BA,Nat.reduceEqDiff,za,zAF,Nat.reduceLT,if_false,h4,hlen,hnc,hst];refine ze (tk:=[]) (by kernel_rfl) ?_
  simp only [BA,Nat.reduceEqDiff,za,zAF,Nat.reduceLT,if_false,hlen,A2.clr_iv,zju]
  have hadd:∀ q (z:Int),0<=z->z.toNat<f.s.2.length+f.f.2.length->Cx.callF ⟨Tryz.prog,gl.g,zk Tryz.prog gl (n+1),uqS⟩ 109 [srV m bi,.int .i64 z] ⟨hbN bs f (yj m (bs.length+2) i) cls0 .snil (vJ m (f.n.2.take i)++[.cells (bys m q) 5]),e⟩=some (.val (.tup []),⟨hbN bs f (yj m (bs.length+2) i) cls0 .snil (vJ m (f.n.2.take i)++[.cells (bys m (q ||| 2 ^ z.toNat)) 5]),e⟩):=fun q z h0 h1=>by
   refine zw Tryz.func109 rfl ?_;rw [hbi];have:=zep hg (n:=n) (k:=z.toNat) (m:=m) (p:=q) (b:=bs.length+2+i) (by omega) (by omega) (bs:=hbN bs f (yj m (bs.length+2) i) cls0 .snil (vJ m (f.n.2.take i)++[.cells (bys m q) 5])) (es:=e) (by rw [hbN_R];exact (zkO (y:=.cells (bys m q) 5) hxl).2)
   rw [show ((z.toNat:Nat):Int)=z by omega,zbV,(zkO hxl).1] at this
   exact this
  refine jU (fun k2 s=>∃ j env,k2+j=row.2.length/\s=⟨env,⟨hbN bs f (yj m (bs.length+2) i) cls0 .snil (vJ m (f.n.2.take i)++[.cells (bys m (vG (row.2.take j) 0)) 5]),e⟩,[],[]⟩/\env.length=113/\nth env 1=some (.ptr bs.length 0)/\nth env 3=some (.ptr (bs.length+1) 0)/\nth env 4=some (.int .i64 ((f.s.2.length+f.f.2.length:Nat):Int))/\nth env 28=some (A2.rv f.n)/\nth env 29=some (.int .i64 (f.n.2.length:Nat))/\nth env 30=some (.int .i64 (i:Nat))/\nth env 7=some (srV m bi)/\nth env 36=some (A2.iv row)/\nth env 37=some (.int .i64 (row.2.length:Nat))/\nth env 38=some (.int .i64 (j:Nat))) row.2.length hl1 ?_ ?_
  ·refine ⟨0,_,rfl,rfl,?_,?_,?_,?_,?_,?_,?_,?_,?_,?_,?_⟩<;>simp [za,hlen,h1,h3,h4,h28,h29,h30]
  rintro k2 s ⟨j,env2,hkj,rfl,hlen2,e1,e3,e4,e28,e29,e30,e7,e36,e37,e38⟩;simp only [zA];refine ze (tk:=[]) (by kernel_rfl) ?_
  simp only [BA,za,Nat.reduceLT,e37,e38,hlen2,je]
  by_cases hj:j<row.2.length
  ·refine .inl ⟨by simp;omega,?_⟩
   obtain ⟨z,hzj⟩:∃ z,row.2[j]?=some z:=⟨_,zAS hj⟩;obtain ⟨hz0,hz1⟩:=hz z (zAb hzj);have htk2:row.2.take (j+1)=row.2.take j++[z]:=by rw [List.take_add_one,hzj];rfl
   have hcl:=fun q=>hadd q z hz0 hz1;refine ze (tk:=[]) (by kernel_rfl) ?_
   simp only [BA,Nat.reduceEqDiff,za,zAF,Nat.reduceLT,if_false,e36,e38,hlen2,A2.clr_iv,zjv hzj,znQ];refine ze (tk:=[]) (by kernel_rfl) ?_
   simp only [BA,Nat.reduceEqDiff,za,zAF,Nat.reduceLT,if_false,e7,hlen2,hsc,hcl];refine ze (tk:=[]) (by kernel_rfl) ?_
   simp only [BA,Nat.reduceEqDiff,za,zAF,Nat.reduceLT,if_false,e38,hlen2,q9 (show j<2 ^ 60 by omega),zx,thn_normal]
   rw [show vG (row.2.take j) 0 ||| 2 ^ z.toNat=vG (row.2.take (j+1)) 0 by rw [htk2,zes]]
   refine ⟨row.2.length - 1 - j,by omega,j+1,_,by omega,rfl,?_,?_,?_,?_,?_,?_,?_,?_,?_,?_,?_⟩
   all_goals simp [za,hlen2,e1,e3,e4,e28,e29,e30,e7,e36,e37]
  ·refine .inr ⟨by simp;omega,?_⟩
   obtain rfl:j=row.2.length:=by omega
   simp only [ju,qh,zZ,zx,thn_exit,zAu,if_true]
   rw [zBc,show vG row.2 0=zbU row from rfl,<- zlQ hrow];obtain ⟨xs,hxs⟩:∃ xs,xs=yj m (bs.length+2) i:=⟨_,rfl⟩;obtain ⟨rb,hrb⟩:∃ rb,rb=vJ m (f.n.2.take (i+1)):=⟨_,rfl⟩;have hxsl:xs.length=i:=by rw [hxs];simp [yj]
   rw [<- hxs,<- hrb];have hMl:bs.length+1<(hbN bs f xs cls0 .snil rb).length:=by rw [zax];omega
   have hlod:∀ env,x6 Tryz.prog 201 env ⟨hbN bs f xs cls0 .snil rb,e⟩ [] [] (some (.ptr (bs.length+1) 4))=some (.val (zp 1 205 xs),⟨env,⟨(hbN bs f xs cls0 .snil rb).set (bs.length+1) (.cells ((mkC f xs cls0 .snil).set 4 (lkL 1 xs)) 204),e⟩,kR (bs.length+1) 4 xs,[]⟩):=fun env=>zac ag201' hbN_M rfl;have hbsl:=r201.bsl (v:=srV m bi) rfl rfl
   have happ:∀ H,zV Tryz.prog H 201 (zp 1 205 xs) (.sl 1 [srV m bi] .no)=some (zp 1 205 (xs++[srV m bi])):=fun H=>wc r201 (by simp) (roomA_of (by simp [hxsl];omega) (by simp [hxsl];omega))
   have hsto:∀ env,qZ Tryz.prog 201 ⟨(hbN bs f xs cls0 .snil rb).set (bs.length+1) (.cells ((mkC f xs cls0 .snil).set 4 (lkL 1 xs)) 204),e⟩ (kR (bs.length+1) 4 xs) [] (some (zp 1 205 (xs++[srV m bi]),env)) (some (.ptr (bs.length+1) 4))=some (.skip,⟨env,⟨hbN bs f (xs++[srV m bi]) cls0 .snil rb,kO e (bs.length+1) (zp 1 205 (xs++[srV m bi]))⟩,kR (bs.length+1) 4 xs,[]⟩):=fun env=>by
    rw [zaw r201.st hMl (by simp [mkC])]
    rw [show (mkC f xs cls0 .snil).set 4 (zp 1 205 (xs++[srV m bi]))=mkC f (xs++[srV m bi]) cls0 .snil from rfl,zew]
   refine ze (tk:=[50]) (by kernel_rfl) ?_
   simp only [BA,Nat.reduceEqDiff,za,zAF,Nat.reduceLT,if_false,e3,e7,hlen2,fo204_1,hsc,hlod,hbsl,zeU,happ,hsto,vd (cx:=⟨Tryz.prog,gl.g,zk Tryz.prog gl (n+1),uqS⟩) (show uqT Tryz.prog uqS 201=false by kernel_rfl)]
   have hx1:xs++[srV m bi]=yj m (bs.length+2) (i+1):=by rw [zlP,hxs,hbi]
   rw [hx1,hrb];refine ze (tk:=[]) (by kernel_rfl) ?_
   simp only [BA,Nat.reduceEqDiff,za,zAF,Nat.reduceLT,if_false,e30,hlen2,q9 (show i<2 ^ 60 by omega),zx,thn_normal]
   refine ⟨f.n.2.length - 1 - i,by omega,i+1,_,_,by omega,rfl,?_,?_,?_,?_,?_,?_,?_⟩
   all_goals simp [za,hlen2,e1,e3,e4,e28,e29]
 ·obtain rfl:i=f.n.2.length:=by omega
  refine .inr ⟨by simp,?_⟩
  simp only [ju,qh,zZ,zx,thn_exit,zA,zAu,if_true]
  have hrb:f.n.2.take f.n.2.length=f.n.2:=zBc;rw [hrb];obtain ⟨X,hX⟩:∃ X,X=yj m (bs.length+2) f.n.2.length:=⟨_,rfl⟩;obtain ⟨R,hR⟩:∃ R,R=vJ m f.n.2:=⟨_,rfl⟩;obtain ⟨mi,hmi⟩:∃ x,x=bs.length+2+R.length:=⟨_,rfl⟩;rw [<- hX,<- hR];obtain ⟨w,hw⟩:∃ w:Nat->Nat,w=fun y=>wyP f.s.2 y f.s.2.length:=⟨_,rfl⟩;have hwl:∀ y,w y<2 ^ (8 * m):=fun y=>by rw [hw];exact znV _ (by omega)
  have hls8:∀ y,∀ x∈(mkS w y).1,x<2 ^ (8 * m):=by
   intro y
   induction y with
   | zero=>intro x hx;simp [mkS] at hx
   | succ y ih =>
    intro x hx;simp only [mkS] at hx;split at hx
    ·exact ih x hx
    ·rcases zA3.1 hx with hx|hx
     ·exact ih x hx
     ·rw [zAp.1 hx];exact hwl y
  refine ze (tk:=[]) (by kernel_rfl) ?_
  have hmlen:(hbN bs f X cls0 .snil R).length=mi:=by rw [zax,hmi]
  simp only [BA,zc,Nat.reduceEqDiff,za,zAF,Nat.reduceLT,if_false,hlen,zet,hmlen,hbN_push,zcB];refine ze (tk:=[]) (by kernel_rfl) ?_
  simp only [BA];have hini:hbN bs f X cls0 .snil (R++[.map []])=hbN bs f X (yH w 0) (ldL w 0) (R++(.map (ka m 0 (mkS w 0).1)::[])):=by
   rw [hcls0];rfl
  rw [hini];have gMap:∀ cls ld es j0 e,(⟨hbN bs f X cls ld (R++(.map es::j0)),e⟩:Hp).get mi=some (.map es):=fun cls ld es j0 e=>by
   show nth _ _=_;rw [hmi,hbN_R];exact (znW (y:=.map es) rfl).2
  refine jU (fun k s=>∃ y env e j0,k+y=256/\s=⟨env,⟨hbN bs f X (yH w y) (ldL w y) (R++(.map (ka m 0 (mkS w y).1)::j0)),e⟩,[],[]⟩/\env.length=113/\nth env 1=some (.ptr bs.length 0)/\nth env 3=some (.ptr (bs.length+1) 0)/\nth env 4=some (.int .i64 ((f.s.2.length+f.f.2.length:Nat):Int))/\nth env 10=some (.map mi)/\nth env 58=some (.int .i64 (y:Nat))) 256 (by omega) ?_ ?_
  ·refine ⟨0,_,_,[],rfl,rfl,?_,?_,?_,?_,?_,?_⟩<;>simp [za,hlen,h1,h3,h4]
  clear hini h1 h3 h4 h28 h29 h30 hlen lN;rintro k s ⟨y,env,e,j0,hky,rfl,hlen,h1,h3,h4,h10,h58⟩;simp only [zA];refine ze (tk:=[]) (by kernel_rfl) ?_
  simp only [BA,za,Nat.reduceLT,h58,hlen,je]
  by_cases hy:y<256
  ·refine .inl ⟨by simp;omega,?_⟩
   obtain ⟨cls,hcls⟩:∃ c,c=yH w y:=⟨_,rfl⟩;obtain ⟨ld,hld⟩:∃ c,c=ldL w y:=⟨_,rfl⟩;obtain ⟨pre,hpre⟩:∃ p,p=R++(.map (ka m 0 (mkS w y).1)::j0):=⟨_,rfl⟩;obtain ⟨pc,hpc⟩:∃ x,x=bs.length+2+pre.length:=⟨_,rfl⟩;rw [<- hcls,<- hld,<- hpre];refine ze (tk:=[]) (by kernel_rfl) ?_
   simp only [BA,Nat.reduceEqDiff,za,zAF,Nat.reduceLT,if_false,h58,hlen];have hnc:Cx.callF ⟨Tryz.prog,gl.g,zk Tryz.prog gl (n+1),uqS⟩ 108 [.int .i64 ((f.s.2.length+f.f.2.length:Nat):Int)] ⟨hbN bs f X cls ld pre,e⟩=some (.val (srV m pc),⟨hbN bs f X cls ld (pre++(.cells (bys m 0) 5::[])),e⟩):=by
    refine zw Tryz.func108 rfl ?_;have:=yG hg (n:=n) (k:=f.s.2.length+f.f.2.length) (by omega) (bs:=hbN bs f X cls ld pre) (es:=e)
    rw [<- hmm,hbN_push,zax,<- hpc] at this;exact this
   refine ze (tk:=[]) (by kernel_rfl) ?_
   simp only [BA,Nat.reduceEqDiff,za,zAF,Nat.reduceLT,if_false,h4,hlen,hnc,hst];refine ze (tk:=[]) (by kernel_rfl) ?_
   simp only [BA,Nat.reduceEqDiff,za,zAF,Nat.reduceLT,if_false,h1,hlen,lS,fo30_0,A2.clr_qv,xe]
   refine jU (fun k2 s=>∃ i env j1,k2+i=f.s.2.length/\s=⟨env,⟨hbN bs f X cls ld (pre++(.cells (bys m (wyP f.s.2 y i)) 5::j1)),e⟩,[],[]⟩/\env.length=113/\nth env 1=some (.ptr bs.length 0)/\nth env 3=some (.ptr (bs.length+1) 0)/\nth env 4=some (.int .i64 ((f.s.2.length+f.f.2.length:Nat):Int))/\nth env 10=some (.map mi)/\nth env 58=some (.int .i64 (y:Nat))/\nth env 11=some (.int .i64 (y:Nat))/\nth env 12=some (srV m pc)/\nth env 64=some (A2.qv f.s)/\nth env 65=some (.int .i64 (f.s.2.length:Nat))/\nth env 66=some (.int .i64 (i:Nat))) f.s.2.length hls ?_ ?_
   ·refine ⟨0,_,[],rfl,rfl,?_,?_,?_,?_,?_,?_,?_,?_,?_,?_,?_⟩<;>simp [za,hlen,h1,h3,h4,h10,h58]
   rintro k2 s ⟨i,env2,j1,hki2,rfl,hlen2,e1,e3,e4,e10,e58,e11,e12,e64,e65,e66⟩;simp only [zA];refine ze (tk:=[]) (by kernel_rfl) ?_
   simp only [BA,za,Nat.reduceLT,e65,e66,hlen2,je]
   by_cases hi2:i<f.s.2.length
   ·refine .inl ⟨by simp;omega,?_⟩
    obtain ⟨q,hq⟩:∃ q,f.s.2[i]?=some q:=⟨_,zAS hi2⟩;have hqk:=hs q (zAb hq);obtain ⟨rest,hrest⟩:∃ p,p=pre++(.cells (bys m (wyP f.s.2 y i)) 5::j1):=⟨_,rfl⟩;obtain ⟨ai,hai⟩:∃ x,x=bs.length+2+rest.length:=⟨_,rfl⟩;rw [<- hrest];have hal:(hbN bs f X cls ld rest).length=ai:=by rw [zax,hai]
    have hgz:∀ cs,(⟨hbN bs f X cls ld (rest++[.cells cs 50]),e⟩:Hp).get ai=some (.cells cs 50):=fun cs=>by
     show nth _ _=_;rw [hai,hbN_R];exact (zkO (y:=.cells cs 50) rfl).2
    have hqt:∀ env t,qE env t (some (A2.qe q))=some (A2.qe q,env):=fun _ _=>rfl;have hqc:clr (A2.qe q)=A2.qe q:=rfl;have hzc:V.cells (.agg [.int .u64 0,.int .u64 0,.int .u64 0,.int .u64 0])=[.int .u64 0,.int .u64 0,.int .u64 0,.int .u64 0]:=rfl
    have hsto:∀ env,qZ Tryz.prog 50 ⟨hbN bs f X cls ld (rest++[.cells [.int .u64 0,.int .u64 0,.int .u64 0,.int .u64 0] 50]),e⟩ [] [] (some (A2.qe q,env)) (some (.ptr ai 0))=some (.skip,⟨env,⟨hbN bs f X cls ld (rest++[.cells (A2.qe q).laid 50]),e⟩,[],[]⟩):=fun env=>by
     rw [zT sz50w (hgz _) rfl rfl (by simp) rfl,v4 (by simp [A2.qe,V.top,tops])]
     simp only [Hp.set];rw [hai,zbV,(zkO rfl).1];rfl
    refine ze (tk:=[]) (by kernel_rfl) ?_
    simp only [BA,zc,Nat.reduceEqDiff,za,zAF,Nat.reduceLT,if_false,e64,e66,hlen2,A2.clr_qv,znN hq,zpU,hqc,hqt,z50w,jI (show okC (V.agg [.int .u64 0,.int .u64 0,.int .u64 0,.int .u64 0])=true from rfl),hzc,hal,hbN_push,hsto];have hld50:zn Tryz.prog ⟨hbN bs f X cls ld (rest++[.cells (A2.qe q).laid 50]),e⟩ gl.g 50 (.ptr ai 0)=some (A2.qe q):=by
     rw [qF,hgz,qi,jj,ag50',sz50'];rfl
    have hhas:Cx.callF ⟨Tryz.prog,gl.g,zk Tryz.prog gl (n+1),uqS⟩ 110 [A2.qe q,.int .u8 (y:Nat)] ⟨hbN bs f X cls ld (rest++[.cells (A2.qe q).laid 50]),e⟩=some (.val (.bool (zc4 q y)),⟨hbN bs f X cls ld (rest++[.cells (A2.qe q).laid 50]),e⟩):=zw Tryz.func110 rfl (zkJ hg hqk hy);refine ze (tk:=[]) (by kernel_rfl) ?_
    simp only [BA,Nat.reduceEqDiff,za,zAF,Nat.reduceLT,if_false,e11,hlen2,hld50,hqc,vQ (a:=3) (b:=5) (hm:=rfl),show uqS (kb 3)=false from rfl,zjx hy,hhas];obtain ⟨Z,hZ⟩:∃ Z,Z=Blk.cells (A2.qe q).laid 50:=⟨_,rfl⟩;have hrz:∀ x,pre++(x::j1)++[Z]=pre++(x::(j1++[Z])):=fun x=>by simp
    rw [<- hZ];cases hh:zc4 q y with
    | true =>
     have hwy:wyP f.s.2 y (i+1)=wyP f.s.2 y i ||| 2 ^ i:=by simp [wyP,hq,hh]
     refine .inl ⟨by first|rfl|trivial,?_⟩
     have hadd:Cx.callF ⟨Tryz.prog,gl.g,zk Tryz.prog gl (n+1),uqS⟩ 109 [srV m pc,.int .i64 (i:Nat)] ⟨hbN bs f X cls ld (rest++[Z]),e⟩=some (.val (.tup []),⟨hbN bs f X cls ld (pre++(.cells (bys m (wyP f.s.2 y (i+1))) 5::(j1++[Z]))),e⟩):=by
      refine zw Tryz.func109 rfl ?_;rw [hrest,hrz,hpc,hwy];have:=zep hg (n:=n) (k:=i) (m:=m) (p:=wyP f.s.2 y i) (b:=bs.length+2+pre.length) (by omega) (by omega) (bs:=hbN bs f X cls ld (pre++(.cells (bys m (wyP f.s.2 y i)) 5::(j1++[Z])))) (es:=e) (by rw [hbN_R];exact (znW (y:=.cells (bys m 0) 5) rfl).2)
      rw [zbV,(znW rfl).1] at this;exact this
     refine ze (tk:=[]) (by kernel_rfl) ?_
     simp only [BA,Nat.reduceEqDiff,za,zAF,Nat.reduceLT,if_false,e12,hlen2,hsc,hadd];refine ze (tk:=[]) (by kernel_rfl) ?_
     simp only [BA,Nat.reduceEqDiff,za,zAF,Nat.reduceLT,if_false,e66,hlen2,q9 (show i<2 ^ 60 by omega),zx,thn_normal]
     refine ⟨f.s.2.length - 1 - i,by omega,i+1,_,_,by omega,rfl,?_,?_,?_,?_,?_,?_,?_,?_,?_,?_,?_⟩
     all_goals simp [za,hlen2,e1,e3,e4,e10,e58,e11,e12,e64,e65]
    | false =>
     have hwy:wyP f.s.2 y (i+1)=wyP f.s.2 y i:=by simp [wyP,hq,hh]
     refine .inr ⟨by first|rfl|trivial,?_⟩
     rw [hrest,hrz,<- hwy];refine ze (tk:=[]) (by kernel_rfl) ?_
     simp only [BA,Nat.reduceEqDiff,za,zAF,Nat.reduceLT,if_false,e66,hlen2,q9 (show i<2 ^ 60 by omega),zx,thn_normal]
     refine ⟨f.s.2.length - 1 - i,by omega,i+1,_,_,by omega,rfl,?_,?_,?_,?_,?_,?_,?_,?_,?_,?_,?_⟩
     all_goals simp [za,hlen2,e1,e3,e4,e10,e58,e11,e12,e64,e65]
   ·obtain rfl:i=f.s.2.length:=by omega
    refine .inr ⟨by simp,?_⟩
    simp only [ju,qh,zZ,zx,thn_exit,zA,zAu,if_true]
    have hwy:wyP f.s.2 y f.s.2.length=w y:=by rw [hw]
    rw [hwy];have hre:pre++(.cells (bys m (w y)) 5::j1)=R++(.map (ka m 0 (mkS w y).1)::(j0++(.cells (bys m (w y)) 5::j1))):=by rw [hpre];simp
    obtain ⟨j2,hj2⟩:∃ j,j=j0++(Blk.cells (bys m (w y)) 5::j1):=⟨_,rfl⟩;rw [hre,<- hj2];have gP:∀ xs cls ld es e,(⟨hbN bs f xs cls ld (R++(.map es::j2)),e⟩:Hp).get pc=some (.cells (bys m (w y)) 5):=fun xs cls ld es e=>by
     show nth _ _=_;rw [hpc,hbN_R,hpre,hj2];have:=(znW (rs:=R++(.map es::j0)) (js:=j1) (x:=.cells (bys m (w y)) 5) (y:=.cells (bys m (w y)) 5) (i:=(R++(.map (ka m 0 (mkS w y).1)::j0)).length) (by simp)).2
     rw [<- this];simp
    have hlk:=zev (hwl y) (hls8 y) (gMap cls ld (ka m 0 (mkS w y).1) j2 e);have hcl:cls.length=256:=by rw [hcls];exact zbW (by omega)
    refine ze (tk:=[]) (by kernel_rfl) ?_
    simp only [BA,Nat.reduceEqDiff,za,zAF,Nat.reduceLT,if_false,e10,e12,hlen2,hsc,kP,wC (cx:=⟨Tryz.prog,gl.g,zk Tryz.prog gl (n+1),uqS⟩) (a:=205) (b:=9) (show uqS (kb 205)=true from rfl) rfl,xg (gP X cls ld (ka m 0 (mkS w y).1) e),hlk,zcA,vx,clr_tup,zh,zi];have hmkl:∀ ld',(mkC f X cls ld').length=262:=fun ld'=>by simp [mkC,hcl]
    have hst30:∀ ld' es' e' env (c:Int),qZ Tryz.prog 3 ⟨hbN bs f X cls ld' (R++(.map es'::j2)),e'⟩ [] [] (some (.int .i64 c,env)) (some (.ptr (bs.length+1) (5+y)))=some (.skip,⟨env,⟨hbN bs f X (cls.set y (.int .i64 c)) ld' (R++(.map es'::j2)),e'⟩,[],[]⟩):=fun ld' es' e' env c=>by
     rw [zT sz3w (show Hp.get ⟨hbN bs f X cls ld' (R++(.map es'::j2)),e'⟩ (bs.length+1)=_ from hbN_M) rfl rfl (by rw [hmkl];omega) (zcw fun k hk=>by
      obtain rfl:k=0:=by omega
      obtain ⟨z,hz⟩:=znX (w:=w) (y:=y) (i:=y) (by rw [zbW (by omega)];omega)
      exact ⟨_,by rw [zBf,zkP (by rw [hcl];omega),hcls,hz],rfl⟩),v4 (by simp [V.top])]
     simp only [V.laid,Vm.storeCells,Hp.set];rw [zps (by rw [hcl];omega),zew]
    refine ze (tk:=[]) (by kernel_rfl) ?_
    cases hx:qU (w y) 0 (mkS w y).1 with
    | some ix =>
     have hm2:mkS w (y+1)=((mkS w y).1,(mkS w y).2.1++[ix],(mkS w y).2.2):=by simp only [mkS,hx]
     simp only [BA,Nat.reduceEqDiff,za,zAF,Nat.reduceLT,if_false,hlen2,Option.isSome_some,zAs,unA,zAg];refine .inr ?_;refine ze (tk:=[]) (by kernel_rfl) ?_
     simp only [BA,Nat.reduceEqDiff,za,zAF,Nat.reduceLT,if_false,e3,e11,hlen2,fo204_2,zjw hy,hst30];refine ze (tk:=[]) (by kernel_rfl) ?_
     simp only [BA,Nat.reduceEqDiff,za,zAF,Nat.reduceLT,if_false,e58,hlen2,q9 (show y<2 ^ 60 by omega),zx,thn_normal]
     rw [hcls,ziA hy (by rw [hm2]),hld,show ldL w y=ldL w (y+1) by unfold ldL;rw [hm2],show (mkS w y).1=(mkS w (y+1)).1 by rw [hm2]]
     refine ⟨256 - 1 - y,by omega,y+1,_,_,_,by omega,rfl,?_,?_,?_,?_,?_,?_⟩
     all_goals simp [za,hlen2,e1,e3,e4,e10]
    | none =>
     have hm2:mkS w (y+1)=((mkS w y).1++[w y],(mkS w y).2.1++[(mkS w y).1.length],(mkS w y).2.2++[y]):=by simp only [mkS,hx]
     simp only [BA,Nat.reduceEqDiff,za,zAF,Nat.reduceLT,if_false,hlen2,Option.isSome_none,Option.getD_none,unA,zAm];refine .inl ?_;obtain ⟨hle1,hle2⟩:=zcX (w:=w) y;have hlm:qH Tryz.prog ⟨hbN bs f X cls ld (R++(.map (ka m 0 (mkS w y).1)::j2)),e⟩ 207 (.map mi)=some (((mkS w y).1.length:Nat):Int):=by
      rw [zkN (gMap cls ld (ka m 0 (mkS w y).1) j2 e),zeu]
     refine ze (tk:=[]) (by kernel_rfl) ?_
     simp only [BA,Nat.reduceEqDiff,za,zAF,Nat.reduceLT,if_false,e10,hlen2,kP,hlm];refine ze (tk:=[]) (by kernel_rfl) ?_
     simp only [BA,Nat.reduceEqDiff,za,zAF,Nat.reduceLT,if_false,e10,e12,hlen2,kP,hsc,wC (cx:=⟨Tryz.prog,gl.g,zk Tryz.prog gl (n+1),uqS⟩) (a:=205) (b:=9) (show uqS (kb 205)=true from rfl) rfl,xg (gP X cls ld (ka m 0 (mkS w y).1) e)];have hsm:=zgY (k:=0) (hwl y) (hls8 y) hx;rw [zA0] at hsm
     rw [zbT (b:=mi) (kv:=.str (byN m (w y))) (xv:=.int .i64 ((mkS w y).1.length:Nat)) (by simp [peek,za,hlen2,clr]) (by simp [peek,za,hlen2,clr]) (by simp [peek,za,hlen2,clr]) znS (gMap cls ld (ka m 0 (mkS w y).1) j2 e) hsm (by simp [V.top,tops])]
     have hHm:(⟨hbN bs f X cls ld (R++(.map (ka m 0 (mkS w y).1)::j2)),e⟩:Hp).set mi (.map (ka m 0 ((mkS w y).1++[w y])))=⟨hbN bs f X cls ld (R++(.map (ka m 0 ((mkS w y).1++[w y]))::j2)),e⟩:=by
      simp only [Hp.set];rw [hmi,zbV,(znW rfl).1]
     rw [hHm];simp only [opQ_skip,putA]
     obtain ⟨lds,hlds⟩:∃ l:List V,l=(mkS w y).2.2.map fun b=>.int .u8 (b:Nat):=⟨_,rfl⟩;have hldsl:lds.length<=256:=by rw [hlds];simp;omega
     have hldO:ld=zp 1 5 lds:=by rw [hld,hlds];rfl
     obtain ⟨rr,hrr⟩:∃ rr,rr=R++(Blk.map (ka m 0 ((mkS w y).1++[w y]))::j2):=⟨_,rfl⟩;rw [<- hrr];have hMl:bs.length+1<(hbN bs f X cls ld rr).length:=by rw [zax];omega
     have hlod:∀ env,x6 Tryz.prog 78 env ⟨hbN bs f X cls ld rr,e⟩ [] [] (some (.ptr (bs.length+1) 261))=some (.val (zp 1 5 lds),⟨env,⟨(hbN bs f X cls ld rr).set (bs.length+1) (.cells ((mkC f X cls ld).set 261 (lkL 1 lds)) 204),e⟩,kR (bs.length+1) 261 lds,[]⟩):=fun env=>zac ag78' hbN_M (by rw [znY hcl,hldO])
     have hbsl:=r78.bsl (v:=.int .u8 (y:Nat)) rfl rfl;have happ:∀ H,zV Tryz.prog H 78 (zp 1 5 lds) (.sl 1 [.int .u8 (y:Nat)] .no)=some (zp 1 5 (lds++[.int .u8 (y:Nat)])):=fun H=>wc r78 (by simp) (roomA_of (by simp;omega) (by simp;omega))
     have hsto:∀ env,qZ Tryz.prog 78 ⟨(hbN bs f X cls ld rr).set (bs.length+1) (.cells ((mkC f X cls ld).set 261 (lkL 1 lds)) 204),e⟩ (kR (bs.length+1) 261 lds) [] (some (zp 1 5 (lds++[.int .u8 (y:Nat)]),env)) (some (.ptr (bs.length+1) 261))=some (.skip,⟨env,⟨hbN bs f X cls (zp 1 5 (lds++[.int .u8 (y:Nat)])) rr,kO e (bs.length+1) (zp 1 5 (lds++[.int .u8 (y:Nat)]))⟩,kR (bs.length+1) 261 lds,[]⟩):=fun env=>by
      rw [zaw r78.st hMl (by rw [hmkl];omega),znZ hcl,zew]
     refine ze (tk:=[98]) (by kernel_rfl) ?_
     simp only [BA,Nat.reduceEqDiff,za,zAF,Nat.reduceLT,if_false,e3,e11,hlen2,fo204_3,hlod,hbsl,zeU,happ,hsto,vQ (a:=3) (b:=5) (hm:=rfl),show uqS (kb 3)=false from rfl,zjx hy,vd (cx:=⟨Tryz.prog,gl.g,zk Tryz.prog gl (n+1),uqS⟩) (show uqT Tryz.prog uqS 78=false by kernel_rfl)]
     rw [hrr];refine ze (tk:=[]) (by kernel_rfl) ?_
     simp only [BA,Nat.reduceEqDiff,za,zAF,Nat.reduceLT,if_false,e3,e11,hlen2,fo204_2,zjw hy,hst30];refine ze (tk:=[]) (by kernel_rfl) ?_
     simp only [BA,Nat.reduceEqDiff,za,zAF,Nat.reduceLT,if_false,e58,hlen2,q9 (show y<2 ^ 60 by omega),zx,thn_normal]
     have hl1:zp 1 5 (lds++[.int .u8 (y:Nat)])=ldL w (y+1):=by unfold ldL;rw [hm2,hlds];simp
     rw [hcls,ziA hy (by rw [hm2]),hl1,show (mkS w y).1++[w y]=(mkS w (y+1)).1 by rw [hm2]]
     refine ⟨256 - 1 - y,by omega,y+1,_,_,_,by omega,rfl,?_,?_,?_,?_,?_,?_⟩
     all_goals simp [za,hlen2,e1,e3,e4,e10]
  ·obtain rfl:y=256:=by omega
   refine .inr ⟨by simp,?_⟩
   simp only [ju,qh,zZ,zx,thn_exit,zA,zAu,if_true]
   refine ze (tk:=[]) (by kernel_rfl) ?_
   simp only [BA,Nat.reduceEqDiff,za,zAF,Nat.reduceLT,if_false,h3,hlen,go_ret,zx,Fx]
   first|refine ⟨rfl,[.ptr (bs.length+1) 0],?_,rfl,?_⟩|refine ⟨trivial,[.ptr (bs.length+1) 0],?_,rfl,?_⟩|refine ⟨[.ptr (bs.length+1) 0],?_,rfl,?_⟩
   ·simp [zt,za,hlen]
   ·exact ⟨_,_,by rw [<- hw]⟩
end Go.Proofs.YthohlnmcjkjeiaaGreatDoor
namespace Go.Proofs.YthohlnmcjkjeiaaGreatDoor
set_option maxRecDepth 100000
open Go Go.Vm
variable {gl:Gl}
theorem ag207':qC Tryz.prog 207=some false:=by kernel_rfl
theorem zlR (hg:GS gl) {n a1 a2 a3 a4 a5 mp m w c i:Nat} {ws:List Nat} {t1:TypeId} (hw:w<2 ^ (8 * m)) (hws:∀ x∈ws,x<2 ^ (8 * m)) {B:List Blk} {es:List (Nat×Nat)} (h1:nth B a1=some (.cells [.map mp] t1)) (hm:nth B mp=some (.map (ka m 0 ws))) (hc:nth B c=some (.cells (bys m w) 5)) (hx:qU w 0 ws=some i) :
  zk Tryz.prog gl (n+1) 111 [srV m c,.ptr a1 0,.ptr a2 0,.ptr a3 0,.ptr a4 0,.ptr a5 0] ⟨B,es⟩=some (.ret (.int .i64 (i:Nat)),⟨B,es⟩):=by
 suffices hmain:(go ⟨Tryz.prog,gl,zk Tryz.prog gl n,uqS⟩ n (Fx Tryz.prog Tryz.f111.results.toList fun w H1=>w=.int .i64 (i:Nat)/\H1=⟨B,[]⟩) [.c (Tryz.f111.body.getD .skip)] .normal ⟨[srV m c,.ptr a1 0,.ptr a2 0,.ptr a3 0,.ptr a4 0,.ptr a5 0]++List.replicate 43 (.tup []),⟨B,[]⟩,[],[]⟩) by
  obtain ⟨w,H1,h0,rfl,rfl⟩:=z0 (gl:=gl) (f:=111) (bs:=B) (es:=es) (args:=[srV m c,.ptr a1 0,.ptr a2 0,.ptr a3 0,.ptr a4 0,.ptr a5 0]) (n:=n) (hg.hk _ _ (by decide)) (fun H=>hg.hk2 _ _ _ _ (by decide)) Tryz.func111 rfl (by rw [hg.uq];exact hmain)
  rw [h0];have:=qR (bs:=B) (ls:=[]) (es:=es) (t:=0) (zAW _);rw [zBB] at this;exact congrArg (fun x=>some (Out.ret _,x)) this
 have l1:zn Tryz.prog ⟨B,[]⟩ gl.g 207 (.ptr a1 0)=some (.map mp):=zu ag207' h1 rfl;have hcv:=xg (H:=⟨B,[]⟩) (m:=m) (w:=w) (c:=c) hc;have hlk:=zev (H:=⟨B,[]⟩) (d:=mp) hw hws hm;rw [hx] at hlk;have hsc:∀ c,clr (srV m c)=srV m c:=fun _=>rfl;simp only [Tryz.f111,zAs,zA];refine ze (tk:=[]) (by kernel_rfl) ?_
 simp only [BA,zAQ,zAN,List.replicate];refine ze (tk:=[]) (by kernel_rfl) ?_
 simp only [BA,zh,zi,zAQ,zAN,l1,kP,hsc,wC (cx:=⟨Tryz.prog,gl.g,zk Tryz.prog gl n,uqS⟩) (a:=205) (b:=9) (show uqS (kb 205)=true from rfl) rfl,hcv,zcA,hlk,vx,clr_tup,zAs,Option.isSome_some];refine ze (tk:=[]) (by kernel_rfl) ?_
 simp only [BA,zh,zi,zAQ,zAN,unA,zAg];refine .inr ?_
 try simp only [go_skip]
 refine ze (tk:=[]) (by kernel_rfl) ?_
 simp only [BA,zh,zi,zAQ,zAN,go_ret,zx,Fx]
 refine ⟨[.int .i64 (i:Nat)],?_,rfl,trivial⟩;simp only [zt,zh,zi]
end Go.Proofs.YthohlnmcjkjeiaaGreatDoor
namespace Go.Proofs.YthohlnmcjkjeiaaGreatDoor
set_option maxRecDepth 100000
open Go Go.Vm
variable {gl:Gl}
theorem valC_of {cx:Cx} {takes:List Tmp} {o:Oper} {env:List V} {v:V} {c:Cfg} {s:St} (h:cx.op takes o env c.H c.lk c.df=some (.val v,s)):cx.valC takes o env v c=true:=by
 simp only [Cx.valC,Cx.runC,h,V.same_refl]
theorem zfD {a b:Bool} (h:b=true):(a || b)=true:=by rw [h,zBl]
theorem zn0 {P:Program} {t:TypeId} {x y:Operand} {b:Nat} (h:8 * b<2 ^ 60) (h1:0<b):zQ P .sub t x y (some (.int .i64 ((8 * b:Nat):Int))) (some (.int .i64 8))=some (.int .i64 ((8 * b - 8:Nat):Int)):=znu (a:=8 * b) (b:=8) h (by omega)
theorem go_gen {cx:Cx} {n:Nat} {Q:Ex->St->Prop} {k:List It} {env0:List V} {B0:List Blk} {e0:List (Nat×Nat)} {lk0:List (Nat×Nat)} {P:List V->List Blk->Prop} (h:∀ env B lk,P env B->go cx n Q k .normal ⟨env,⟨B,e0⟩,lk,[]⟩) (h0:P env0 B0):go cx n Q k .normal ⟨env0,⟨B0,e0⟩,lk0,[]⟩:=h _ _ _ h0
def owZ (z:Bool) (n e:Nat) (xs:List V):V:=match z with|true=>.sl n xs (.yes e)|false=>zp n e xs
def lkZ (z:Bool) (n:Nat) (xs:List V):V:=match z with|true=>.sl n xs .lock|false=>lkL n xs
def lcZ (z:Bool) (b off:Nat) (xs:List V):List (Nat×Nat):=match z with|true=>[(b,off)]|false=>kR b off xs
section
variable {P:Program} {t n:TypeId} {B:List Blk} {off bm:Nat} {cs:List V} {ty e:TypeId} {xs ys:List V} {env:List V} {df:List (V×List V)} {es:List (Nat×Nat)} {z:Bool} {v:V}
theorem zrf (ha:qC P t=some false) (hb:nth B bm=some (.cells cs ty)) (hn:nth cs off=some (owZ z n e xs)) :
  x6 P t env ⟨B,es⟩ [] df (some (.ptr bm off))=some (.val (owZ z n e xs),⟨env,⟨B.set bm (.cells (cs.set off (lkZ z n xs)) ty),es⟩,lcZ z bm off xs,df⟩):=by
 cases z with
 | false=>exact zac ha hb hn
 | true =>
  simp only [owZ] at hn;simp only [x6,ha,show Hp.get ⟨B,es⟩ bm=_ from hb,hn,owZ,lkZ,lcZ];rfl
theorem zrg (hs:zy P t=some 1) (hlt:bm<B.length) (ho:off<cs.length) (h1:okC v=true) (h2:v.laid=[v]) :
  qZ P t ⟨B.set bm (.cells (cs.set off (lkZ z n xs)) ty),es⟩ (lcZ z bm off xs) df (some (v,env)) (some (.ptr bm off))=some (.skip,⟨env,⟨B.set bm (.cells (cs.set off v) ty),kO es bm v⟩,lcZ z bm off xs,df⟩):=by
 have hm:kQ (lcZ z bm off xs) bm off 1 ((cs.set off (lkZ z n xs)).drop off)=true:=by
  cases z with
  | false=>exact zio ho
  | true =>
   have h3:(cs.set off (V.sl n xs .lock)).drop off=.sl n xs .lock::cs.drop (off+1):=by
    rw [List.drop_eq_getElem_cons (by rw [zAF];exact ho)]
    simp [List.drop_set]
   simp only [lkZ,lcZ,h3];simp [kQ,locked]
 rw [zT hs (show Hp.get ⟨_,es⟩ bm=some (.cells (cs.set off (lkZ z n xs)) ty) by show nth _ _=_;simp [zd,hlt]) h1 (by rw [h2];rfl) (by rw [zAF];omega) hm]
 simp only [Hp.set,List.set_set,h2,Vm.storeCells,edge_eq]
theorem zru {by':Nat} (h:RowT P t e n by') (hy:ys≠[]) (hr:qG (xs.length+ys.length) by'=true) {H:Hp}:zV P H t (owZ z n e xs) (.sl n ys .no)=some (zp n e (xs++ys)):=by
 cases z with
 | false=>exact wc h hy hr
 | true =>
  cases xs with
  | cons x xs=>exact wc (xs:=x::xs) h hy hr
  | nil =>
   have hi:=h.i;cases hi1:P.info? e with
   | none=>rw [hi1] at hi;cases hi
   | some ti =>
    rw [hi1] at hi;simp only [zAT] at hi;cases hz:ti.zero with
    | none=>rw [hz] at hi;cases hi
    | some z =>
     rw [hz] at hi;simp only [zAa,zAA,zAD] at hi;have hn0:Nat.beq n 0=false:=by
      have:=h.n0.1;cases n with
      | zero=>exact absurd rfl this
      | succ n=>rfl
     obtain ⟨y,ys,rfl⟩:∃ y l,ys=y::l:=by
      cases ys with
      | nil=>exact absurd rfl hy
      | cons y l=>exact ⟨y,l,rfl⟩
     simp only [owZ,zV,h.u,h.s,hi1,hz,hi.1,jv,Option.bind_eq_bind,zAT,zAu,zAg,zAH,if_false,if_true];simp only [zp,zA7];rw [hi.2,hn0];simp only [List.length_nil,zA0,zAj] at hr;simp [hr]
def zrv (env:List V) (t:Nat) (v:V):Option (V×List V):=qE env t (some v)
open Classical in
theorem zfE {t:Nat}:qE env t (some (owZ z n e xs))=if nth env t=some (owZ z n e xs) then some (owZ z n e xs,env.set t (clr (owZ z n e xs))) else zrv env t (owZ z n e xs):=by
 split
 ·rename_i h;cases z with
  | false=>rw [<- h,<- jQ];exact zim h
  | true=>rfl
 ·rfl
theorem clr_owZ2:clr (clr (owZ z n e xs))=clr (owZ z n e xs):=by cases z<;>cases xs<;>rfl
theorem zn1 {x:V}:owZ z n e (x::xs)=zp n e (x::xs):=by cases z<;>rfl
theorem zpt {x:V}:owZ z n e (xs++[x])=zp n e (xs++[x]):=by cases z<;>cases xs<;>rfl
theorem zex {H:Hp} (hu:P.underlying t=some (.slice e)):qH P H t (clr (owZ z n e xs))=some ((xs.length:Nat):Int):=by
 cases z with
 | false=>exact zin hu
 | true=>simp [owZ,clr,qH,hu]
end
theorem zjy {cx:Cx} {takes:List Tmp} {rs:List Rec} {r1 R:Rec} {c0 c1 c1' d c2 e:Cfg} {k:List Cfg->Option (Ex×St)} (j:Nat) (_hj:rs[j]?=some r1) (e1:c1=c1') (hp:R.hp=true) (ho:∀ q∈rs,q=r1\/(q.hp=false/\(q.free=true\/bit R.m q.idx=true))) (h1:r1.hp=true)
  (hs:qO (Nat.land R.m (chgM rs)) d.D=true) (hr:cx.runC takes R.o R.env d (Nat.lor d.D (Nat.pow 2 R.idx))=some (R.v,c2)) (hb1:bit c1'.D r1.idx=true) (hb2:bit c2.D r1.idx=false)
  (hq:cx.runC takes r1.o r1.env c2 0=some (r1.v,e)) (hf:wN (Nat.lor c2.D (Nat.pow 2 r1.idx)) [c1',c2,c0,d]=some c1') (he:wM e c1'=true) :
  cx.cfgsK takes rs R c0 c1 [d] k=k [c1',c2,c0,d]:=zjn e1 hp ho h1 hs hr hb1 hb2 hq hf he
theorem zbX {n e:Nat} {xs:List V}:(zp n e xs).top=tops xs:=by
 cases xs<;>rfl
theorem r27w:RowT Tryz.prog 27 3 1 8:=⟨by kernel_rfl,by kernel_rfl,by kernel_rfl,by decide,by kernel_rfl,by kernel_rfl,by kernel_rfl⟩
theorem fo66_1:ji Tryz.prog 66 1=some 1:=by kernel_rfl
def zjz (B:List Blk) (_a1 a2 a3 a4 mp m c w:Nat) (sum:Int) (ws:List Nat) (wait:List V) (nxt:V) (labs:List V) (lab:Int) (t2 t3 t4:TypeId):List Blk :=
 ((((B.set mp (.map (ka m 0 (ws++[w])))).set a2 (.cells [.int .i64 (if w=0 then sum else sum+1)] t2)).set a3 (.cells [zp 1 205 (wait++[srV m c])] t3)).set a4 (.cells [nxt,zp 1 3 (labs++[.int .i64 lab])] t4))
theorem zn2 {B ls:List Blk} {es es1:List (Nat×Nat)} (he:∀ e∈es1,e.2<=B.length):∃ es',zL B.length es 0 ⟨B++ls,es1⟩=⟨B,es'⟩:=by
 unfold zL;have h1:(Nat.ble 0 B.length && es1.all fun e=>Nat.ble B.length e.1 || Nat.ble e.2 B.length)=true:=by
  rw [zAC];exact ⟨zBa (zAW _),zBH.2 fun e h=>by rw [zAe];exact .inr (zBa (he e h))⟩
 rw [if_pos h1,List.take_left];exact ⟨_,rfl⟩
theorem zlS (hg:GS gl) {z:Bool} {n a1 a2 a3 a4 a5 bm mp m w c:Nat} {sum:Int} {ws:List Nat} {wait:List V} {nxt:V} {labs:List V} {mc:List V} {t1 t2 t3 t4 t5 tM:TypeId} {f:A2.F} (hn:m+400<=n) (hwt:wait.length<2 ^ 40) (hlb:labs.length<2 ^ 40) (hm0:0<m) (hm1:m<2 ^ 36) (hw:w<2 ^ (8 * m)) (hws:∀ x∈ws,x<2 ^ (8 * m)) (hsum:-1<=sum/\sum<2 ^ 40) (hns:f.s.2.length<2 ^ 40) (hlt0:tops labs=0) {B:List Blk} {es:List (Nat×Nat)}
  (h1:nth B a1=some (.cells [.map mp] t1)) (h2:nth B a2=some (.cells [.int .i64 sum] t2)) (h3:nth B a3=some (.cells [owZ z 1 205 wait] t3)) (h4:nth B a4=some (.cells [nxt,zp 1 3 labs] t4)) (h5:nth B a5=some (.cells [.ptr bm 0] t5)) (hM:nth B bm=some (.cells mc tM)) (hM0:nth mc 0=some (A2.qv f.s))
  (hm:nth B mp=some (.map (ka m 0 ws))) (hc:nth B c=some (.cells (bys m w) 5)) (hnd:[a1,a2,a3,a4,a5,bm,mp,c].Nodup) (hx:qU w 0 ws=none) (hwt1:tops wait<=B.length) :
  ∃ es',zk Tryz.prog gl (n+1) 111 [srV m c,.ptr a1 0,.ptr a2 0,.ptr a3 0,.ptr a4 0,.ptr a5 0] ⟨B,es⟩=some (.ret (.int .i64 (ws.length:Nat)),⟨zjz B a1 a2 a3 a4 mp m c w sum ws wait nxt labs (vH f.s.2.length (j8 m w) (-1)) t2 t3 t4,es'⟩):=by
 suffices hmain:(go ⟨Tryz.prog,gl,zk Tryz.prog gl n,uqS⟩ n (Fx Tryz.prog Tryz.f111.results.toList fun x H1=>x=.int .i64 (ws.length:Nat)/\∃ es1,H1=⟨zjz B a1 a2 a3 a4 mp m c w sum ws wait nxt labs (vH f.s.2.length (j8 m w) (-1)) t2 t3 t4++[.cells (bys m 0) 5],es1⟩/\∀ e∈es1,e.2<=B.length) [.c (Tryz.f111.body.getD .skip)] .normal ⟨[srV m c,.ptr a1 0,.ptr a2 0,.ptr a3 0,.ptr a4 0,.ptr a5 0]++List.replicate 43 (.tup []),⟨B,[]⟩,[],[]⟩) by
  obtain ⟨x,H1,h0,rfl,es1,rfl,hes⟩:=z0 (gl:=gl) (f:=111) (bs:=B) (es:=es) (args:=[srV m c,.ptr a1 0,.ptr a2 0,.ptr a3 0,.ptr a4 0,.ptr a5 0]) (n:=n) (hg.hk _ _ (by decide)) (fun H=>hg.hk2 _ _ _ _ (by decide)) Tryz.func111 rfl (by rw [hg.uq];exact hmain)
  have hfl:(zjz B a1 a2 a3 a4 mp m c w sum ws wait nxt labs (vH f.s.2.length (j8 m w) (-1)) t2 t3 t4).length=B.length:=by simp [zjz]
  obtain ⟨es',he⟩:=zn2 (B:=zjz B a1 a2 a3 a4 mp m c w sum ws wait nxt labs (vH f.s.2.length (j8 m w) (-1)) t2 t3 t4) (ls:=[.cells (bys m 0) 5]) (es:=es) (es1:=es1) (by rw [hfl];exact hes)
  rw [hfl] at he;exact ⟨es',by rw [h0,show (V.int .i64 (ws.length:Nat)).top=0 from rfl,he]⟩
 have l1:zn Tryz.prog ⟨B,[]⟩ gl.g 207 (.ptr a1 0)=some (.map mp):=zu ag207' h1 rfl;have hcv:=xg (H:=⟨B,[]⟩) (m:=m) (w:=w) (c:=c) hc;have hlk:=zev (H:=⟨B,[]⟩) (d:=mp) hw hws hm;rw [hx] at hlk;have hsc:∀ c,clr (srV m c)=srV m c:=fun _=>rfl;have hlm:qH Tryz.prog ⟨B,[]⟩ 207 (.map mp)=some ((ws.length:Nat):Int):=by
  rw [zkN (H:=⟨B,[]⟩) (d:=mp) hm,zeu]
 have hmpl:mp<B.length:=by rw [zd] at hm;exact (zAB.1 hm).1
 have hcl:c<B.length:=by rw [zd] at hc;exact (zAB.1 hc).1
 have hcm:mp≠c:=by
  simp only [List.nodup_cons,zAK,not_or] at hnd;exact hnd.2.2.2.2.2.2.1.1
 simp only [Tryz.f111,zAs,zA];refine ze (tk:=[]) (by kernel_rfl) ?_
 simp only [BA,zAQ,zAN,List.replicate];refine ze (tk:=[]) (by kernel_rfl) ?_
 simp only [BA,zh,zi,zAQ,zAN,l1,kP,hsc,wC (cx:=⟨Tryz.prog,gl.g,zk Tryz.prog gl n,uqS⟩) (a:=205) (b:=9) (show uqS (kb 205)=true from rfl) rfl,hcv,zcA,hlk,vx,clr_tup,Option.getD_none,Option.isSome_none];refine ze (tk:=[]) (by kernel_rfl) ?_
 simp only [BA,zh,zi,zAQ,zAN,unA,zAm];refine .inl ?_;refine ze (tk:=[]) (by kernel_rfl) ?_
 simp only [BA,zh,zi,zAQ,zAN,l1,kP,hlm];refine ze (tk:=[]) (by kernel_rfl) ?_
 simp only [BA,zh,zi,zAQ,zAN,l1,kP,hsc,wC (cx:=⟨Tryz.prog,gl.g,zk Tryz.prog gl n,uqS⟩) (a:=205) (b:=9) (show uqS (kb 205)=true from rfl) rfl,hcv];have hsm:=zgY (k:=0) hw hws hx;rw [zA0] at hsm;rw [zbT (b:=mp) (kv:=.str (byN m w)) (xv:=.int .i64 (ws.length:Nat)) rfl rfl rfl znS (show Hp.get ⟨B,[]⟩ mp=_ from hm) hsm (by simp [V.top,tops])]
 obtain ⟨B1,hB1⟩:∃ B1,B1=B.set mp (.map (ka m 0 (ws++[w]))):=⟨_,rfl⟩;have hH1:Hp.set ⟨B,[]⟩ mp (.map (ka m 0 (ws++[w])))=⟨B1,[]⟩:=by rw [hB1];rfl
 rw [hH1];simp only [opQ_skip,putA]
 have hc1:nth B1 c=some (.cells (bys m w) 5):=by rw [hB1,zd,zA2 hcm,<- zd,hc]
 obtain ⟨B2,hB2⟩:∃ B2,B2=B1++[Blk.cells (bys m 0) 5]:=⟨_,rfl⟩;have hc1l:c<B1.length:=by rw [zd] at hc1;exact (zAB.1 hc1).1
 have hc2:nth B2 c=some (.cells (bys m w) 5):=by rw [hB2,zd,zAR hc1l,<- zd,hc1]
 have hz2:nth B2 B1.length=some (.cells (bys m 0) 5):=by rw [hB2,zd,zAP (zAO _)];simp
 have hv1:=xg (H:=⟨B1,[]⟩) hc1;have hv2:=xg (H:=⟨B2,[]⟩) hc2;have hvz:=xg (H:=⟨B2,[]⟩) hz2;obtain ⟨n',rfl⟩:∃ n',n=n'+1:=⟨n - 1,by omega⟩
 have hnc:Cx.callF ⟨Tryz.prog,gl.g,zk Tryz.prog gl (n'+1),uqS⟩ 108 [.int .i64 ((8 * m - 8:Nat):Int)] ⟨B1,[]⟩=some (.val (srV m B1.length),⟨B2,[]⟩):=by
  refine zw Tryz.func108 rfl ?_;have:=yG hg (n:=n') (k:=8 * m - 8) (by omega) (bs:=B1) (es:=[])
  rw [show (8 * m - 8) / 8+1=m by omega,<- hB2] at this
  exact this
 refine yD (tk:=[]) (by kernel_rfl) ?_
 apply Exists.intro;apply And.intro;refine zK (m:=0) (v:=srV m c) (by kernel_rfl) rfl (by simp only [BA,zh,hsc];rfl) (by kernel_rfl) (by kernel_rfl) (by kernel_rfl) ?_
 dsimp only [putA]
 refine q7 (m:=1) (v:=.str (byN m w)) (by kernel_rfl) rfl (by simp only [BA,zh,zi,zAQ,zAN,hsc,wC (cx:=⟨Tryz.prog,gl.g,zk Tryz.prog gl (n'+1),uqS⟩) (a:=205) (b:=9) (show uqS (kb 205)=true from rfl) rfl,hv1];rfl) (by kernel_rfl) (by kernel_rfl) (by kernel_rfl) (by kernel_rfl) ?_
 dsimp only [putA]
 refine zK (m:=0) (v:=srV m c) (by kernel_rfl) rfl (by simp only [BA,zh,zAQ,zAN,hsc];rfl) (by kernel_rfl) (by kernel_rfl) (by kernel_rfl) ?_
 dsimp only [putA]
 refine q7 (m:=4) (v:=.int .i64 (m:Nat)) (by kernel_rfl) rfl (by simp only [BA,zh,zi,zAQ,zAN,srV];rfl) (by kernel_rfl) (by kernel_rfl) (by kernel_rfl) (by kernel_rfl) ?_
 dsimp only [putA]
 refine zK (m:=12) (v:=.int .i64 ((8 * m:Nat):Int)) (by kernel_rfl) rfl (by simp only [BA,zh,zi,zAQ,zAN,zfC (show 8 * m<2 ^ 60 by omega)];rfl) (by kernel_rfl) (by kernel_rfl) (by kernel_rfl) ?_
 dsimp only [putA]
 refine zK (m:=28) (v:=.int .i64 ((8 * m - 8:Nat):Int)) (by kernel_rfl) rfl (by simp only [BA,zh,zi,zAQ,zAN,zn0 (show 8 * m<2 ^ 60 by omega) hm0];rfl) (by kernel_rfl) (by kernel_rfl) (by kernel_rfl) ?_
 dsimp only [putA]
 refine zcv (m:=60) (v:=srV m B1.length) (cs':=[⟨64,⟨B2,[]⟩,[],[]⟩,⟨0,⟨B1,[]⟩,[],[]⟩]) (by kernel_rfl) rfl (by simp only [BA,zh,zi,zAQ,zAN,hnc];rfl) (by kernel_rfl) (by kernel_rfl) (by kernel_rfl) (fun K=>?_) ?_
 rotate_left
 dsimp only [putA]
 refine q7 (m:=124) (v:=.str (byN m 0)) (by kernel_rfl) rfl (by simp only [BA,zh,zi,zAQ,zAN,hsc,wC (cx:=⟨Tryz.prog,gl.g,zk Tryz.prog gl (n'+1),uqS⟩) (a:=205) (b:=9) (show uqS (kb 205)=true from rfl) rfl,hvz];rfl) (by kernel_rfl) (by kernel_rfl) (by kernel_rfl) (by kernel_rfl) ?_
 dsimp only [putA]
 refine zK (m:=255) (v:=.bool (!(eqL (byN m w) (byN m 0)))) (by kernel_rfl) rfl (by simp only [BA,zh,zi,zAQ,zAN,zmC];rfl) (by kernel_rfl) (by kernel_rfl) (by kernel_rfl) yE
 ·have heq:eqL (byN m w) (byN m 0)=(w == 0):=zkC hw (Nat.pow_pos (by decide))
  have hlt:∀ d x,nth B d=some x->d≠mp->nth B2 d=some x:=fun d x hd hne=>by
   have hdl:d<B.length:=by rw [zd] at hd;exact (zAB.1 hd).1
   rw [hB2,zd,zAR (by rw [hB1,zAF];exact hdl),hB1,zA2 (Ne.symm hne),<- zd,hd]
  simp only [List.nodup_cons,zAK,zBI,zBs,not_or,List.nodup_nil,zBn,not_false_eq_true] at hnd;obtain ⟨⟨d12,d13,d14,d15,d1b,d1m,d1c⟩,⟨d23,d24,d25,d2b,d2m,d2c⟩,⟨d34,d35,d3b,d3m,d3c⟩,⟨d45,d4b,d4m,d4c⟩,⟨d5b,d5m,d5c⟩,⟨dbm,dbc⟩,dmc⟩:=hnd;have g2:=hlt a2 _ h2 d2m;have g3:=hlt a3 _ h3 d3m;have g4:=hlt a4 _ h4 d4m;have g5:=hlt a5 _ h5 d5m;have gM:=hlt bm _ hM dbm
  have l2:zn Tryz.prog ⟨B2,[]⟩ gl.g 3 (.ptr a2 0)=some (.int .i64 sum):=zu ag3w g2 rfl;have hs1:IntKind.i64.wrap (sum+1)=sum+1:=kN (by omega) (by omega)
  have hst2:∀ env,qZ Tryz.prog 3 ⟨B2,[]⟩ [] [] (some (.int .i64 (sum+1),env)) (some (.ptr a2 0))=some (.skip,⟨env,⟨B2.set a2 (.cells [.int .i64 (sum+1)] t2),[]⟩,[],[]⟩):=fun env=>by
   rw [zT sz3w (show Hp.get ⟨B2,[]⟩ a2=_ from g2) rfl rfl (by simp) rfl,v4 (by simp [V.top])]
   rfl
  simp only [BA,zh,zi,zAQ,zAN,heq]
  let PP:List V->List Blk->Prop:=fun env B3=>env.length=49/\nth env 0=some (srV m c)/\nth env 3=some (.ptr a3 0)/\nth env 4=some (.ptr a4 0)/\nth env 5=some (.ptr a5 0)/\nth env 8=some (.int .i64 (ws.length:Nat)) /\
   B3.length=B2.length/\nth B3 a3=some (.cells [owZ z 1 205 wait] t3)/\nth B3 a4=some (.cells [nxt,zp 1 3 labs] t4)/\nth B3 a5=some (.cells [.ptr bm 0] t5)/\nth B3 bm=some (.cells mc tM)/\nth B3 c=some (.cells (bys m w) 5)/\B3=B2.set a2 (.cells [.int .i64 (if w=0 then sum else sum+1)] t2)
  have hP2:∀ x d y,nth B2 d=some y->d≠a2->nth (B2.set a2 x) d=some y:=fun x d y h1 h2=>by
   rw [zd,zA2 (Ne.symm h2),<- zd,h1]
  have hreg:(w=0\/w≠0):=Decidable.em _;rcases hreg with hw0|hw0
  rotate_left
  refine .inl ⟨by simp [hw0],?_⟩
  refine ze (tk:=[]) (by kernel_rfl) ?_
  simp only [BA,zh,zi,zAQ,zAN,l2,zda,hs1,hst2];refine go_gen (P:=PP) ?_ ⟨rfl,rfl,rfl,rfl,rfl,rfl,by simp,hP2 _ _ _ g3 (Ne.symm d23),hP2 _ _ _ g4 (Ne.symm d24),hP2 _ _ _ g5 (Ne.symm d25),hP2 _ _ _ gM (Ne.symm d2b),hP2 _ _ _ hc2 (Ne.symm d2c),by rw [if_neg hw0]⟩
  rotate_left
  refine .inr ⟨by simp [hw0],?_⟩
  refine go_gen (P:=PP) ?_ ⟨rfl,rfl,rfl,rfl,rfl,rfl,rfl,g3,g4,g5,gM,hc2,by rw [if_pos hw0];exact (q8 g2).symm⟩
  all_goals
   rintro env B3 lk ⟨hlen,e0,e3,e4,e5,e8,hBl,k3,k4,k5,kM,kc,hB3⟩;have ha3:a3<B3.length:=by rw [zd] at k3;exact (zAB.1 k3).1
   have hlod:∀ env,x6 Tryz.prog 201 env ⟨B3,[]⟩ [] [] (some (.ptr a3 0))=some (.val (owZ z 1 205 wait),⟨env,⟨B3.set a3 (.cells ([owZ z 1 205 wait].set 0 (lkZ z 1 wait)) t3),[]⟩,lcZ z a3 0 wait,[]⟩):=fun env=>zrf ag201' k3 rfl;have hbsl:=r201.bsl (v:=srV m c) rfl rfl
   have happ:∀ H,zV Tryz.prog H 201 (owZ z 1 205 wait) (.sl 1 [srV m c] .no)=some (zp 1 205 (wait++[srV m c])):=fun H=>zru r201 (by simp) (roomA_of (by simp;omega) (by simp;omega))
   have hsto:∀ env,qZ Tryz.prog 201 ⟨B3.set a3 (.cells ([owZ z 1 205 wait].set 0 (lkZ z 1 wait)) t3),[]⟩ (lcZ z a3 0 wait) [] (some (zp 1 205 (wait++[srV m c]),env)) (some (.ptr a3 0))=some (.skip,⟨env,⟨B3.set a3 (.cells [zp 1 205 (wait++[srV m c])] t3),kO [] a3 (zp 1 205 (wait++[srV m c]))⟩,lcZ z a3 0 wait,[]⟩):=fun env=>zrg r201.st ha3 (by simp) zkA (by rw [zei])
   try simp only [zA]
   refine ze (tk:=[36]) (by kernel_rfl) ?_
   simp only [BA,Nat.reduceEqDiff,za,zAF,Nat.reduceLT,if_false,e0,e3,hlen,hsc,zfE,hlod,hbsl,zeU,happ,hsto,vd (cx:=⟨Tryz.prog,gl.g,zk Tryz.prog gl (n'+1),uqS⟩) (show uqT Tryz.prog uqS 201=false by kernel_rfl)]
   obtain ⟨B4,hB4⟩:∃ B4,B4=B3.set a3 (.cells [zp 1 205 (wait++[srV m c])] t3):=⟨_,rfl⟩;obtain ⟨e1,he1⟩:∃ e1,e1=kO [] a3 (zp 1 205 (wait++[srV m c])):=⟨_,rfl⟩;rw [<- hB4,<- he1];have hP4:∀ d y,nth B3 d=some y->d≠a3->nth B4 d=some y:=fun d y h1 h2=>by
    rw [hB4,zd,zA2 (Ne.symm h2),<- zd,h1]
   have k44:=hP4 _ _ k4 (Ne.symm d34);have k45:=hP4 _ _ k5 (Ne.symm d35);have k4M:=hP4 _ _ kM (Ne.symm d3b);have k4c:=hP4 _ _ kc (Ne.symm d3c)
   let PE:List V->List Blk->Prop:=fun env Bx=>Bx=B4/\env.length=49/\nth env 0=some (srV m c)/\nth env 4=some (.ptr a4 0)/\nth env 5=some (.ptr a5 0)/\nth env 8=some (.int .i64 (ws.length:Nat))
   refine go_gen (P:=PE) ?_ ⟨rfl,by simp [hlen],by simp [za,e0],by simp [za,e4],by simp [za,e5],by simp [za,e8]⟩
   clear hlod hsto happ hbsl k3 k4 k5 kM kc e0 e3 e4 e5 e8 hlen;rintro env Bx lk ⟨rfl,hlen,e0,e4,e5,e8⟩;have ha4:a4<Bx.length:=by rw [zd] at k44;exact (zAB.1 k44).1
   obtain ⟨lab,hlab⟩:∃ l,l=vH f.s.2.length (j8 m w) (-1):=⟨_,rfl⟩;obtain ⟨BL,hBL⟩:∃ BL,BL=Bx.set a4 (.cells ([nxt,zp 1 3 labs].set 1 (lkL 1 labs)) t4):=⟨_,rfl⟩;have hPL:∀ d y,nth Bx d=some y->d≠a4->nth BL d=some y:=fun d y h1 h2=>by
    rw [hBL,zd,zA2 (Ne.symm h2),<- zd,h1]
   have hlod:∀ env,x6 Tryz.prog 27 env ⟨Bx,e1⟩ [] [] (some (.ptr a4 1))=some (.val (zp 1 3 labs),⟨env,⟨BL,e1⟩,kR a4 1 labs,[]⟩):=fun env=>by rw [hBL];exact zac ag27' k44 rfl
   have l5:zn Tryz.prog ⟨Bx,e1⟩ gl.g 141 (.ptr a5 0)=some (.ptr bm 0):=zu ag141' k45 rfl;have l5L:zn Tryz.prog ⟨BL,e1⟩ gl.g 141 (.ptr a5 0)=some (.ptr bm 0):=zu ag141' (hPL _ _ k45 (Ne.symm d45)) rfl;obtain ⟨n2,rfl⟩:∃ n2,n'=n2+1+1:=⟨n' - 2,by omega⟩
   have hlc:∀ H:List Blk,nth H bm=some (.cells mc tM)->nth H c=some (.cells (bys m w) 5)->Cx.callF ⟨Tryz.prog,gl.g,zk Tryz.prog gl (n2+3),uqS⟩ 112 [.ptr bm 0,srV m c] ⟨H,e1⟩=some (.val (.int .i64 lab),⟨H,e1⟩):=fun H q1 q2=>by
    rw [hlab];exact zw Tryz.func112 rfl (zlM hg (n:=n2) hm1 (by omega) (by omega) hns q1 hM0 q2)
   have hlc4:=hlc _ k4M k4c;have hlcL:=hlc _ (hPL _ _ k4M (Ne.symm d4b)) (hPL _ _ k4c (Ne.symm d4c));have hbsl:=r27w.bsl (v:=.int .i64 lab) rfl rfl;have happ:∀ H,zV Tryz.prog H 27 (zp 1 3 labs) (.sl 1 [.int .i64 lab] .no)=some (zp 1 3 (labs++[.int .i64 lab])):=fun H=>wc r27w (by simp) (roomA_of (by simp;omega) (by simp;omega))
   have hst:∀ env,qZ Tryz.prog 27 ⟨BL,e1⟩ (kR a4 1 labs) [] (some (zp 1 3 (labs++[.int .i64 lab]),env)) (some (.ptr a4 1))=some (.skip,⟨env,⟨Bx.set a4 (.cells [nxt,zp 1 3 (labs++[.int .i64 lab])] t4),kO e1 a4 (zp 1 3 (labs++[.int .i64 lab]))⟩,kR a4 1 labs,[]⟩):=fun env=>by
    rw [hBL];exact zaw r27w.st ha4 (by simp)
   refine yD (tk:=[41]) (by kernel_rfl) ?_
   apply Exists.intro;apply And.intro;refine zK (m:=0) (v:=.ptr a4 1) (by kernel_rfl) rfl (by simp only [BA,Nat.reduceAdd,e4,fo66_1];rfl) (by kernel_rfl) (by kernel_rfl) (by kernel_rfl) ?_
   dsimp only [putA]
   refine zcv (m:=1) (v:=zp 1 3 labs) (cs':=[⟨2,⟨BL,e1⟩,kR a4 1 labs,[]⟩,⟨0,⟨Bx,e1⟩,[],[]⟩]) (by kernel_rfl) rfl (by simp only [BA,Nat.reduceAdd,za,Nat.reduceLT,hlen,hlod];rfl) (by kernel_rfl) (by kernel_rfl) (by kernel_rfl) (fun K=>?_) ?_
   rotate_left
   dsimp only [putA]
   refine q7 (m:=0) (v:=.ptr bm 0) (by kernel_rfl) rfl (by simp only [BA,Nat.reduceEqDiff,Nat.reduceAdd,za,zAF,Nat.reduceLT,if_false,e5,hlen,l5L];rfl) (by kernel_rfl) (by kernel_rfl) (by kernel_rfl) (kH fun q hq=>by
    obtain rfl:=zAp.1 hq;split
    ·exact valC_of (by simp only [BA,Nat.reduceEqDiff,Nat.reduceAdd,za,zAF,Nat.reduceLT,if_false,e5,hlen,l5];rfl)
    ·rfl) ?_
   dsimp only [putA]
   refine zK (m:=0) (v:=srV m c) (by kernel_rfl) rfl (by simp only [BA,Nat.reduceEqDiff,Nat.reduceAdd,za,zAF,Nat.reduceLT,if_false,e0,hlen,hsc];rfl) (by kernel_rfl) (by kernel_rfl) (by kernel_rfl) ?_
   dsimp only [putA]
   refine zcv (m:=12) (v:=.int .i64 lab) (cs':=[⟨18,⟨BL,e1⟩,kR a4 1 labs,[]⟩,⟨16,⟨Bx,e1⟩,[],[]⟩,⟨2,⟨BL,e1⟩,kR a4 1 labs,[]⟩,⟨0,⟨Bx,e1⟩,[],[]⟩]) (by kernel_rfl) rfl (by simp only [BA,Nat.reduceEqDiff,Nat.reduceAdd,za,zAF,Nat.reduceLT,if_false,hlen,hsc,hlcL];rfl) (by kernel_rfl) (by kernel_rfl) (by kernel_rfl) (fun K=>?_) ?_
   rotate_left
   dsimp only [putA]
   refine zK (m:=28) (v:=.sl 1 [.int .i64 lab] (.yes 3)) (by kernel_rfl) rfl (by simp only [BA,Nat.reduceEqDiff,Nat.reduceAdd,za,zAF,Nat.reduceLT,if_false,hlen,hbsl];rfl) (by kernel_rfl) (by kernel_rfl) (by kernel_rfl) ?_
   dsimp only [putA]
   refine q7 (m:=63) (v:=zp 1 3 (labs++[.int .i64 lab])) (by kernel_rfl) rfl (by simp only [BA,Nat.reduceEqDiff,Nat.reduceAdd,za,zAF,Nat.reduceLT,if_false,hlen,zeU,happ,vd (cx:=⟨Tryz.prog,gl.g,zk Tryz.prog gl (n2+3),uqS⟩) (show uqT Tryz.prog uqS 27=false by kernel_rfl)];rfl) (by kernel_rfl) (by kernel_rfl) (by kernel_rfl) (by kernel_rfl) ?_
   dsimp only [putA]
   refine zK (m:=127) (v:=.ptr a4 1) (by kernel_rfl) rfl (by simp only [BA,Nat.reduceEqDiff,Nat.reduceAdd,za,zAF,Nat.reduceLT,if_false,e4,hlen,fo66_1];rfl) (by kernel_rfl) (by kernel_rfl) (by kernel_rfl) ?_
   dsimp only [putA]
   refine vF (m:=255) (cs':=[⟨274,⟨Bx.set a4 (.cells [nxt,zp 1 3 (labs++[.int .i64 lab])] t4),kO e1 a4 (zp 1 3 (labs++[.int .i64 lab]))⟩,kR a4 1 labs,[]⟩,⟨18,⟨BL,e1⟩,kR a4 1 labs,[]⟩,⟨16,⟨Bx,e1⟩,[],[]⟩,⟨2,⟨BL,e1⟩,kR a4 1 labs,[]⟩,⟨0,⟨Bx,e1⟩,[],[]⟩]) (by kernel_rfl) rfl (by simp only [BA,Nat.reduceEqDiff,Nat.reduceAdd,za,zAF,Nat.reduceLT,if_false,hlen,hst];rfl) (by kernel_rfl) (by kernel_rfl) (fun K=>?_) yE
   ·refine jZ ?_ ?_ ?_ ?_
    ·kernel_rfl
    ·rfl
    ·intro c hc;simp only [zAK,zBI,zBs] at hc;rcases hc with rfl|rfl|rfl<;>kernel_rfl
    ·kernel_rfl
   rotate_left
   ·refine jZ ?_ ?_ ?_ ?_
    ·kernel_rfl
    ·rfl
    ·intro c hc;simp at hc
    ·kernel_rfl
   ·refine zjy (e:=⟨0,⟨BL,e1⟩,kR a4 1 labs,[]⟩) 2 rfl ?_ ?_ ?_ ?_ ?_ ?_ ?_ ?_ ?_ ?_ ?_
    ·kernel_rfl
    ·rfl
    ·intro q hq;simp only [zAK,zBI,zBs] at hq;rcases hq with rfl|rfl|rfl|rfl
     ·exact .inr ⟨rfl,.inl rfl⟩
     ·exact .inr ⟨rfl,.inr (by kernel_rfl)⟩
     ·exact .inl rfl
     ·exact .inr ⟨rfl,.inl rfl⟩
    ·rfl
    ·kernel_rfl
    ·simp only [Cx.runC,jL];simp only [BA,Nat.reduceEqDiff,Nat.reduceAdd,za,zAF,Nat.reduceLT,if_false,hlen,hsc,hlc4];rfl
    ·kernel_rfl
    ·kernel_rfl
    ·simp only [Cx.runC,jL];simp only [BA,Nat.reduceAdd,za,Nat.reduceLT,hlen,hlod]
    ·kernel_rfl
    ·exact sameCfg_of
   simp only [putA];simp only [zA]
   refine ze (tk:=[]) (by kernel_rfl) ?_
   simp only [BA,Nat.reduceEqDiff,Nat.reduceAdd,za,zAF,Nat.reduceLT,if_false,e8,hlen,go_ret,zx,Fx]
   refine ⟨[.int .i64 (ws.length:Nat)],?_,rfl,kO e1 a4 (zp 1 3 (labs++[.int .i64 lab])),?_,?_⟩
   ·simp only [zt,za,zAF,hlen];rfl
   ·have hl1:B1.length=B.length:=by rw [hB1,zAF]
    have ha:∀ d x,nth B d=some x->d<B.length:=fun d x h=>by rw [zd] at h;exact (zAB.1 h).1
    have q2:=ha _ _ h2;have q3:=ha _ _ h3;have q4:=ha _ _ h4;rw [hB4,hB3,hB2,List.set_append_left _ _ (by omega),List.set_append_left _ _ (by rw [zAF];omega),List.set_append_left _ _ (by rw [zAF,zAF];omega),hB1,<- hlab]
    rfl
   ·have ht2:(zp 1 3 (labs++[V.int .i64 lab])).top=0:=by rw [zbX];exact jl hlt0 rfl
    have he:kO e1 a4 (zp 1 3 (labs++[.int .i64 lab]))=e1:=by rw [kO,ht2,if_pos (by omega)]
    rw [he,he1];intro e hme;unfold kO at hme;split at hme
    ·cases hme
    ·rw [zAp.1 hme];show (zp 1 205 (wait++[srV m c])).top<=_;rw [zbX];refine zN fun v hv=>?_;rcases zA3.1 hv with hv|hv
     ·exact zAM (zg hv) hwt1
     ·rw [zAp.1 hv];simp only [srV,V.top];omega
 ·refine jZ ?_ ?_ ?_ ?_
  ·kernel_rfl
  ·rfl
  ·intro c hc;cases hc
  ·unfold Cx.newOk;refine kH fun q hq=>?_;simp only [zAK,zBI,zBs] at hq;rcases hq with rfl|rfl|rfl|rfl|rfl|rfl
   ·kernel_rfl
   ·kernel_rfl
   ·kernel_rfl
   ·kernel_rfl
   ·split
    ·rfl
    ·split
     ·rename_i h;cases h
     ·refine zfD ?_;exact valC_of (by simp only [BA,zh,zi,zAQ,zAN,jL,hsc,wC (cx:=⟨Tryz.prog,gl.g,zk Tryz.prog gl (n'+1),uqS⟩) (a:=205) (b:=9) (show uqS (kb 205)=true from rfl) rfl,hv2];rfl)
   ·kernel_rfl
end Go.Proofs.YthohlnmcjkjeiaaGreatDoor
namespace Go.Proofs.YthohlnmcjkjeiaaGreatDoor
open Go Go.Vm
def yk (ws:List Nat) (w:Nat):List Nat:=match qU w 0 ws with|some _=>ws|none=>ws++[w]
def qd (ws:List Nat) (g:Nat->Nat):Nat->List Nat
 | 0=>ws
 | y+1=>yk (qd ws g y) (g y)
def zj (nxt:Nat->Nat->Nat) (s0:Nat):Nat->List Nat
 | 0=>[s0]
 | i+1=>match (zj nxt s0 i)[i]? with
  | some w=>qd (zj nxt s0 i) (nxt w) 256
  | none=>zj nxt s0 i
def qc (ws:List Nat):Nat:=1+(ws.filter fun w=>!(w == 0)).length
theorem zfF {w:Nat}:∀ {ws:List Nat} {k i:Nat},qU w k ws=some i->k<=i/\ws[i - k]?=some w
 | [],k,i,h=>by simp [qU] at h
 | x::ws,k,i,h=>by
  simp only [qU] at h;split at h
  ·rename_i e;cases h;refine ⟨zAO _,?_⟩;rw [zBk,e];rfl
  ·obtain ⟨h1,h2⟩:=zfF h;refine ⟨by omega,?_⟩
   rw [show i - k=(i - (k+1))+1 by omega]
   exact h2
theorem idxF_none {w:Nat}:∀ {ws:List Nat} {k:Nat},qU w k ws=none ↔ w ∉ ws
 | [],k=>by simp [qU]
 | x::ws,k=>by
  simp only [qU,zAK,not_or];split
  ·rename_i e;simp [e]
  ·rename_i e;rw [idxF_none];exact ⟨fun h=>⟨fun e'=>e e'.symm,h⟩,fun h=>h.2⟩
theorem ziB {w:Nat} {rs:List Nat}:∀ {ws:List Nat} {k i:Nat},qU w k ws=some i->qU w k (ws++rs)=some i
 | [],k,i,h=>by simp [qU] at h
 | x::ws,k,i,h=>by
  simp only [qU,zA6] at h ⊢;split
  ·rename_i e;rw [if_pos e] at h;exact h
  ·rename_i e;rw [if_neg e] at h;exact ziB h
theorem ziC {w:Nat}:∀ {ws:List Nat} {k:Nat},qU w k ws=none->qU w k (ws++[w])=some (k+ws.length)
 | [],k,_=>by simp [qU]
 | x::ws,k,h=>by
  simp only [qU,zA6] at h ⊢;split
  ·rename_i e;rw [if_pos e] at h;cases h
  ·rename_i e;rw [if_neg e] at h;rw [ziC h];simp;omega
theorem ziD {ws:List Nat} {w:Nat}:∃ rs,yk ws w=ws++rs:=by
 unfold yk;split
 ·exact ⟨[],by simp⟩
 ·exact ⟨_,rfl⟩
theorem zey {ws:List Nat} {g:Nat->Nat} {y:Nat}:∀ d,∃ rs,qd ws g (y+d)=qd ws g y++rs
 | 0=>⟨[],by simp⟩
 | d+1=>by
  obtain ⟨r1,h1⟩:=zey (ws:=ws) (g:=g) (y:=y) d;obtain ⟨r2,h2⟩:=ziD (ws:=qd ws g (y+d)) (w:=g (y+d));exact ⟨r1++r2,by rw [<- zBJ];simp only [qd];rw [h2,h1,zAc]⟩
theorem zfG {ws:List Nat} {g:Nat->Nat} (y:Nat):∃ rs,qd ws g y=ws++rs:=by
 have:=zey (ws:=ws) (g:=g) (y:=0) y;simpa [qd] using this
theorem zfH {nxt:Nat->Nat->Nat} {s0 i:Nat}:∀ d,∃ rs,zj nxt s0 (i+d)=zj nxt s0 i++rs
 | 0=>⟨[],by simp⟩
 | d+1=>by
  obtain ⟨r1,h1⟩:=zfH (nxt:=nxt) (s0:=s0) (i:=i) d;rw [<- zBJ];simp only [zj];split
  ·obtain ⟨r2,h2⟩:=zfG (ws:=zj nxt s0 (i+d)) (g:=nxt _) 256;exact ⟨r1++r2,by rw [h2,h1,zAc]⟩
  ·exact ⟨r1,h1⟩
theorem zez {nxt:Nat->Nat->Nat} {s0 i j:Nat} (h:i<=j):∃ rs,zj nxt s0 j=zj nxt s0 i++rs:=by
 have:=zfH (nxt:=nxt) (s0:=s0) (i:=i) (j - i)
 rwa [show i+(j - i)=j by omega] at this
theorem ziE {ws rs:List Nat}:qc ws<=qc (ws++rs):=by simp [qc]
theorem zeA {ws:List Nat} (h:ws.Nodup):ws.length<=qc ws:=by
 have:∀ l:List Nat,l.Nodup->l.length<=(l.filter fun w=>!(w == 0)).length+(if 0∈l then 1 else 0):=by
  intro l
  induction l with
  | nil=>intro _;simp
  | cons x l ih =>
   intro h;obtain ⟨h1,h2⟩:=List.nodup_cons.1 h;have:=ih h2
   by_cases e:x=0
   ·subst e;rw [if_neg h1] at this;simp at this ⊢;omega
   ·have e1:¬ (0=x):=fun h=>e h.symm;simp [e,e1] at this ⊢;omega
 have:=this ws h;unfold qc;split at this<;>omega
theorem zjA {ws:List Nat} {w:Nat} (h:ws.Nodup):(yk ws w).Nodup:=by
 unfold yk;split
 ·exact h
 ·rename_i e;refine List.nodup_append.2 ⟨h,by simp,?_⟩
  intro a ha b hb;rw [zAp.1 hb];intro e';subst e';exact idxF_none.1 e ha
theorem xh {ws:List Nat} {g:Nat->Nat} (h:ws.Nodup):∀ y,(qd ws g y).Nodup
 | 0=>h
 | y+1=>zjA (xh h y)
theorem zad {nxt:Nat->Nat->Nat} {s0:Nat}:∀ i,(zj nxt s0 i).Nodup
 | 0=>by simp [zj]
 | i+1=>by
  simp only [zj];split
  ·exact xh (zad i) _
  ·exact zad i
end Go.Proofs.YthohlnmcjkjeiaaGreatDoor
namespace Go.Proofs.YthohlnmcjkjeiaaGreatDoor
set_option maxRecDepth 100000
open Go Go.Vm
variable {gl:Gl}
def hbB (bs:List Blk) (bm m:Nat) (lab:Nat->Int) (N:List V) (ws:List Nat) (z:Bool) (wait:List V) (rest:List Blk):List Blk :=
 bs++(.cells [.ptr bm 0] 141::.cells [.snil,.snil] 66::.cells [zp 1 27 N,zp 1 3 (ws.map fun w=>A2.ie (lab w))] 66::.map (ka m 0 ws)::.cells [.map (bs.length+3)] 207::.cells [.int .i64 (qc ws:Nat)] 3::.cells [owZ z 1 205 wait] 201::rest)
section
variable {bs:List Blk} {bm m:Nat} {lab:Nat->Int} {N N':List V} {ws:List Nat} {z z':Bool} {wait:List V} {rest:List Blk} {x:Blk} {i:Nat}
theorem zaz:(hbB bs bm m lab N ws z wait rest).length=bs.length+7+rest.length:=by simp [hbB];omega
theorem zg0 {d:Nat} (h:d<bs.length):nth (hbB bs bm m lab N ws z wait rest) d=nth bs d:=by
 rw [hbB,zd,zd,zAR h]
theorem jr {k:Nat}:nth (hbB bs bm m lab N ws z wait rest) (bs.length+k)=nth (.cells [.ptr bm 0] 141::.cells [.snil,.snil] 66::.cells [zp 1 27 N,zp 1 3 (ws.map fun w=>A2.ie (lab w))] 66::.map (ka m 0 ws)::.cells [.map (bs.length+3)] 207::.cells [.int .i64 (qc ws:Nat)] 3::.cells [owZ z 1 205 wait] 201::rest) k:=by
 rw [hbB,zd,zd,zAP (by omega)]
 congr 1
 omega
theorem hbB_0:nth (hbB bs bm m lab N ws z wait rest) bs.length=some (.cells [.ptr bm 0] 141):=jr (k:=0)
theorem hbB_R:nth (hbB bs bm m lab N ws z wait rest) (bs.length+7+i)=nth rest i:=by
 rw [show bs.length+7+i=bs.length+(i+1+1+1+1+1+1+1) by omega,jr];rfl
theorem hbB_push:hbB bs bm m lab N ws z wait rest++[x]=hbB bs bm m lab N ws z wait (rest++[x]):=by simp [hbB]
theorem zpu {xs:List Blk}:hbB bs bm m lab N ws z wait rest++xs=hbB bs bm m lab N ws z wait (rest++xs):=by simp [hbB]
theorem zn3:(hbB bs bm m lab N ws z wait rest).set (bs.length+7+i) x=hbB bs bm m lab N ws z wait (rest.set i x):=by
 rw [hbB,zA5 _ _ (by omega),show bs.length+7+i - bs.length=i+1+1+1+1+1+1+1 by omega];rfl
theorem w8 {l:List Blk} {k:Nat}:(bs++l).set (bs.length+k) x=bs++l.set k x:=by
 rw [zA5 _ _ (by omega)]
 congr 2
 omega
theorem zn4 {wait':List V}:(hbB bs bm m lab N ws z wait rest).set (bs.length+6) (.cells [owZ z' 1 205 wait'] 201)=hbB bs bm m lab N ws z' wait' rest:=w8
theorem zn5:(hbB bs bm m lab N ws z wait rest).set (bs.length+2) (.cells [zp 1 27 N',zp 1 3 (ws.map fun w=>A2.ie (lab w))] 66)=hbB bs bm m lab N' ws z wait rest:=w8
end
theorem zlT {ws:List Nat} {w:Nat}:qc (ws++[w])=if w=0 then qc ws else qc ws+1:=by
 unfold qc
 by_cases h:w=0
 ·simp [h]
 ·simp [h];omega
theorem zpv {bs:List Blk} {bm m c w:Nat} {lab:Nat->Int} {N wait:List V} {ws:List Nat} {z:Bool} {rest:List Blk} :
  zjz (hbB bs bm m lab N ws z wait rest) (bs.length+4) (bs.length+5) (bs.length+6) (bs.length+2) (bs.length+3) m c w (qc ws:Nat) ws wait (zp 1 27 N) (ws.map fun w=>A2.ie (lab w)) (lab w) 3 201 66=hbB bs bm m lab N (ws++[w]) z (wait++[srV m c]) rest:=by
 have hs:(if w=0 then ((qc ws:Nat):Int) else ((qc ws:Nat):Int)+1)=((qc (ws++[w]):Nat):Int):=by
  rw [zlT];split<;>simp
 rw [zjz,hs,hbB,w8,w8,w8,w8,hbB];simp [A2.ie,zpt]
def zcY (ws:List Nat) (w:Nat) (wait:List V) (v:V):List V:=match qU w 0 ws with|some _=>wait|none=>wait++[v]
theorem zlU (hg:GS gl) {z:Bool} {n bm m w c:Nat} {ws:List Nat} {wait N:List V} {mc:List V} {tM:TypeId} {f:A2.F} (hn:m+400<=n) (hwt:wait.length<2 ^ 39) (hlb:ws.length<2 ^ 39) (hm0:0<m) (hm1:m<2 ^ 36) (hw:w<2 ^ (8 * m)) (hws:∀ x∈ws,x<2 ^ (8 * m)) (hns:f.s.2.length<2 ^ 40) {bs rest:List Blk} {es:List (Nat×Nat)}
  (hM:nth bs bm=some (.cells mc tM)) (hM0:nth mc 0=some (A2.qv f.s)) (hc:nth rest c=some (.cells (bys m w) 5)) (hwt1:tops wait<=bs.length+7+rest.length) :
  ∃ es' j,zk Tryz.prog gl (n+1) 111 [srV m (bs.length+7+c),.ptr (bs.length+4) 0,.ptr (bs.length+5) 0,.ptr (bs.length+6) 0,.ptr (bs.length+2) 0,.ptr bs.length 0] ⟨hbB bs bm m (fun w=>vH f.s.2.length (j8 m w) (-1)) N ws z wait rest,es⟩=some (.ret (.int .i64 (j:Nat)),⟨hbB bs bm m (fun w=>vH f.s.2.length (j8 m w) (-1)) N (yk ws w) z (zcY ws w wait (srV m (bs.length+7+c))) rest,es'⟩)/\qU w 0 (yk ws w)=some j:=by
 have hml:bm<bs.length:=by rw [zd] at hM;exact (zAB.1 hM).1
 have hcB:nth (hbB bs bm m (fun w=>vH f.s.2.length (j8 m w) (-1)) N ws z wait rest) (bs.length+7+c)=some (.cells (bys m w) 5):=hbB_R.trans hc;cases hx:qU w 0 ws with
 | some i =>
  refine ⟨es,i,?_,?_⟩
  ·rw [yk,zcY,hx];exact zlR hg hw hws (jr (k:=4)) (jr (k:=3)) hcB hx
  ·rw [yk,hx];exact hx
 | none =>
  have hcw:qc ws<2 ^ 40:=by
   have:=List.length_filter_le (fun w=>!(w == 0)) ws;unfold qc;omega
  obtain ⟨es',h⟩:=zlS hg (B:=hbB bs bm m (fun w=>vH f.s.2.length (j8 m w) (-1)) N ws z wait rest) (es:=es) hn (by omega) (labs:=ws.map fun w=>A2.ie (vH f.s.2.length (j8 m w) (-1))) (by rw [zAU];omega) hm0 hm1 hw hws (sum:=(qc ws:Nat)) ⟨by omega,by omega⟩ hns (A2.tops_map (fun _=>rfl) _)
   (jr (k:=4)) (jr (k:=5)) (jr (k:=6)) (jr (k:=2)) hbB_0 ((zg0 hml).trans hM) hM0 (jr (k:=3)) hcB
   (by simp only [List.nodup_cons,zAK,zBI,zBs,not_or,List.nodup_nil,zBn,not_false_eq_true];omega) hx (by rw [zaz];exact hwt1)
  refine ⟨es',ws.length,?_,?_⟩
  ·rw [h,zpv (lab:=fun w=>vH f.s.2.length (j8 m w) (-1)),yk,zcY,hx]
  ·rw [yk,hx];have:=ziC (k:=0) hx;rw [zA0] at this;exact this
end Go.Proofs.YthohlnmcjkjeiaaGreatDoor
namespace Go.Proofs.YthohlnmcjkjeiaaGreatDoor
set_option maxRecDepth 100000
open Go Go.Vm
theorem zbY {w:Nat->Nat}:∀ {Y y c:Nat},(mkS w Y).2.1[y]?=some c->(mkS w Y).1[c]?=some (w y)
 | 0,y,c,h=>by simp [mkS] at h
 | Y+1,y,c,h=>by
  have hl:=zay (w:=w) Y;simp only [mkS] at h ⊢;split at h
  ·rename_i i hi;rcases zAZ y Y with hy|hy
   ·rw [zAR (by omega)] at h
    exact zbY h
   ·rw [zAP (by omega)] at h
    have e:y - (mkS w Y).2.1.length=0:=by
     have:=(zAB.1 h).1;simp at this;omega
    rw [e] at h;simp at h;subst h;obtain rfl:y=Y:=by omega
    have:=(zfF hi).2;simpa using this
  ·rename_i hi;rcases zAZ y Y with hy|hy
   ·rw [zAR (by omega)] at h
    have:=zbY h;rw [zAR (zAB.1 this).1];exact this
   ·rw [zAP (by omega)] at h
    have e:y - (mkS w Y).2.1.length=0:=by
     have:=(zAB.1 h).1;simp at this;omega
    rw [e] at h;simp at h;subst h;obtain rfl:y=Y:=by omega
    simp
theorem zeB {w:Nat->Nat}:∀ Y,(mkS w Y).2.2.length=(mkS w Y).1.length
 | 0=>rfl
 | Y+1=>by
  simp only [mkS];split
  ·exact zeB Y
  ·simp [zeB Y]
def wFF (f:A2.F) (y:Nat):Nat:=wyP f.s.2 y f.s.2.length
def clF (f:A2.F):List Nat:=(mkS (wFF f) 256).2.1
def ncF (f:A2.F):Nat:=(mkS (wFF f) 256).2.2.length
theorem zkQ {f:A2.F}:(clF f).length=256:=zay 256
theorem zn6 {f:A2.F} {y c:Nat} (h:(clF f)[y]?=some c):c<ncF f:=by
 have:=(zAB.1 (zbY h)).1;rw [ncF,zeB];exact this
theorem zpw {f:A2.F}:0<ncF f:=by
 have h0:0<(clF f).length:=by rw [zkQ];exact Nat.succ_pos _
 exact Nat.lt_of_le_of_lt (zAW _) (zn6 (zAS h0))
theorem zqK {f:A2.F}:ncF f<=256:=by
 have:∀ (w:Nat->Nat) Y,(mkS w Y).2.2.length<=Y:=by
  intro w Y
  induction Y with
  | zero=>exact zAO _
  | succ Y ih =>
   simp only [mkS];split
   ·exact zBt ih
   ·simp;omega
 exact this _ _
theorem zeC {ss:List A2.Q4} {y k:Nat} {s:A2.Q4}:∀ {K:Nat},k<K->ss[k]?=some s->(wyP ss y K).testBit k=zc4 s y
 | 0,h,_=>by omega
 | K+1,h,hs=>by
  have hle:∀ {K k},K<=k->(wyP ss y K).testBit k=false:=by
   intro K
   induction K with
   | zero=>intro k _;simp [wyP]
   | succ K ih =>
    intro k hk;have e:=ih (k:=k) (by omega)
    simp only [wyP];split
    ·split
     ·rw [zBZ,e,zBX];simp;omega
     ·exact e
    ·exact e
  simp only [wyP];rcases zAZ k K with hk|hk
  ·have ih:=zeC (y:=y) hk hs;split
   ·split
    ·rw [zBZ,ih,zBX];have:¬ K=k:=by omega
     simp [this]
    ·exact ih
   ·exact ih
  ·obtain rfl:k=K:=by omega
   rw [hs];simp only;split
   ·rename_i h1;rw [zBZ,zBX,h1];simp
   ·rename_i h1;rw [hle (zAO _)];simpa using h1
def nxF (f:A2.F) (nx:List (Nat×Nat)) (m w y:Nat):Nat:=zbS f nx y (j8 m w) 0
theorem zn7 {f:A2.F} {nx:List (Nat×Nat)} {y z k q:Nat} (h:wFF f y=wFF f z):xf f nx y k q=xf f nx z k q:=by
 unfold xf;cases hs:f.s.2[k]? with
 | none=>rfl
 | some s =>
  cases hp:nx[k]? with
  | none=>rfl
  | some p =>
   have hk:=(zAB.1 hs).1;have h1:=zeC (y:=y) hk hs;have h2:=zeC (y:=z) hk hs;have h3:(wyP f.s.2 y f.s.2.length).testBit k=(wyP f.s.2 z f.s.2.length).testBit k:=congrArg (fun x=>Nat.testBit x k) h;simp only;rw [<- h1,<- h2,h3]
theorem zpx {f:A2.F} {nx:List (Nat×Nat)} {m w y z c:Nat} (h1:(clF f)[y]?=some c) (h2:(clF f)[z]?=some c):nxF f nx m w y=nxF f nx m w z:=by
 have h:wFF f y=wFF f z:=zAr ((zbY h1).symm.trans (zbY h2));have:∀ (l:List Nat) (q:Nat),zbS f nx y l q=zbS f nx z l q:=by
  intro l
  induction l with
  | nil=>intro q;rfl
  | cons k l ih =>
   intro q;show zbS f nx y l (xf f nx y k q)=zbS f nx z l (xf f nx z k q);rw [zn7 h];exact ih _
 exact this _ _
theorem zjB {f:A2.F} {nx:List (Nat×Nat)} {m w y:Nat} (h:∀ p∈nx,p.2<2 ^ (8 * m)):nxF f nx m w y<2 ^ (8 * m):=by
 have:∀ (l:List Nat) (q:Nat),q<2 ^ (8 * m)->zbS f nx y l q<2 ^ (8 * m):=by
  intro l
  induction l with
  | nil=>intro q hq;exact hq
  | cons k l ih =>
   intro q hq;refine ih _ ?_;show xf f nx y k q<_;unfold xf;split
   ·rename_i s p hs hp;split
    ·exact Nat.or_lt_two_pow hq (h p (zAb hp))
    ·exact hq
   ·exact hq
 exact this _ _ (Nat.pow_pos (by decide))
theorem zpy {ws:List Nat} {w B:Nat} (h:∀ x∈ws,x<B) (hw:w<B):∀ x∈yk ws w,x<B:=by
 intro x hx;unfold yk at hx;split at hx
 ·exact h x hx
 ·rcases zA3.1 hx with hx|hx
  ·exact h x hx
  ·rw [zAp.1 hx];exact hw
theorem zg1 {ws:List Nat} {g:Nat->Nat} {B:Nat} (h:∀ x∈ws,x<B) (hg:∀ y,g y<B):∀ y,∀ x∈qd ws g y,x<B
 | 0=>h
 | y+1=>zpy (zg1 h hg y) (hg y)
theorem zeD {nxt:Nat->Nat->Nat} {s0 B:Nat} (h:s0<B) (hn:∀ w y,nxt w y<B):∀ i,∀ x∈zj nxt s0 i,x<B
 | 0=>by simp [zj,h]
 | i+1=>by
  simp only [zj];split
  ·exact zg1 (zeD h hn i) (hn _) 256
  ·exact zeD h hn i
def zc5 (nxt:Nat->Nat->Nat) (s0 j:Nat):List Int:=match (zj nxt s0 j)[j]? with
 | some w=>(List.range 256).map fun y=>(((qU (nxt w y) 0 (zj nxt s0 (j+1))).getD 0:Nat):Int)
 | none=>[]
inductive WF (m:Nat) (rest:List Blk):List Nat->List Nat->Prop
 |nil:WF m rest [] []
 |cons {w c:Nat} {ws cs:List Nat} (h:nth rest c=some (.cells (bys m w) 5)) (t:WF m rest ws cs):WF m rest (w::ws) (c::cs)
theorem WF.mono {m:Nat} {r r':List Blk} (hr:∀ c w,nth r c=some (.cells (bys m w) 5)->nth r' c=some (.cells (bys m w) 5)) {ws cs:List Nat} (h:WF m r ws cs):WF m r' ws cs:=by
 induction h with
 | nil=>exact .nil
 | cons h _ ih=>exact .cons (hr _ _ h) ih
theorem WF.snoc {m:Nat} {r:List Blk} {w c:Nat} (hc:nth r c=some (.cells (bys m w) 5)) {ws cs:List Nat} (h:WF m r ws cs):WF m r (ws++[w]) (cs++[c]):=by
 induction h with
 | nil=>exact .cons hc .nil
 | cons h _ ih=>exact .cons h ih
theorem WF.len {m:Nat} {r:List Blk} {ws cs:List Nat} (h:WF m r ws cs):cs.length=ws.length:=by
 induction h with
 | nil=>rfl
 | cons _ _ ih=>simp [ih]
theorem WF.lt {m:Nat} {r:List Blk} {ws cs:List Nat} (h:WF m r ws cs):∀ c∈cs,c<r.length:=by
 induction h with
 | nil=>simp
 | cons h _ ih =>
  intro c hc;rcases zAK.1 hc with rfl|hc
  ·rw [zd] at h;exact (zAB.1 h).1
  ·exact ih c hc
end Go.Proofs.YthohlnmcjkjeiaaGreatDoor
namespace Go.Proofs.YthohlnmcjkjeiaaGreatDoor
open Go Go.Vm
def rwV (b k:Nat):V:=.sr (b+k) 0 256 256
def dnV (b:Nat) (NB:List Nat) (labs:List Int):V:=.agg [clr (zp 1 27 (NB.map (rwV b))),clr (zp 1 3 (labs.map A2.ie))]
inductive RW (nxt:Nat->Nat->Nat) (s0:Nat) (B:List Blk) (b:Nat):Nat->List Nat->Prop
 |nil:RW nxt s0 B b 0 []
 |snoc {i k:Nat} {NB:List Nat} (h:RW nxt s0 B b i NB) (hk:∀ j∈NB,j<k) (hb:nth B (b+k)=some (.cells ((zc5 nxt s0 i).map A2.ie) 3)):RW nxt s0 B b (i+1) (NB++[k])
theorem RW.mono {nxt:Nat->Nat->Nat} {s0 b b' i:Nat} {B B':List Blk} {NB:List Nat} (h:RW nxt s0 B b i NB):(∀ k x,k∈NB->nth B (b+k)=some x->nth B' (b'+k)=some x)->RW nxt s0 B' b' i NB:=by
 induction h with
 | nil=>intro _;exact .nil
 | snoc h hk hb ih=>intro hm;exact .snoc (ih fun k x hk=>hm k x (zAx _ hk)) hk (hm _ _ (by simp) hb)
theorem RW.len {nxt:Nat->Nat->Nat} {s0 b i:Nat} {B:List Blk} {NB:List Nat} (h:RW nxt s0 B b i NB):NB.length=i:=by
 induction h with
 | nil=>rfl
 | snoc _ _ _ ih=>simp [ih]
theorem RW.lt {nxt:Nat->Nat->Nat} {s0 b i:Nat} {B:List Blk} {NB:List Nat} (h:RW nxt s0 B b i NB):∀ k∈NB,b+k<B.length:=by
 induction h with
 | nil=>simp
 | snoc h hk hb ih =>
  intro k hk;rcases zA3.1 hk with hk|hk
  ·exact ih k hk
  ·rw [zAp.1 hk];rw [zd] at hb;exact (zAB.1 hb).1
theorem qN {rest:List Blk} {k d:Nat} {x y:Blk} (h1:nth rest k=some x):nth (rest.set k y) d=if d=k then some y else nth rest d:=by
 have hk:k<rest.length:=by rw [zd] at h1;exact (zAB.1 h1).1
 rw [zd,zd,zAl]
 by_cases e:k=d
 ·subst e;simp [hk]
 ·rw [if_neg e,if_neg (fun e'=>e e'.symm)]
theorem nth_app {rest xs:List Blk} {k:Nat} {x:Blk} (h:nth rest k=some x):nth (rest++xs) k=some x:=by
 rw [zd] at h ⊢;rw [zAR (zAB.1 h).1,h]
structure RInv (m i kr c0 nc w:Nat) (nxt:Nat->Nat->Nat) (s0:Nat) (cl ws NB:List Nat) (y yr:Nat) (rest:List Blk) (W:List Nat) (R T:List Int):Prop where
 wf:WF m rest ((qd ws (nxt w) y).drop (i+1)) W
 hc0:nth rest c0=some (.cells (bys m w) 5)
 hR:nth rest kr=some (.cells (R.map A2.ie) 3)
 Rl:R.length=256
 Rv:∀ b,b<yr->∃ j:Nat,qU (nxt w b) 0 (qd ws (nxt w) y)=some j/\R[b]?=some (j:Int)
 hT:nth rest (kr+1)=some (.cells (T.map A2.ie) 3)
 Tl:T.length=nc
 Tv:∀ (c:Nat) (v:Int),T[c]?=some v->(v = -1/\∀ b,b<y->cl[b]?≠some c)\/∃ b,b<y/\cl[b]?=some c/\∃ j:Nat,v=j/\qU (nxt w b) 0 (qd ws (nxt w) y)=some j
 rw:RW nxt s0 rest 0 i NB
 nb:∀ k∈NB,k<kr
variable {m i kr c0 nc w:Nat} {nxt:Nat->Nat->Nat} {s0:Nat} {cl ws NB:List Nat} {y yr:Nat} {rest:List Blk} {W:List Nat} {R T:List Int}
theorem RInv.app (h:RInv m i kr c0 nc w nxt s0 cl ws NB y yr rest W R T) (xs:List Blk):RInv m i kr c0 nc w nxt s0 cl ws NB y yr (rest++xs) W R T :=
 {h with wf:=h.wf.mono fun _c _w e=>nth_app e,hc0:=nth_app h.hc0,hR:=nth_app h.hR,hT:=nth_app h.hT,rw:=h.rw.mono fun _k _x _ e=>nth_app e }
def zbZ (ws:List Nat) (w:Nat) (W:List Nat) (c:Nat):List Nat:=match qU w 0 ws with|some _=>W|none=>W++[c]
theorem ziF {ws:List Nat} {x w j:Nat} (h:qU x 0 ws=some j):qU x 0 (yk ws w)=some j:=by
 obtain ⟨rs,e⟩:=ziD (ws:=ws) (w:=w);rw [e];exact ziB h
theorem zeE {k d:Nat} {L:List Int} {u:Nat} (h1:nth rest k=some (.cells (L.map A2.ie) 3)) (h2:nth rest d=some (.cells (bys m u) 5)):d≠k:=fun e=>by
 subst e;rw [h1] at h2;exact absurd (Blk.cells.inj (zAr h2)).2 (by decide)
theorem WF.set {k:Nat} {L:List Int} {x:Blk} {us cs:List Nat} (h:WF m rest us cs) (h1:nth rest k=some (.cells (L.map A2.ie) 3)):WF m (rest.set k x) us cs :=
 h.mono fun c u e=>by rw [qN h1,if_neg (zeE h1 e),e]
theorem RInv.new {c cn j:Nat} (h:RInv m i kr c0 nc w nxt s0 cl ws NB y yr rest W R T) (hcl:cl[y]?=some c) (hcn:nth rest cn=some (.cells (bys m (nxt w y)) 5)) (hi:i+1<=(qd ws (nxt w) y).length)
  (hj:qU (nxt w y) 0 (yk (qd ws (nxt w) y) (nxt w y))=some j):RInv m i kr c0 nc w nxt s0 cl ws NB (y+1) yr (rest.set (kr+1) (.cells ((T.set c (j:Int)).map A2.ie) 3)) (zbZ (qd ws (nxt w) y) (nxt w y) W cn) R (T.set c (j:Int)):=by
 refine { wf:=WF.set (L:=T) ?_ h.hT,hc0:=?_,hR:=?_,Rl:=h.Rl,Rv:=?_,hT:=?_,Tl:=?_,Tv:=?_,rw:=?_,nb:=h.nb }
 ·cases hx:qU (nxt w y) 0 (qd ws (nxt w) y) with
  | some k=>simp only [qd,yk,zbZ,hx];exact h.wf
  | none =>
   simp only [qd,yk,zbZ,hx];rw [List.drop_append_of_le_length hi];exact h.wf.snoc hcn
 ·rw [qN h.hT,if_neg (zeE h.hT h.hc0),h.hc0]
 ·rw [qN h.hT,if_neg (by omega),h.hR]
 ·intro b hb;obtain ⟨j',h1,h2⟩:=h.Rv b hb;exact ⟨j',ziF h1,h2⟩
 ·rw [qN h.hT,if_pos rfl]
 ·rw [zAF,h.Tl]
 ·intro d v hv;rw [zAl] at hv
  by_cases e:c=d
  ·subst e;rw [if_pos rfl] at hv;split at hv
   ·cases hv;exact .inr ⟨y,zBu _,hcl,j,rfl,hj⟩
   ·cases hv
  ·rw [if_neg e] at hv;rcases h.Tv d v hv with ⟨h1,h2⟩|⟨b,h1,h2,j',h3,h4⟩
   ·refine .inl ⟨h1,fun b hb=>?_⟩;rcases zAZ b y with hb'|hb'
    ·exact h2 b hb'
    ·obtain rfl:b=y:=by omega
     rw [hcl];intro e';exact e (zAr e')
   ·exact .inr ⟨b,by omega,h2,j',h3,ziF h4⟩
 ·refine h.rw.mono fun k x hk e=>?_;rw [qN h.hT,if_neg,e];have:=h.nb k hk;omega
theorem RInv.old {c:Nat} {v:Int} (h:RInv m i kr c0 nc w nxt s0 cl ws NB y yr rest W R T) (hcl:cl[y]?=some c) (hv:T[c]?=some v) (h0:¬ v<0) (hcg:∀ b,cl[b]?=some c->nxt w b=nxt w y) :
  qd ws (nxt w) (y+1)=qd ws (nxt w) y/\RInv m i kr c0 nc w nxt s0 cl ws NB (y+1) yr rest W R T:=by
 rcases h.Tv c v hv with ⟨rfl,_⟩|⟨b,h1,h2,j,h3,h4⟩
 ·exact absurd (by decide) h0
 ·have e:qd ws (nxt w) (y+1)=qd ws (nxt w) y:=by
   rw [hcg b h2] at h4;simp only [qd,yk,h4]
  refine ⟨e,{ wf:=by rw [e];exact h.wf,hc0:=h.hc0,hR:=h.hR,Rl:=h.Rl,Rv:=by rw [e];exact h.Rv,hT:=h.hT,Tl:=h.Tl,Tv:=?_,rw:=h.rw,nb:=h.nb }⟩
  intro d u hu;rw [e];rcases h.Tv d u hu with ⟨g1,g2⟩|⟨b',g1,g2,g3⟩
  ·refine .inl ⟨g1,fun b' hb'=>?_⟩;rcases zAZ b' y with hb''|hb''
   ·exact g2 b' hb''
   ·obtain rfl:b'=y:=by omega
    rw [hcl];intro e';have:c=d:=zAr e';subst this;exact g2 b h1 h2
  ·exact .inr ⟨b',by omega,g2,g3⟩
theorem RInv.val {c:Nat} {v:Int} (h:RInv m i kr c0 nc w nxt s0 cl ws NB (y+1) yr rest W R T) (hcl:cl[y]?=some c) (hv:T[c]?=some v) (hcg:∀ b,cl[b]?=some c->nxt w b=nxt w y):∃ j:Nat,v=j/\qU (nxt w y) 0 (qd ws (nxt w) (y+1))=some j:=by
 rcases h.Tv c v hv with ⟨_,h2⟩|⟨b,h1,h2,j,h3,h4⟩
 ·exact absurd hcl (h2 y (zBu _))
 ·rw [hcg b h2] at h4;exact ⟨j,h3,h4⟩
theorem RInv.row {j:Nat} (h:RInv m i kr c0 nc w nxt s0 cl ws NB (y+1) y rest W R T) (hy:y<256) (hj:qU (nxt w y) 0 (qd ws (nxt w) (y+1))=some j):RInv m i kr c0 nc w nxt s0 cl ws NB (y+1) (y+1) (rest.set kr (.cells ((R.set y (j:Int)).map A2.ie) 3)) W (R.set y (j:Int)) T:=by
 refine { wf:=WF.set (L:=R) h.wf h.hR,hc0:=?_,hR:=?_,Rl:=?_,Rv:=?_,hT:=?_,Tl:=h.Tl,Tv:=h.Tv,rw:=?_,nb:=h.nb }
 ·rw [qN h.hR,if_neg (zeE h.hR h.hc0),h.hc0]
 ·rw [qN h.hR,if_pos rfl]
 ·rw [zAF,h.Rl]
 ·intro b hb;rcases zAZ b y with hb'|hb'
  ·obtain ⟨j',h1,h2⟩:=h.Rv b hb';exact ⟨j',h1,by rw [zAl,if_neg (by omega)];exact h2⟩
  ·obtain rfl:b=y:=by omega
   exact ⟨j,hj,by rw [zAl,if_pos rfl,if_pos (by rw [h.Rl];exact hy)]⟩
 ·rw [qN h.hR,if_neg (by omega),h.hT]
 ·refine h.rw.mono fun k x hk e=>?_;rw [qN h.hR,if_neg,e];have:=h.nb k hk;omega
theorem RInv.done (h:RInv m i kr c0 nc w nxt s0 cl (zj nxt s0 i) NB 256 256 rest W R T) (hw:(zj nxt s0 i)[i]?=some w):RW nxt s0 rest 0 (i+1) (NB++[kr])/\WF m rest ((zj nxt s0 (i+1)).drop (i+1)) W:=by
 have e:zj nxt s0 (i+1)=qd (zj nxt s0 i) (nxt w) 256:=by simp only [zj,hw]
 refine ⟨.snoc h.rw h.nb ?_,by rw [e];exact h.wf⟩
 rw [zA0,h.hR]
 congr 3
 apply zBP;intro b;rw [zc5,hw];simp only;rcases zAZ b 256 with hb|hb
 ·obtain ⟨j,h1,h2⟩:=h.Rv b hb;rw [h2,zAY,zBW hb];simp only [zAa,e,h1,zAs]
 ·rw [zAk (by rw [h.Rl];exact hb),zAk (by rw [zAU,List.length_range];exact hb)]
end Go.Proofs.YthohlnmcjkjeiaaGreatDoor
