/- Seat 8, subset: build, walked. Conditions: none but those named. -/
import Derived.Test.YthohlnmcjkjeiaaGreatDoorVmN
import Derived.Test.YthohlnmcjkjeiaaGreatDoorVmP
namespace Go.Proofs.YthohlnmcjkjeiaaGreatDoor
open Go Go.Vm
open Go.Proofs.Tryz
set_option maxRecDepth 100000
section
set_option pp.deepTerms true
set_option pp.maxSteps 200000
variable{gl:Gl}
structure MM(f:A2.F)(m:Nat)(nx:aP)(bs:List bq)(bm:Nat):Prop where
 mm:m=(f.s.2.length+f.f.2.length) / 8+1
 hs:∀q∈f.s.2,CI q
 ns:f.s.2.length<2 ^ 30
 nf:f.f.2.length<2 ^ 30
 nxl:nx.length=f.s.2.length
 M:nth bs bm=some (.cells (ni f (nx.map λp=>cJ m p.1) (xg (rZ f) 256) (t_ (rZ f) 256)) 204)
 X:∀p∈nx,nth bs p.1=some (.cells (dL m p.2) 5)/\p.2<2 ^ (8 * m)
theorem Rk:qL prog 66=some (.agg [.aH,.aH]):=by kernel_rfl
theorem ZP:qL prog 201=some .aH:=by kernel_rfl
theorem ZQ:qL prog 207=some .mz:=by kernel_rfl
theorem Rm:z4 prog 207=some 1:=by kernel_rfl
theorem pR:qG prog 66=some true:=by kernel_rfl
theorem mQ:z4 prog 66=some 2:=by kernel_rfl
theorem Mu:zH prog 66 0=some 0:=by kernel_rfl
theorem in3:∃i,prog.info? 3=some i/\i.bytes=8:=⟨_,rfl,rfl⟩
theorem Rn{b i l c:Nat}(h:i<l):zt prog 27 (.sr b 0 l c) ((i:Nat):Int)=some (.ptr b i):=by
 simp only[zt,D4,tX];rw[if_pos (by omega)]
 simp
theorem zqF{b i:Nat}{l:List Int}(h:i<l.length):wr [] b i 1 ((l.map A2.ie).drop i)=true:=yx λk hk=>by
 obtain rfl:k=0:=by omega
 exact⟨A2.ie l[i],by rw[om,mu,gG h];rfl,rfl⟩
theorem Ro:∀{k:Nat},(List.replicate k [V.int .i64 0]).flatten=(List.replicate k (0:Int)).map A2.ie
 | 0=>rfl
 | k+1=>by rw[G3,List.flatten_cons,Ro,G3];rfl
section
variable{cx:Cx}{takes:cw}{dst:fz}{type:aD}{pos:String}{after:Array Edge}{guard:oq}{env:aG}{H:Hp}{lk:aP}{df:bS}
def Us(P:aY)(t:aD)(x:cj)(lo hi:Option cj)(m:cj):cj :=
 match lo,hi,x,m with
 | some lo,some (some (.int k1 h)),some (.sl sz xs o),some (.int _ k)=>if h<=k/\k<=xs.length then y4 P t (.sl sz xs o) lo (some (.int k1 h)) else none
 | _,_,_,_=>none
theorem zop{t:aD}{x m:a_}{lo hi:Option a_}:cx.op takes ⟨dst,.slice t x lo hi (some m),type,pos,after,guard⟩ env H lk df=iy env H lk df (Us cx.P t (ak env x) (de env lo) (de env hi) (ak env m)):=by
 simp only[Cx.op];refine vC ?_;simp only[jc];unfold Us;cases de env lo with
 | none=>rfl
 | some lo =>
  cases de env hi with
  | none=>rfl
  | some hi =>
   cases ak env x with
   | none=>cases hi with
    | none=>rfl
    | some v=>cases v<;>rfl
   | some v =>
    cases ak env m with
    | none=>cases hi with
     | none=>cases v<;>rfl
     | some u=>cases u<;>cases v<;>rfl
    | some w=>cases hi with
     | none=>cases w<;>cases v<;>rfl
     | some u=>cases u<;>cases w<;>cases v<;>rfl
def Rp(P:aY)(t:aD)(x:Option (V×aG))(lo:Option cj)(H:Hp)(lk:aP)(df:bS):Option (OR×St) :=
 match P.underlying t,x,lo with
 | some (.slice e'),some (.sl sz xs (.yes e),env),some (some (.int _ i))=>match z4 P e' with
  | some n=>match Nat.beq n sz && decide (0<=i) && Nat.ble i.toNat xs.length with
   | true=>some (.val (.sl sz (xs.drop i.toNat) (.yes e)),⟨env,H,lk,df⟩)
   | false=>none
  | none=>none
 | _,_,_=>none
theorem zmQ{t:aD}{x:a_}{lo:Option a_}(hf:xz takes x lo none=true):cx.op takes ⟨dst,.slice t x lo none none,type,pos,after,guard⟩ env H lk df=Rp cx.P t (take env x) (de env lo) H lk df:=by
 simp only[Cx.op,hf,Kw,Rp];cases cx.P.underlying t with
 | none=>rfl
 | some d =>
  cases d<;>try rfl
  cases take env x with
  | none=>rfl
  | some p =>
   obtain⟨v,e⟩:=p;cases v<;>try rfl
   rename_i sz xs o;cases o<;>try rfl
   cases de env lo with
   | none=>rfl
   | some l =>
    cases l with
    | none=>rfl
    | some l =>
     cases l<;>try rfl
     simp only;cases z4 cx.P _ with
     | none=>rfl
     | some n =>
      simp only;generalize (Nat.beq n sz && _ && _)=bb;cases bb<;>rfl
end
structure Mv(b most:Nat)(FN:V)(env:aG):Prop where
 len:env.length=107
 e2:nth env 2=some (.int .i64 (most:Nat))
 e3:nth env 3=some (.ptr b 0)
 e6:nth env 6=some (.ptr (b+1) 0)
 e9:nth env 9=some (.ptr (b+2) 0)
 iZ:nth env 11=some (.ptr (b+5) 0)
 oE:nth env 12=some (.ptr (b+6) 0)
 EC:nth env 13=some FN
theorem zkP{z:Bool}{n e:Nat}{x:V}{xs:aG}:bg (m5 z n e (x::xs))=.sl n (x::xs) .no:=by cases z<;>rfl
theorem zoq{v:V}{wt:aG}:Us prog 201 (some (.sl 1 (v::wt) .no)) (some (some (.int .i64 0))) (some (some (.int .i64 1))) (some (.int .i64 1))=some (.sl 1 [v] .no):=by
 have h1:(1:Int)<=1/\(1:Int)<=(((v::wt).length:Nat):Int):=by simp only[bh];omega
 simp only[Us,h1,and_self,aI];simp[y4,sY,ka]
theorem zqd{m c:Nat}:zt prog 201 (.sl 1 [cJ m c] .no) 0=some (.vp [cJ m c]):=by
 simp[zt,sY,cJ,V.cells,nth]
theorem zix{z:Bool}{v:V}{wt env:aG}{H:Hp}{lk:aP}{df:bS}:Rp prog 201 (some (m5 z 1 205 (v::wt),env)) (some (some (.int .i64 1))) H lk df=some (.val (m5 true 1 205 wt),⟨env,H,lk,df⟩):=by
 rw[zmK];have hb:Nat.ble 1 (wt.length+1)=true:=G1 (by omega)
 simp[Rp,zm,sY,m5,hb]
theorem zkQ{cx:Cx}{takes:cw}{dst:fz}{type:aD}{pos:String}{after:Array Edge}{guard:oq}{env:aG}{H:Hp}{lk:aP}{df:bS}{t:aD}{k:Nat}{lo:a_}(hf:takes.any (Nat.beq (1048576+k))=true):cx.op takes ⟨dst,.slice t (.tmp k) (some lo) none none,type,pos,after,guard⟩ env H lk df=Rp cx.P t (take env (.tmp k)) (de env (some lo)) H lk df:=zmQ hf
theorem ZR:prog.underlying 78=some (.slice 5):=by kernel_rfl
theorem zhB{H:Hp}{b o l c:Nat}:qW prog H 27 (.sr b o l c)=some (l:Int):=by simp only[qW,D4]
theorem Mw:mY prog 28 27 1 24:=⟨by kernel_rfl,by kernel_rfl,by kernel_rfl,by decide,by kernel_rfl,by kernel_rfl,by kernel_rfl⟩
theorem zpB{ws W:bO}{x c:Nat}{v:V}{f:Nat->V}(h:f c=v):J1 ws x (W.map f) v=(II ws x W c).map f:=by
 cases hx:kH x 0 ws with
 | some k=>simp only[J1,II,hx]
 | none=>simp only[J1,II,hx,List.map_append,bk,bw,h]
theorem vQ{cx:Cx}{n:Nat}{Q:Ex->St->Prop}{k:List It}{Bg:aG}{H0:Hp}{Gy:aP}{P:aG->Hp->Prop}(h:∀env H lk,P env H->go cx n Q k .normal ⟨env,H,lk,[]⟩)(h0:P Bg H0):go cx n Q k .normal ⟨Bg,H0,Gy,[]⟩:=h _ _ _ h0
def zoP(bs:List bq)(aU:Nat->Nat->Nat)(s0:Nat)(lab:Nat->Int)(most:Int)(v:V)(H:Hp):Prop :=
 (∃i NB bl es,0<i/\(zl aU s0 i).length=i/\(qB (zl aU s0 i):Int)<=most/\v=.bx [AE (bs.length+7) NB ((zl aU s0 i).map lab),.int .i64 (qB (zl aU s0 i):Nat),.bool true]/\H=⟨bs++bl,es⟩/\RW aU s0 (bs++bl) (bs.length+7) i NB) \/
 (∃i dU bl es z,most<(qB (zl aU s0 i):Int)/\v=.bx [AE (bs.length+7) [] dU,.int .i64 z,.bool false]/\H=⟨bs++bl,es⟩)
theorem ZS{B:Nat}:∀{l:List Int}{q:Nat},(∀z∈l,z.toNat<B)->q<2 ^ B->yQ l q<2 ^ B
 | [],q,_,hq=>hq
 | z::l,q,h,hq=>ZS (l:=l) (λz hz=>h z (eo _ hz)) (I2 hq (G2 (by decide) (h z (fy ..))))
theorem zeb{B:Nat}{rows:List A2.cX}(h:∀row∈rows,∀z∈row.2,z.toNat<B):∀{l:List Int}{q:Nat},q<2 ^ B->qh rows l q<2 ^ B
 | [],q,hq=>hq
 | r::l,q,hq=>by
  refine zeb (l:=l) h ?_;refine ZS (λz hz=>?_) hq;cases hr:rows[r.toNat]? with
  | none=>rw[hr] at hz;simp at hz
  | some row=>rw[hr] at hz;exact h row (pG hr) z hz
set_option maxHeartbeats 1000000 in
theorem zec(hg:GS gl){n bm m most:Nat}{f:A2.F}{nx:aP}{act:A2.cX}{bs:List bq}{es:aP}(hn:m+1000<=n)(uu:m<2 ^ 36)(agv:most<=600)(hM:MM f m nx bs bm)
  (ha:∀r∈act.2,0<=r/\r.toNat<f.f.2.length) (hr:∀row∈f.f.2,row.2.length<n - 2/\row.2.length<2 ^ 60/\∀z∈row.2,0<=z/\z.toNat<f.s.2.length+f.f.2.length) (han:act.2.length<n - 2) (sF:act.2.length<2 ^ 60) :
  ∃v H',zj prog gl (n+1) 74 [.ptr bm 0,A2.iv act,.int .i64 (most:Nat)] ⟨bs,es⟩=some (.ret v,H')/\zoP bs (uc f nx m) (qh f.f.2 act.2 0) (λw=>v8 f.s.2.length (wD m w) (-1)) most v H':=by
 obtain⟨aU,ud⟩:∃x,x=uc f nx m:=⟨_,rfl⟩;obtain⟨s0,DT⟩:∃x,x=qh f.f.2 act.2 0:=⟨_,rfl⟩;obtain⟨lab,Ae⟩:∃x:Nat->Int,x=λw=>v8 f.s.2.length (wD m w) (-1):=⟨_,rfl⟩;rw[<- ud,<- DT,<- Ae]
 suffices bR:(go ⟨prog,gl,zj prog gl n,ey⟩ n (Fx prog f74.results.toList λv H1=>zoP bs aU s0 lab most v H1) [.c (f74.body.getD .skip)] .normal ⟨[.ptr bm 0,A2.iv act,.int .i64 (most:Nat)]++List.replicate 104 (.bx []),⟨bs,[]⟩,[],[]⟩) by
  obtain⟨v,H1,h0,hp⟩:=zO (gl:=gl) (f:=74) (bs:=bs) (es:=es) (args:=[.ptr bm 0,A2.iv act,.int .i64 (most:Nat)]) (n:=n) (hg.hk _ _ (by decide)) (λH=>hg.fq _ _ _ _ (by decide)) func74 rfl (by rw[hg.uq];exact bR)
  rcases hp with⟨i,NB,bl,ru,q1,q2,q3,rfl,rfl,q6⟩|⟨i,dU,bl,ru,z,q1,rfl,rfl⟩
  ·obtain⟨k,hk⟩:∃k,k∈NB:=by
    cases NB with
    | nil=>have:=q6.len;simp at this;omega
    | cons k l=>exact⟨k,fy ..⟩
   have Rq:zX bs.length es (V.bx [AE (bs.length+7) NB ((zl aU s0 i).map lab),.int .i64 (qB (zl aU s0 i):Nat),.bool true]).top ⟨bs++bl,ru⟩=⟨bs++bl,ru++es⟩:=by
    refine yO ?_;have h1:(fY (bs.length+7) k).top<=aL (NB.map (fY (bs.length+7))):=zn (mU.2 ⟨k,hk,rfl⟩);have h2:(bg (zm 1 27 (NB.map (fY (bs.length+7))))).top=aL (NB.map (fY (bs.length+7))):=by rw[jq,ya]
    simp only[fY,V.top] at h1;simp only[AE,V.top,aL,h2];omega
   exact⟨_,_,h0,.inl ⟨i,NB,bl,_,q1,q2,q3,rfl,Rq,q6⟩⟩
  ·have hf:∃ZT iF,zX bs.length es (V.bx [AE (bs.length+7) [] dU,.int .i64 z,.bool false]).top ⟨bs++bl,ru⟩=⟨bs++ZT,iF⟩:=by
    unfold zX;split
    ·exact⟨[],_,by rw[List.take_left,nk]⟩
    ·exact⟨bl,_,rfl⟩
   obtain⟨ZT,iF,hf⟩:=hf;exact⟨_,_,h0,.inr ⟨i,dU,ZT,iF,z,q1,rfl,hf⟩⟩
 have Ca:bm<bs.length:=by have:=hM.M;rw[zg] at this;exact(dA.1 this).1
 simp only[f74,gm,zi];refine zh ?_
 simp only[qt,aK,zi,wz,qQ,z6,zL,qI,aj,jK,z8,aN,aq,aW,zc,aZ,bh,List.length_nil,oh,bp,br,bt,zd,bX,bY,List.replicate,qg (v:=.ptr bm 0) rfl,show V.laid (.ptr bm 0)=[.ptr bm 0] from rfl,Rk,zR (show dD (V.agg [.aH,.aH])=true from rfl),V.cells]
 refine zh ?_
 simp only[qt,aK,zi,qQ,aN,aq,zc,aZ,bh,List.length_nil,oh,Nat.reduceAdd,bp,br,bt,bX,bY,Rk,zR (show dD (V.agg [.aH,.aH])=true from rfl),V.cells]
 refine zh ?_;simp only[BA,ak,aq,zc,Nat.reduceAdd,zd,ze,bX,bY,zdW,ZQ,zR (show dD V.mz=true from rfl),V.cells,Zo]
 have Mf:∀env,qp prog 207 ⟨bs++[.cells [.ptr bm 0] 141,.cells [.aH,.aH] 66,.cells [.aH,.aH] 66,.map [],.cells [.mz] 207],[]⟩ [] [] (some (.map (bs.length+3),env)) (some (.ptr (bs.length+4) 0))=some (.skip,⟨env,⟨bs++[.cells [.ptr bm 0] 141,.cells [.aH,.aH] 66,.cells [.aH,.aH] 66,.map [],.cells [.map (bs.length+3)] 207],[]⟩,[],[]⟩):=λenv=>by
  rw[zA Rm (cs:=[.mz]) (ty:=207) (Go.Vm.get_at.trans rfl) rfl rfl (by simp) rfl,jV (by simp[V.top])]
  simp only[Hp.set,yn];rfl
 simp only[Mf,bB,aq]
 refine zh ?_;simp only[BA,ak,aj,aq,zc,Nat.reduceAdd,zd,ze,bX,bY,Uc,zR (show dD (V.int .i64 0)=true from rfl),V.cells]
 have Cv:∀env,qp prog 3 ⟨bs++[.cells [.ptr bm 0] 141,.cells [.aH,.aH] 66,.cells [.aH,.aH] 66,.map [],.cells [.map (bs.length+3)] 207,.cells [.int .i64 0] 3],[]⟩ [] [] (some (.int .i64 1,env)) (some (.ptr (bs.length+5) 0))=some (.skip,⟨env,⟨bs++[.cells [.ptr bm 0] 141,.cells [.aH,.aH] 66,.cells [.aH,.aH] 66,.map [],.cells [.map (bs.length+3)] 207,.cells [.int .i64 1] 3],[]⟩,[],[]⟩):=λenv=>by
  rw[zA tX (cs:=[.int .i64 0]) (ty:=3) (Go.Vm.get_at.trans rfl) rfl rfl (by simp) rfl,jV (by simp[V.top])]
  simp only[Hp.set,yn];rfl
 simp only[Cv,bB,aq]
 refine zh ?_;simp only[BA,aq,zc,Nat.reduceAdd,bX,bY,ZP,zR (show dD V.aH=true from rfl),V.cells];refine zh ?_
 simp only[BA,av,ak,aq,zd,ze,bX,bY,Ub];have Ft:bs++[bq.cells [.ptr bm 0] 141,.cells [.aH,.aH] 66,.cells [.aH,.aH] 66,.map [],.cells [.map (bs.length+3)] 207,.cells [.int .i64 1] 3,.cells [.aH] 201]=dW bs bm m lab [] [] false [] []:=rfl
 rw[Ft];have nh:∀c,bg (cJ m c)=cJ m c:=λ_=>rfl;obtain⟨FN,Ut⟩:∃F,F=V.fn (.func 111) [] [.ptr (bs.length+4) 0,.ptr (bs.length+5) 0,.ptr (bs.length+6) 0,.ptr (bs.length+2) 0,.ptr bs.length 0]:=⟨_,rfl⟩;have Rr:bg FN=FN:=by rw[Ut];rfl
 have ZU:∀env t,jd env t (some FN)=some (FN,env):=λ_ _=>by rw[Ut];rfl
 have Rs:∀v H,Cx.mB ⟨prog,gl.g,zj prog gl n,ey⟩ FN [v] H=Cx.bK ⟨prog,gl.g,zj prog gl n,ey⟩ 111 [bg v,.ptr (bs.length+4) 0,.ptr (bs.length+5) 0,.ptr (bs.length+6) 0,.ptr (bs.length+2) 0,.ptr bs.length 0] H:=λv H=>by rw[Ut,Y8 rfl];rfl
 rw[<- Ut];simp only[ZU,z8,aN,aq,bX,bY]
 have Rt:f.s.2.length<2 ^ 40:=Nat.lt_trans hM.ns (by decide)
 have Ru:s0<2 ^ (8 * m):=by
  rw[DT]
  exact zeb (λrow cC z hz=>by
   have:=((hr row cC).2.2 z hz).2;have:=hM.mm
   omega) (Nat.pow_pos (by decide))
 have ZV:0<m:=by have:=hM.mm;omega
 have Uu:∀N ws z wait rest,nth (dW bs bm m lab N ws z wait rest) bm=some (.cells (ni f (nx.map λp=>cJ m p.1) (xg (rZ f) 256) (t_ (rZ f) 256)) 204):=λ_ _ _ _ _=>(ZI Ca).trans hM.M;have IJ:∀N ws z wait rest es,zk prog ⟨dW bs bm m lab N ws z wait rest,es⟩ gl.g 141 (.ptr bs.length 0)=some (.ptr bm 0):=λ_ _ _ _ _ _=>zr eU (show Hp.get _ _=_ from JZ) rfl
 obtain⟨b7,GR⟩:∃b7,b7=bs.length+7:=⟨_,rfl⟩;obtain⟨n1,rfl⟩:∃n1,n=n1+1+1+1+1:=⟨n - 4,by omega⟩
 have FZ:Cx.bK ⟨prog,gl.g,zj prog gl (n1+4),ey⟩ 113 [.ptr bm 0,A2.iv act] ⟨dW bs bm m lab [] [] false [] [],[]⟩=some (.val (cJ m (bs.length+7+0)),⟨dW bs bm m lab [] [] false [] [.cells (dL m s0) 5],[]⟩):=by
  refine zu func113 rfl ?_;have:=zkI hg (n:=n1+2) (es:=[]) (act:=act) (Nat.lt_trans hM.ns (by decide)) (Nat.lt_trans hM.nf (by decide)) hM.mm ha (λrow cC=>⟨by have:=(hr row cC).1;omega,(hr row cC).2⟩) (by omega) sF (Uu [] [] false [] []) rfl rfl
  rw[Bo,N_,<- DT] at this;exact this
 have F0:∀{ws:bO}{w c:Nat}{z:Bool}{wait N:aG}{rest:List bq}{es:aP},wait.length<2 ^ 39->ws.length<2 ^ 39->w<2 ^ (8 * m)->(∀x∈ws,x<2 ^ (8 * m))->nth rest c=some (.cells (dL m w) 5)->aL wait<=bs.length+7+rest.length ->
   ∃iF j,Cx.bK ⟨prog,gl.g,zj prog gl (n1+4),ey⟩ 111 [cJ m (bs.length+7+c),.ptr (bs.length+4) 0,.ptr (bs.length+5) 0,.ptr (bs.length+6) 0,.ptr (bs.length+2) 0,.ptr bs.length 0] ⟨dW bs bm m lab N ws z wait rest,es⟩=some (.val (.int .i64 (j:Nat)),⟨dW bs bm m lab N (w7 ws w) z (J1 ws w wait (cJ m (bs.length+7+c))) rest,iF⟩)/\kH w 0 (w7 ws w)=some j:=by
  intro ws w c z wait N rest es q1 q2 q3 q4 q5 q6;obtain⟨iF,j,h1,h2⟩:=zkO hg (z:=z) (n:=n1+3) (es:=es) (N:=N) (by omega) q1 q2 ZV uu q3 q4 Rt hM.M rfl q5 q6
  rw[<- Ae] at h1;exact⟨iF,j,zu func111 rfl h1,h2⟩
 obtain⟨ru,j1,hf1,hj1⟩:=F0 (ws:=[]) (z:=false) (wait:=[]) (N:=[]) (es:=[]) (c:=0) (rest:=[.cells (dL m s0) 5]) (by simp) (by simp) Ru (by simp) rfl (by simp[aL])
 refine zh ?_;simp only[BA,av,ak,aq,aC,Nat.reduceAdd,zd,ze,bX,bY,Rr,IJ,A2.bL,FZ,yP,wG,nh,Rs,hf1]
 refine qx (λk s=>∃i env W z wait rest es NB lk,k+i=700/\s=⟨env,⟨dW bs bm m lab (NB.map (fY b7)) (zl aU s0 i) z wait rest,es⟩,lk,[]⟩/\Mv bs.length most FN env/\wait=W.map (λc=>cJ m (b7+c))/\WF m rest ((zl aU s0 i).drop i) W/\i<=(zl aU s0 i).length/\(qB (zl aU s0 i)<=most\/i=0)/\RW aU s0 rest 0 i NB) 700 (by omega) ?_ ?_
 ·refine⟨0,_,[0],_,_,_,_,[],_,rfl,rfl,⟨rfl,rfl,rfl,rfl,rfl,rfl,rfl,rfl⟩,by rw[GR];rfl,.cons rfl .nil,dP _,.inr rfl,.nil⟩
 clear hf1 hj1 ru j1 FZ;rintro k s ⟨i,env,W,z,wait,rest,es,NB,Gy,hki,rfl,he,J3,hW,hi,sH,hR⟩;have hlen:=he.len;have Up:wait.length=(zl aU s0 i).length - i:=by rw[J3,iK,hW.len,List.length_drop]
 have si:=yb (aU:=aU) (s0:=s0) i;have gI:=Ur si;have IK:∀N ws z wait rest es,zk prog ⟨dW bs bm m lab N ws z wait rest,es⟩ gl.g 201 (.ptr (bs.length+6) 0)=some (m5 z 1 205 wait):=λ_ _ _ _ _ _=>zr ir (show Hp.get _ _=_ from wk (k:=6)) rfl
 have l3:∀N ws z wait rest es,zk prog ⟨dW bs bm m lab N ws z wait rest,es⟩ gl.g 3 (.ptr (bs.length+5) 0)=some (.int .i64 (qB ws:Nat)):=λ_ _ _ _ _ _=>zr iU (show Hp.get _ _=_ from wk (k:=5)) rfl;simp only[zi];refine zh ?_
 by_cases Gk:i<(zl aU s0 i).length/\qB (zl aU s0 i)<=most
 ·obtain⟨Uv,ZW⟩:=Gk;have hd:decide ((0:Int)<((wait.length:Nat):Int))=true:=by simp;omega
  have Ap:decide (((qB (zl aU s0 i):Nat):Int)<=((most:Nat):Int))=true:=by simp;omega
  simp only[BA,Nat.reduceEqDiff,ak,aj,aq,za,bI,Nat.reduceLT,bD,zd,ze,j4,qd,jr,cE,wB,hlen,he.oE,he.iZ,he.e2,IK,l3,s5,Zw sX,wW,No,gt_iff_lt,hd,Ap];refine .inl ?_
  obtain⟨w,Uw⟩:∃w,(zl aU s0 i)[i]?=some w:=⟨_,gG Uv⟩;have fm:(zl aU s0 i).drop i=w::(zl aU s0 i).drop (i+1):=by
   obtain⟨h1,h2⟩:=dA.1 Uw;rw[F8 h1,h2]
  rw[fm] at hW;obtain⟨c0,W',rfl,sJ,Lc⟩:∃c0 W',W=c0::W'/\nth rest c0=some (.cells (dL m w) 5)/\WF m rest ((zl aU s0 i).drop (i+1)) W':=by
   cases hW with
   | cons h t=>exact⟨_,_,rfl,h,t⟩
  obtain⟨wt,As⟩:∃wt,wt=W'.map λc=>cJ m (b7+c):=⟨_,rfl⟩;obtain rfl:wait=cJ m (b7+c0)::wt:=by rw[J3,As];rfl
  refine zh ?_;simp only[BA,Nat.reduceEqDiff,ak,aj,aq,aF,za,bI,Nat.reduceLT,bD,hlen,he.oE,IK,zop,de,zkP,zoq,zqd,zoO,nh];have Ig:∀N ws z wait rest,bs.length+6<(dW bs bm m lab N ws z wait rest).length:=λ_ _ _ _ _=>by rw[N_];omega
  have Rw:∀N ws z wait rest es env,v4 prog 201 env ⟨dW bs bm m lab N ws z wait rest,es⟩ [] [] (some (.ptr (bs.length+6) 0))=some (.val (m5 z 1 205 wait),⟨env,⟨(dW bs bm m lab N ws z wait rest).set (bs.length+6) (.cells ([m5 z 1 205 wait].set 0 (GP z 1 wait)) 201),es⟩,Ez z (bs.length+6) 0 wait,[]⟩):=λ_ _ _ _ _ _ _=>zqb ir (wk (k:=6)) rfl
  have Rx:∀N ws z wait rest es env,qp prog 201 ⟨(dW bs bm m lab N ws z wait rest).set (bs.length+6) (.cells ([m5 z 1 205 wait].set 0 (GP z 1 wait)) 201),es⟩ (Ez z (bs.length+6) 0 wait) [] (some (m5 true 1 205 wt,env)) (some (.ptr (bs.length+6) 0))=some (.skip,⟨env,⟨dW bs bm m lab N ws true wt rest,vg es (bs.length+6) (m5 true 1 205 wt)⟩,Ez z (bs.length+6) 0 wait,[]⟩):=λ_ _ _ _ _ _ _=>by
   rw[zqc CJ.st (Ig _ _ _ _ _) (by simp) rfl rfl]
   rw[show([m5 _ 1 205 _]:aG).set 0 (m5 true 1 205 wt)=[m5 true 1 205 wt] from rfl,zmN]
  refine wK (tk:=[39,1048615]) (by kernel_rfl) ?_
  simp only[qt,aK,zi,zV,Nat.reduceEqDiff,ak,zL,aj,aN,bB,aq,qj,aI,za,bI,Nat.reduceLT,aI,bD,hlen,he.oE,nh,zeZ,Rw,xo (takes:=[39,1048615]) (d:=39) rfl,zkQ (takes:=[39,1048615]) (k:=39) rfl,de,zix,Rx]
  obtain⟨i3,hi3,ZX⟩:=in3;have C4:∀(k:Nat)(N:aG)(ws:bO)(z:Bool)(wait:aG)(rest:List bq)(es:aP)(tk:cw)(dst:fz)(ty:aD)(pos:String)(af:Array Edge)(env:aG)(lo:a_),0<k->k<=256->ak env lo=some (.int .i64 (k:Nat)) ->
    Cx.op ⟨prog,gl.g,zj prog gl (n1+4),ey⟩ tk ⟨dst,.makeSlice 27 lo lo,ty,pos,af,none⟩ env ⟨dW bs bm m lab N ws z wait rest,es⟩ [] []=some (.val (.sr (b7+rest.length) 0 k k),⟨env,⟨dW bs bm m lab N ws z wait (rest++[.cells ((List.replicate k (0:Int)).map A2.ie) 3]),es⟩,[],[]⟩):=by
   intro k N ws z wait rest es tk dst ty pos af env lo Fj DD iB;rw[WG (k:=k) D4 tX Uc rfl hi3 (by decide) rfl rfl iB iB (by rw[ZX];exact j9 (by omega) (by omega)) (by omega)]
   show some (OR.val (V.sr (dW bs bm m lab N ws z wait rest).length 0 k k),St.mk env ⟨dW bs bm m lab N ws z wait rest++[.cells (List.replicate k [V.int .i64 0]).flatten 3],es⟩ [] [])=_;rw[N_,Bo,Ro,GR]
  have J4:∀b o l c env t,jd env t (some (.sr b o l c))=some (.sr b o l c,env):=λ_ _ _ _ _ _=>rfl;have pS:∀b o l c,bg (.sr b o l c)=.sr b o l c:=λ_ _ _ _=>rfl
  refine vQ (P:=λenv H=>∃es,H=⟨dW bs bm m lab (NB.map (fY b7)) (zl aU s0 i) true wt rest,es⟩/\Mv bs.length most FN env/\nth env 14=some (cJ m (b7+c0))) ?_ ⟨_,rfl,⟨by simp[hlen],by simp[za,he.e2],by simp[za,he.e3],by simp[za,he.e6],by simp[za,he.e9],by simp[za,he.iZ],by simp[za,he.oE],by simp[za,he.EC]⟩,by simp[za,hlen]⟩
  clear he hlen es env;rintro env H lk ⟨es,rfl,he,sV⟩;have hlen:=he.len;refine zh ?_;rw[qt,C4 256 _ _ _ _ _ _ _ _ _ _ _ _ _ (by decide) (by decide) rfl]
  obtain⟨R0,hR0⟩:∃R0:List Int,R0=List.replicate 256 0:=⟨_,rfl⟩;rw[<- hR0];simp only[BA,aq,za,Nat.reduceLT,hlen,J4];obtain⟨J5,s6⟩:∃r,r=rest++[bq.cells (R0.map A2.ie) 3]:=⟨_,rfl⟩;rw[<- s6]
  have hLD:∀N ws z wait rest es,zk prog ⟨dW bs bm m lab N ws z wait rest,es⟩ gl.g 78 (.ptr bm 261)=some (t_ (rZ f) 256):=λ_ _ _ _ _ _=>zr Dl (show Hp.get _ _=_ from Uu _ _ _ _ _) (zmH (Um (dB _)));obtain⟨nc,uT,hnp,ZY⟩:∃nc,nc=Ri f/\0<nc/\nc<=256:=⟨_,rfl,zol,zpA⟩;have ZZ:∀H,qW prog H 78 (bg (t_ (rZ f) 256))=some ((nc:Nat):Int):=λH=>by
   rw[t_,Tu ZR,iK,uT];rfl
  have Z0:bg (bg (t_ (rZ f) 256))=bg (t_ (rZ f) 256):=qU;have Ry:aa (V.ptr bm 0)=some (.ptr bm 0):=rfl;refine zh ?_;simp only[BA,Nat.reduceEqDiff,ak,aq,aa,ah,za,bI,Nat.reduceLT,bD,hlen,he.e3,IJ,Di,hLD,Z0,ZZ]
  rw[C4 nc _ _ _ _ _ _ _ _ _ _ _ _ _ hnp ZY (by simp[ak,za,hlen,bg])]
  simp only[BA,Nat.reduceEqDiff,aq,za,bI,Nat.reduceLT,bD,hlen,J4];obtain⟨T0,Z1⟩:∃T0:List Int,T0=List.replicate (nc) 0:=⟨_,rfl⟩;rw[<- Z1];obtain⟨uJ,s7⟩:∃r,r=J5++[bq.cells (T0.map A2.ie) 3]:=⟨_,rfl⟩;rw[<- s7]
  obtain⟨kr,KJ⟩:∃k,k=rest.length:=⟨_,rfl⟩;have tj:J5.length=kr+1:=by rw[s6,KJ];simp
  rw[<- KJ,tj];have Rz:nth uJ (kr+1)=some (.cells (T0.map A2.ie) 3):=by
   rw[s7,zg,fM (by omega),tj];simp
  have RA:nth uJ kr=some (.cells (R0.map A2.ie) 3):=by
   rw[s7,zg,gF (by omega),s6,fM (by omega),KJ];simp
  have La:∀d,d<kr->nth uJ d=nth rest d:=λd hd=>by
   rw[s7,zg,zg,gF (by omega),s6,gF (by omega)]
  clear s6 s7;have RB:∀{N:aG}{ws:bO}{z:Bool}{wait:aG}{rest:List bq}{es:aP}{k j:Nat}{L:List Int}{v:Int},nth rest k=some (.cells (L.map A2.ie) 3)->L[j]?=some v->zk prog ⟨dW bs bm m lab N ws z wait rest,es⟩ gl.g 3 (.ptr (b7+k) j)=some (.int .i64 v):=by
   intro N ws z wait rest es k j L v h1 h2;have rS:Hp.get ⟨dW bs bm m lab N ws z wait rest,es⟩ (b7+k)=some (.cells (L.map A2.ie) 3):=by
    show nth _ _=_;rw[GR,Bn,h1]
   exact zr iU rS (show nth (L.map A2.ie) j=_ by rw[zg,mu,h2];rfl)
  have Mx:∀{N:aG}{ws:bO}{z:Bool}{wait:aG}{rest:List bq}{es:aP}{k j:Nat}{L:List Int}{v:Int}{env:aG},nth rest k=some (.cells (L.map A2.ie) 3)->j<L.length->qp prog 3 ⟨dW bs bm m lab N ws z wait rest,es⟩ [] [] (some (.int .i64 v,env)) (some (.ptr (b7+k) j))=some (.skip,⟨env,⟨dW bs bm m lab N ws z wait (rest.set k (.cells ((L.set j v).map A2.ie) 3)),es⟩,[],[]⟩):=by
   intro N ws z wait rest es k j L v env h1 h2;have rS:Hp.get ⟨dW bs bm m lab N ws z wait rest,es⟩ (b7+k)=some (.cells (L.map A2.ie) 3):=by
    show nth _ _=_;rw[GR,Bn,h1]
   rw[zA tX rS rfl rfl (by rw[iK];omega) (zqF h2),jV (by simp[V.top])]
   show some (OR.skip,St.mk env ⟨(dW bs bm m lab N ws z wait rest).set (b7+k) _,es⟩ [] [])=_;rw[GR,zmM];simp only[V.laid,Vm.storeCells,List.map_set];rfl
  have mh:∀{rest:List bq}{k d:Nat}{x y:bq},nth rest k=some x->nth (rest.set k y) d=if d=k then some y else nth rest d:=by
   intro rest k d x y h1;have hk:k<rest.length:=by rw[zg] at h1;exact(dA.1 h1).1
   rw[zg,zg,tc]
   by_cases e:k=d
   ·subst e;simp[hk]
   ·rw[if_neg e,if_neg (λe'=>e e'.symm)]
  refine vQ (P:=λenv H=>∃es,H=⟨dW bs bm m lab (NB.map (fY b7)) (zl aU s0 i) true wt uJ,es⟩/\Mv bs.length most FN env/\nth env 14=some (cJ m (b7+c0))/\nth env 15=some (.sr (b7+kr) 0 256 256)/\nth env 16=some (.sr (b7+(kr+1)) 0 (nc) (nc))) ?_ ⟨_,rfl,⟨by simp[hlen],by simp[za,he.e2],by simp[za,he.e3],by simp[za,he.e6],by simp[za,he.e9],by simp[za,he.iZ],by simp[za,he.oE],by simp[za,he.EC]⟩,by simp[za,sV],by simp[za,hlen],by simp[za,hlen]⟩
  clear he hlen es env sV;rintro env H lk ⟨es,rfl,he,sV,tW,uK⟩;have hlen:=he.len;refine zh ?_;simp only[BA,ak,aj,aq,za,Nat.reduceLT,hlen,uK,pS,zhB]
  refine qx (λk2 s=>∃(j:Nat)(env:aG)(pT:List bq)(T:List Int),k2+j=nc/\s=⟨env,⟨dW bs bm m lab (NB.map (fY b7)) (zl aU s0 i) true wt pT,es⟩,[],[]⟩/\Mv bs.length most FN env/\nth env 14=some (cJ m (b7+c0))/\nth env 15=some (.sr (b7+kr) 0 256 256)/\nth env 16=some (.sr (b7+(kr+1)) 0 (nc) (nc))/\nth env 48=some (.sr (b7+(kr+1)) 0 (nc) (nc))/\nth env 49=some (.int .i64 (nc:Nat))/\nth env 50=some (.int .i64 (j:Nat))/\nth pT (kr+1)=some (.cells (T.map A2.ie) 3)/\(∀d,d<kr+1->nth pT d=nth uJ d)/\T.length=nc/\∀c,c<j->T[c]?=some (-1)) (nc) (by omega) ?_ ?_
  ·refine⟨0,_,uJ,T0,rfl,rfl,⟨by simp[hlen],by simp[za,he.e2],by simp[za,he.e3],by simp[za,he.e6],by simp[za,he.e9],by simp[za,he.iZ],by simp[za,he.oE],by simp[za,he.EC]⟩,by simp[za,sV],by simp[za,tW],by simp[za,uK],by simp[za,hlen],by simp[za,hlen],by simp[za,hlen],Rz,λ_ _=>rfl,by rw[Z1,List.length_replicate],λc hc=>by omega⟩
  clear he hlen env sV tW uK;rintro k2 s ⟨j,env,pT,T,fq,rfl,he,sV,tW,uK,J6,IL,ED,hT,Ux,Z2,Z3⟩;have hlen:=he.len;simp only[zi];refine zh ?_;simp only[BA,ak,aq,za,Nat.reduceLT,hlen,IL,ED,qV]
  by_cases hj:j<nc
  ·refine .inl ⟨by simp;omega,?_⟩
   refine zh ?_;simp only[BA,Nat.reduceEqDiff,ak,aq,za,bI,Nat.reduceLT,bD,hlen,ED];refine zh ?_
   simp only[BA,Nat.reduceEqDiff,ak,aj,aq,aF,za,bI,Nat.reduceLT,bD,hlen,uK,pS,Rn hj,Mx hT (show j<T.length by omega)]
   refine zh ?_;simp only[BA,Nat.reduceEqDiff,ak,aj,aq,za,bI,Nat.reduceLT,bD,hlen,ED,qn (show j<2 ^ 60 by omega),zp,aO]
   refine⟨nc - 1 - j,by omega,j+1,_,_,T.set j (-1),by omega,rfl,⟨by simp[hlen],by simp[za,he.e2],by simp[za,he.e3],by simp[za,he.e6],by simp[za,he.e9],by simp[za,he.iZ],by simp[za,he.oE],by simp[za,he.EC]⟩,by simp[za,sV],by simp[za,tW],by simp[za,uK],by simp[za,J6],by simp[za,IL],by simp[za,hlen],by rw[mh hT,if_pos rfl],λd hd=>by rw[mh hT,if_neg (by omega)];exact Ux d hd,by rw[bI];exact Z2,λc hc=>?_⟩
   rw[tc]
   by_cases e:j=c
   ·subst e;simp[show j<T.length by omega]
   ·rw[if_neg e];exact Z3 c (by omega)
  ·obtain rfl:nc=j:=by omega
   refine .inr ⟨by simp,?_⟩
   simp only[qk,zN,zD,zp,bN,zi,iV,aI]
   have RC:∀k∈NB,k<kr:=λk hk=>by have:=hR.lt k hk;omega
   have My:∀d,d<kr->nth pT d=nth rest d:=λd hd=>(Ux d (by omega)).trans (La d hd)
   have bW:∀{c u},nth rest c=some (.cells (dL m u) 5)->nth pT c=some (.cells (dL m u) 5):=λ{c u} h=>by
    have:c<kr:=by rw[KJ];rw[zg] at h;exact(dA.1 h).1
    rw[My c this,h]
   have hI0:m6 m i kr c0 nc w aU s0 (GQ f) (zl aU s0 i) NB 0 0 pT W' R0 T :=
    {wf:=Lc.mono λc u h=>bW h,sJ:=bW sJ,hR:=(Ux kr (by omega)).trans RA,Rl:=by rw[hR0,List.length_replicate],Rv:=λb hb=>by omega,hT:=hT,Tl:=Z2
     Tv:=λc v hv=>.inl ⟨by
      have hc:c<T.length:=(dA.1 hv).1;rw[Z3 c (by omega)] at hv
      exact(BQ hv).symm,λb hb=>by omega⟩
     rw:=hR.mono λk x hk h=>by rw[oh] at h ⊢;rw[My k (RC k hk),h]
     nb:=RC }
   refine zh ?_;simp only[BA,Nat.reduceEqDiff,ak,aj,aq,za,bI,Nat.reduceLT,bD,hlen,tW,pS,zhB]
   refine qx (λk3 s=>∃(y:Nat)(env:aG)(gb:List bq)(W2:bO)(R2 T2:List Int)(es:aP),k3+y=256/\s=⟨env,⟨dW bs bm m lab (NB.map (fY b7)) (jO (zl aU s0 i) (aU w) y) true (W2.map λc=>cJ m (b7+c)) gb,es⟩,[],[]⟩/\Mv bs.length most FN env/\nth env 14=some (cJ m (b7+c0))/\nth env 15=some (.sr (b7+kr) 0 256 256)/\nth env 16=some (.sr (b7+(kr+1)) 0 nc nc)/\nth env 58=some (.int .i64 ((256:Nat):Int))/\nth env 59=some (.int .i64 (y:Nat))/\qB (jO (zl aU s0 i) (aU w) y)<=most/\m6 m i kr c0 nc w aU s0 (GQ f) (zl aU s0 i) NB y y gb W2 R2 T2) 256 (by omega) ?_ ?_
   ·exact⟨0,_,pT,W',R0,T,_,rfl,by rw[As];rfl,⟨by simp[hlen],by simp[za,he.e2],by simp[za,he.e3],by simp[za,he.e6],by simp[za,he.e9],by simp[za,he.iZ],by simp[za,he.oE],by simp[za,he.EC]⟩,by simp[za,sV],by simp[za,tW],by simp[za,uK],by simp[za,hlen],by simp[za,hlen],ZW,hI0⟩
   clear he hlen env sV tW uK J6 IL ED hI0 hT Ux My Z2 Z3 bW T pT Rz RA La Z1 sJ Lc;rintro k3 s ⟨y,env,gb,W2,R2,T2,es,Cy,rfl,he,sV,tW,uK,ua,Mz,n_,hI⟩;have hlen:=he.len;simp only[zi];refine zh ?_
   simp only[BA,ak,aq,za,Nat.reduceLT,hlen,ua,Mz,qV]
   by_cases hy:y<256
   ·refine .inl ⟨by simp;omega,?_⟩
    obtain⟨c,hc⟩:∃c,(GQ f)[y]?=some c:=⟨_,gG (by rw[zjN];exact hy)⟩
    have J2:c<nc:=by rw[uT];exact zmP hc
    obtain⟨v,hv⟩:∃v,T2[c]?=some v:=⟨_,gG (by rw[hI.Tl];exact J2)⟩
    have Oa:∀b,(GQ f)[b]?=some c->aU w b=aU w y:=λb hb=>by rw[ud];exact zom hb hc
    have Fb:∀N ws z wait rest es,zk prog ⟨dW bs bm m lab N ws z wait rest,es⟩ gl.g 3 (.ptr bm (5+y))=some (.int .i64 (c:Nat)):=λN ws z wait rest es=>by
     refine zr iU (cs:=ni f (nx.map λp:Nat×Nat=>cJ m p.1) (xg (rZ f) 256) (t_ (rZ f) 256)) (ty:=204) (show Hp.get ⟨dW bs bm m lab N ws z wait rest,es⟩ bm=_ from Uu _ _ _ _ _) ?_;rw[zg,zjM (by rw[Um (dB _)];exact hy)]
     rw[xg,gF (by rw[iK];exact(dA.1 hc).1),mu]
     rw[show(fE (rZ f) 256).2.1[y]?=some c from hc];rfl
    refine zh ?_;simp only[BA,Nat.reduceEqDiff,ak,aq,za,bI,Nat.reduceLT,bD,hlen,Mz];refine zh ?_
    simp only[BA,Nat.reduceEqDiff,ak,aq,aa,ah,aF,za,bI,Nat.reduceLT,bD,hlen,he.e3,IJ,Ad,Zp hy,Fb];refine zh ?_
    simp only[BA,Nat.reduceEqDiff,ak,aj,aq,aF,za,bI,Nat.reduceLT,bD,hlen,uK,pS,Rn J2,RB hI.hT hv,qV]
    let PP:aG->Hp->Prop:=λenv H=>∃(pU:List bq)(W3:bO)(T3:List Int)(es:aP),H=⟨dW bs bm m lab (NB.map (fY b7)) (jO (zl aU s0 i) (aU w) (y+1)) true (W3.map λc=>cJ m (b7+c)) pU,es⟩/\Mv bs.length most FN env/\nth env 14=some (cJ m (b7+c0))/\nth env 15=some (.sr (b7+kr) 0 256 256)/\nth env 16=some (.sr (b7+(kr+1)) 0 nc nc)/\nth env 18=some (.int .i64 (y:Nat))/\nth env 19=some (.int .i64 (c:Nat))/\nth env 58=some (.int .i64 ((256:Nat):Int))/\nth env 59=some (.int .i64 (y:Nat))/\qB (jO (zl aU s0 i) (aU w) (y+1))<=most/\m6 m i kr c0 nc w aU s0 (GQ f) (zl aU s0 i) NB (y+1) y pU W3 R2 T3
    have Z4:aU w y<2 ^ (8 * m):=by rw[ud];exact ZL λp hp=>(hM.X p hp).2
    have Z5:∀x∈jO (zl aU s0 i) (aU w) y,x<2 ^ (8 * m):=ZM (ZN Ru (λw y=>by rw[ud];exact ZL λp hp=>(hM.X p hp).2) i) (λy=>by rw[ud];exact ZL λp hp=>(hM.X p hp).2) y
    have MA:v<0\/¬v<0:=Decidable.em _;rcases MA with MA|MA
    rotate_left
    obtain⟨Mg,hI1⟩:=hI.old hc hv MA Oa;refine .inr ⟨by simpa using MA,?_⟩
    try simp only[bH]
    refine vQ (P:=PP) ?_ ⟨gb,W2,T2,_,by rw[Mg],⟨by simp[hlen],by simp[za,he.e2],by simp[za,he.e3],by simp[za,he.e6],by simp[za,he.e9],by simp[za,he.iZ],by simp[za,he.oE],by simp[za,he.EC]⟩,by simp[za,sV],by simp[za,tW],by simp[za,uK],by simp[za,hlen],by simp[za,hlen],by simp[za,ua],by simp[za,Mz],by rw[Mg];exact n_,hI1⟩
    rotate_left
    refine .inl ⟨by simpa using MA,?_⟩
    obtain⟨X4,hX4⟩:∃X4:List bq,X4=[.cells [.ptr bm 0] 141,.cells [.int .u8 (y:Nat)] 5,.cells (dL m (aU w y)) 5,.cells [cJ m (b7+gb.length+2)] 205]:=⟨_,rfl⟩;have Uy:=hI.app X4;obtain⟨pU,CK⟩:∃r,r=gb++X4:=⟨_,rfl⟩;rw[<- CK] at Uy;have RD:nth pU (gb.length+2)=some (.cells (dL m (aU w y)) 5):=by
     rw[CK,hX4,zg,fM (by omega),MZ];rfl
    have MB:∀es,Cx.bK ⟨prog,gl.g,zj prog gl (n1+4),ey⟩ 114 [.ptr bm 0,cJ m (b7+c0),.int .u8 (y:Nat)] ⟨dW bs bm m lab (NB.map (fY b7)) (jO (zl aU s0 i) (aU w) y) true (W2.map λc=>cJ m (b7+c)) gb,es⟩=some (.val (cJ m (b7+(gb.length+2))),⟨dW bs bm m lab (NB.map (fY b7)) (jO (zl aU s0 i) (aU w) y) true (W2.map λc=>cJ m (b7+c)) pU,es⟩):=λes=>by
     refine zu func114 rfl ?_
     have:=zkH hg (n:=n1) (bm:=bm) (b:=b7+c0) (m:=m) (w:=w) (y:=y) (f:=f) (nx:=nx) (es:=es) uu (by omega) (by omega) hy hM.hs (Nat.lt_trans hM.ns (by decide)) (Nat.lt_trans hM.nf (by decide)) hM.mm hM.nxl (Uu (NB.map (fY b7)) (jO (zl aU s0 i) (aU w) y) true (W2.map λc=>cJ m (b7+c)) gb) rfl rfl rfl (λp hp=>by
      obtain⟨h1,h2⟩:=hM.X p hp;refine⟨?_,h2⟩;have bW:p.1<bs.length:=by rw[zg] at h1;exact(dA.1 h1).1
      rw[ZI bW,h1]) (by rw[GR,Bn,hI.sJ])
     rw[this,zoj,N_,CK,hX4,ud,GR,p6];rfl
    obtain⟨D2,j6,LV,hj6⟩:=F0 (ws:=jO (zl aU s0 i) (aU w) y) (w:=aU w y) (c:=gb.length+2) (z:=true) (wait:=W2.map λc=>cJ m (b7+c)) (N:=NB.map (fY b7)) (rest:=pU) (es:=es) (by
     rw[iK,hI.wf.len,List.length_drop];have:=Ur (xL (g:=aU w) si y);omega) (by
     have:=Ur (xL (g:=aU w) si y);omega) Z4 Z5 RD (qO λv hv=>by
      obtain⟨d,hd,rfl⟩:=mU.1 hv;have:=Uy.wf.lt d hd
      simp only[cJ,V.top];omega)
    have hwN:J1 (jO (zl aU s0 i) (aU w) y) (aU w y) (W2.map λc=>cJ m (b7+c)) (cJ m (bs.length+7+(gb.length+2)))=(II (jO (zl aU s0 i) (aU w) y) (aU w y) W2 (gb.length+2)).map λc=>cJ m (b7+c):=by
     rw[GR];exact zpB rfl
    rw[hwN,<- GR] at LV;have gw:i+1<=(jO (zl aU s0 i) (aU w) y).length:=by
     obtain⟨rs,e⟩:=ze1 (ws:=zl aU s0 i) (g:=aU w) y;rw[e,aZ];omega
    have hI6:=Uy.new hc RD gw hj6;have hcT:c<T2.length:=by rw[hI.Tl];exact J2
    refine zh ?_;simp only[BA,Nat.reduceEqDiff,av,ak,aq,aF,aC,Nat.reduceAdd,za,bI,Nat.reduceLT,bD,hlen,uK,sV,he.e3,he.EC,pS,nh,Rr,IJ,vZ (a:=3) (b:=5) (hm:=rfl),show ey (w8 3)=false from rfl,Zs hy,MB,yP,wG,Rs,LV,Rn J2,Mx Uy.hT hcT]
    have Z6:w7 (jO (zl aU s0 i) (aU w) y) (aU w y)=jO (zl aU s0 i) (aU w) (y+1):=rfl;rw[Z6];have F1:zl aU s0 (i+1)=jO (zl aU s0 i) (aU w) 256:=by simp only[zl,Uw]
    refine zh ?_;simp only[BA,Nat.reduceEqDiff,ak,aq,za,bI,Nat.reduceLT,bD,hlen,he.iZ,he.e2,l3,wW,gt_iff_lt];rcases Decidable.em (most<qB (jO (zl aU s0 i) (aU w) (y+1))) with X8|X8
    ·refine .inl ⟨by simp;omega,?_⟩
     have Dn:∀N ws z wait rest es env,qp prog 66 ⟨dW bs bm m lab N ws z wait rest,es⟩ [] [] (some (.agg [.aH,.aH],env)) (some (.ptr (bs.length+1) 0))=some (.skip,⟨env,⟨dW bs bm m lab N ws z wait rest,es⟩,[],[]⟩):=λN ws z wait rest es env=>by
      have rS:Hp.get ⟨dW bs bm m lab N ws z wait rest,es⟩ (bs.length+1)=some (.cells [.aH,.aH] 66):=wk (k:=1);rw[zA mQ rS rfl rfl (by simp) rfl,jV (by simp[V.top,aL])]
      show some (OR.skip,St.mk env ⟨(dW bs bm m lab N ws z wait rest).set (bs.length+1) (.cells [.aH,.aH] 66),es⟩ [] [])=_;rw[jZ rS]
     have IM:∀N ws z wait rest es,zk prog ⟨dW bs bm m lab N ws z wait rest,es⟩ (λ_ _=>none) 66 (.ptr (bs.length+1) 0)=some (.agg [.aH,.aH]):=λN ws z wait rest es=>by
      have rS:Hp.get ⟨dW bs bm m lab N ws z wait rest,es⟩ (bs.length+1)=some (.cells [.aH,.aH] 66):=wk (k:=1);rw[jX,rS,jB,qy,pR,mQ];rfl
     have Z7:∀env,kw prog 66 #[] env=some (.agg [.aH,.aH]):=λenv=>by kernel_rfl
     refine vo (tk:=[]) (by kernel_rfl) ?_
     apply Exists.intro;apply And.intro;refine qu (m:=0) (v:=.agg [.aH,.aH]) (by kernel_rfl) rfl (by simp only[BA,Z7];rfl) (by kernel_rfl) (by kernel_rfl) (by kernel_rfl) ?_
     dsimp only[aq]
     refine ki (m:=0) (v:=.int .i64 (qB (jO (zl aU s0 i) (aU w) (y+1)):Nat)) (by kernel_rfl) rfl (by simp only[BA,Nat.reduceEqDiff,ak,za,bI,Nat.reduceLT,bD,hlen,he.iZ,l3];rfl) (by kernel_rfl) (by kernel_rfl) (by kernel_rfl) (by kernel_rfl) ?_
     dsimp only[aq]
     refine w4 (m:=1) (cs':=[⟨4,⟨dW bs bm m lab (NB.map (fY b7)) (jO (zl aU s0 i) (aU w) (y+1)) true ((II (jO (zl aU s0 i) (aU w) y) (aU w y) W2 (gb.length+2)).map λc=>cJ m (b7+c)) (pU.set (kr+1) (bq.cells (List.map A2.ie (T2.set c (j6:Int))) 3)),D2⟩,[],[]⟩,⟨0,⟨dW bs bm m lab (NB.map (fY b7)) (jO (zl aU s0 i) (aU w) (y+1)) true ((II (jO (zl aU s0 i) (aU w) y) (aU w y) W2 (gb.length+2)).map λc=>cJ m (b7+c)) (pU.set (kr+1) (bq.cells (List.map A2.ie (T2.set c (j6:Int))) 3)),D2⟩,[],[]⟩]) (by kernel_rfl) rfl (by simp only[BA,Nat.reduceEqDiff,ak,za,bI,Nat.reduceLT,bD,hlen,he.e6,Dn];rfl) (by kernel_rfl) (by kernel_rfl) (λK=>?_) ?_
     rotate_left
     dsimp only[aq]
     refine qu (m:=7) (v:=.int .i64 (qB (jO (zl aU s0 i) (aU w) (y+1)):Nat)) (by kernel_rfl) rfl (by simp only[BA,Nat.reduceEqDiff,za,bI,Nat.reduceLT,bD,hlen];rfl) (by kernel_rfl) (by kernel_rfl) (by kernel_rfl) ?_
     dsimp only[aq]
     refine qu (m:=15) (v:=.bool false) (by kernel_rfl) rfl (by simp only[BA,aj];rfl) (by kernel_rfl) (by kernel_rfl) (by kernel_rfl) vq
     ·simp only[aq];simp only[go_ret,zp,Fx,wg,wj,l8]
      refine⟨trivial,[.agg [.aH,.aH],.int .i64 (qB (jO (zl aU s0 i) (aU w) (y+1)):Nat),.bool false],?_,.inr ⟨i+1,[],_,_,_,?_,rfl,rfl⟩⟩
      ·simp only[zy,za,bI,hlen,Nat.reduceLT,Nat.reduceEqDiff,aI,bD,he.e6,IM,je]
      ·rw[F1];obtain⟨rs,e⟩:=ZF (ws:=zl aU s0 i) (g:=aU w) (y:=y+1) (256 - (y+1));rw[show y+1+(256 - (y+1))=256 by omega] at e
       have:=ZH (ws:=jO (zl aU s0 i) (aU w) (y+1)) (rs:=rs);rw[e];omega
     ·refine j8 ?_ ?_ ?_ ?_
      ·kernel_rfl
      ·rfl
      ·intro c hc;cases hc
      ·unfold Cx.fG;refine wc λq hq=>?_;simp only[dM,uh,tB] at hq;rcases hq with rfl|rfl
       ·split
        ·rfl
        ·split
         next h=>cases h
         ·refine N9 ?_;exact iS (by simp only[BA,Nat.reduceEqDiff,ak,za,bI,Nat.reduceLT,bD,jy,hlen,he.iZ,l3];rfl)
       ·kernel_rfl
    refine .inr ⟨by simp;omega,?_⟩
    try simp only[bH]
    refine vQ (P:=PP) ?_ ⟨_,_,_,_,rfl,⟨by simp[hlen],by simp[za,he.e2],by simp[za,he.e3],by simp[za,he.e6],by simp[za,he.e9],by simp[za,he.iZ],by simp[za,he.oE],by simp[za,he.EC]⟩,by simp[za,sV],by simp[za,tW],by simp[za,uK],by simp[za,hlen],by simp[za,hlen],by simp[za,ua],by simp[za,Mz],by omega,hI6⟩
    all_goals
     clear hI hv MA sV tW uK ua Mz hlen he n_;rintro env H lk ⟨pU,W3,T3,es,rfl,he,sV,tW,uK,e18,e19,ua,Mz,n_,hI⟩;have hlen:=he.len;obtain⟨v,hv⟩:∃v,T3[c]?=some v:=⟨_,gG (by rw[hI.Tl];exact J2)⟩
     obtain⟨j7,rfl,hj7⟩:=hI.val hc hv Oa;have hyR:y<R2.length:=by rw[hI.Rl];exact hy
     refine zh ?_;simp only[BA,Nat.reduceEqDiff,ak,aq,aF,za,bI,Nat.reduceLT,bD,hlen,tW,uK,e18,e19,pS,Rn J2,Rn hy,RB hI.hT hv,Mx hI.hR hyR];refine zh ?_
     simp only[BA,Nat.reduceEqDiff,ak,aj,aq,za,bI,Nat.reduceLT,bD,Mz,hlen,qn (show y<2 ^ 60 by omega),zp,aO]
     exact⟨255 - y,by omega,y+1,_,_,W3,_,T3,_,by omega,rfl,⟨by simp[hlen],by simp[za,he.e2],by simp[za,he.e3],by simp[za,he.e6],by simp[za,he.e9],by simp[za,he.iZ],by simp[za,he.oE],by simp[za,he.EC]⟩,by simp[za,sV],by simp[za,tW],by simp[za,uK],by simp[za,ua],by simp[za,hlen],n_,hI.row hy hj7⟩
   ·obtain rfl:256=y:=by have:=Cy;omega
    refine .inr ⟨by simp,?_⟩
    simp only[qk,zN,zD,zp,bN,iV,aI]
    obtain⟨Uz,hWF⟩:=hI.done Uw;have F1:zl aU s0 (i+1)=jO (zl aU s0 i) (aU w) 256:=by simp only[zl,Uw]
    rw[<- F1] at n_ ⊢;have QD:(NB.map (fY b7)).length=i:=by rw[iK,hR.len]
    have RE:∀N ws z wait rest,bs.length+2<(dW bs bm m lab N ws z wait rest).length:=λ_ _ _ _ _=>by rw[N_];omega
    have Fh:∀env,v4 prog 28 env ⟨dW bs bm m lab (NB.map (fY b7)) (zl aU s0 (i+1)) true (W2.map λc=>cJ m (b7+c)) gb,es⟩ [] [] (some (.ptr (bs.length+2) 0))=some (.val (zm 1 27 (NB.map (fY b7))),⟨env,⟨(dW bs bm m lab (NB.map (fY b7)) (zl aU s0 (i+1)) true (W2.map λc=>cJ m (b7+c)) gb).set (bs.length+2) (.cells ([zm 1 27 (NB.map (fY b7)),zm 1 3 ((zl aU s0 (i+1)).map λw=>A2.ie (lab w))].set 0 (oO 1 (NB.map (fY b7)))) 66),es⟩,kD (bs.length+2) 0 (NB.map (fY b7)),[]⟩):=λenv=>Q2 oP (wk (k:=2)) rfl
    have lQ:=Mw.BH (v:=.sr (b7+kr) 0 256 256) rfl rfl;have gj:∀H,kb prog H 28 (zm 1 27 (NB.map (fY b7))) (.sl 1 [.sr (b7+kr) 0 256 256] .no)=some (zm 1 27 (NB.map (fY b7)++[.sr (b7+kr) 0 256 256])):=λH=>jM Mw (by simp) (j9 (by rw[QD];simp;omega) (by rw[QD];simp;omega))
    have RF:∀env,qp prog 28 ⟨(dW bs bm m lab (NB.map (fY b7)) (zl aU s0 (i+1)) true (W2.map λc=>cJ m (b7+c)) gb).set (bs.length+2) (.cells ([zm 1 27 (NB.map (fY b7)),zm 1 3 ((zl aU s0 (i+1)).map λw=>A2.ie (lab w))].set 0 (oO 1 (NB.map (fY b7)))) 66),es⟩ (kD (bs.length+2) 0 (NB.map (fY b7))) [] (some (zm 1 27 (NB.map (fY b7)++[.sr (b7+kr) 0 256 256]),env)) (some (.ptr (bs.length+2) 0))=some (.skip,⟨env,⟨dW bs bm m lab ((NB++[kr]).map (fY b7)) (zl aU s0 (i+1)) true (W2.map λc=>cJ m (b7+c)) gb,vg es (bs.length+2) (zm 1 27 (NB.map (fY b7)++[.sr (b7+kr) 0 256 256]))⟩,kD (bs.length+2) 0 (NB.map (fY b7)),[]⟩):=λenv=>by
     rw[Uj Mw.st (RE _ _ _ _ _) (by simp)]
     rw[show([zm 1 27 (NB.map (fY b7)),zm 1 3 ((zl aU s0 (i+1)).map λw=>A2.ie (lab w))]:aG).set 0 (zm 1 27 (NB.map (fY b7)++[.sr (b7+kr) 0 256 256]))=[zm 1 27 (NB.map (fY b7)++[.sr (b7+kr) 0 256 256]),zm 1 3 ((zl aU s0 (i+1)).map λw=>A2.ie (lab w))] from rfl,zmO,List.map_append];rfl
    refine wK (tk:=[97]) (by kernel_rfl) ?_
    simp only[BA,Nat.reduceEqDiff,ak,aq,ah,za,bI,Nat.reduceLT,bD,hlen,tW,he.e9,Mu,pS,Fh,lQ,BG,gj,RF,ky (cx:=⟨prog,gl.g,zj prog gl (n1+4),ey⟩) (show rC prog ey 28=false by kernel_rfl),zp,aO]
    have gw:i+1<=(zl aU s0 (i+1)).length:=by
     obtain⟨rs,e⟩:=ZG (aU:=aU) (s0:=s0) (Nat.le_succ i);rw[e,aZ];omega
    exact⟨k - 1,by omega,i+1,_,W2,true,_,gb,_,NB++[kr],_,by omega,rfl,⟨by simp[hlen],by simp[za,he.e2],by simp[za,he.e3],by simp[za,he.e6],by simp[za,he.e9],by simp[za,he.iZ],by simp[za,he.oE],by simp[za,he.EC]⟩,rfl,hWF,gw,.inl n_,Uz⟩
 ·have l66:∀N ws z wait rest es,zk prog ⟨dW bs bm m lab N ws z wait rest,es⟩ gl.g 66 (.ptr (bs.length+2) 0)=some (.agg [zm 1 27 N,zm 1 3 (ws.map λw=>A2.ie (lab w))]):=λN ws z wait rest es=>by
   have rS:Hp.get ⟨dW bs bm m lab N ws z wait rest,es⟩ (bs.length+2)=some (.cells [zm 1 27 N,zm 1 3 (ws.map λw=>A2.ie (lab w))] 66):=wk (k:=2);rw[jX,rS,jB,qy,pR,mQ];simp[wP]
  let PE:aG->Hp->Prop:=λenv H=>H=⟨dW bs bm m lab (NB.map (fY b7)) (zl aU s0 i) z wait rest,es⟩/\Mv bs.length most FN env
  rcases eY i (zl aU s0 i).length with Uv|Uv
  have hd:decide ((0:Int)<((wait.length:Nat):Int))=true:=by simp;omega
  have Ap:decide (((qB (zl aU s0 i):Nat):Int)<=((most:Nat):Int))=false:=by
   simp only[decide_eq_false_iff_not];intro h;exact Gk ⟨Uv,by omega⟩
  simp only[BA,Nat.reduceEqDiff,ak,aj,aq,za,bI,Nat.reduceLT,bD,zd,ze,j4,qd,jr,cE,wB,hlen,he.oE,he.iZ,he.e2,IK,l3,s5,Zw sX,wW,No,gt_iff_lt,hd,Ap];refine .inr ?_
  simp only[qk,zN,zD,zp,bN,zi,iV,aI]
  refine vQ (P:=PE) ?_ ⟨rfl,⟨by simp[hlen],by simp[za,he.e2],by simp[za,he.e3],by simp[za,he.e6],by simp[za,he.e9],by simp[za,he.iZ],by simp[za,he.oE],by simp[za,he.EC]⟩⟩
  rotate_left
  have hd:decide ((0:Int)<((wait.length:Nat):Int))=false:=by
   rw[show wait.length=0 by omega];rfl
  simp only[BA,Nat.reduceEqDiff,ak,aj,aq,za,bI,Nat.reduceLT,bD,zd,ze,j4,qd,jr,cG,wC,hlen,he.oE,he.iZ,he.e2,IK,l3,s5,Zw sX,wW,No,gt_iff_lt,hd];refine .inr ?_
  simp only[qk,zN,zD,zp,bN,zi,iV,aI]
  refine vQ (P:=PE) ?_ ⟨rfl,⟨by simp[hlen],by simp[za,he.e2],by simp[za,he.e3],by simp[za,he.e6],by simp[za,he.e9],by simp[za,he.iZ],by simp[za,he.oE],by simp[za,he.EC]⟩⟩
  all_goals
   clear hd he hlen;rintro env H lk ⟨rfl,he⟩;have hlen:=he.len;obtain⟨DV,RG⟩:∃D,D=[bg (zm 1 27 (NB.map (fY b7))),bg (zm 1 3 ((zl aU s0 i).map λw=>A2.ie (lab w)))]:=⟨_,rfl⟩;obtain⟨DR,Z8⟩:∃D,D=[zm 1 27 (NB.map (fY b7)),zm 1 3 ((zl aU s0 i).map λw=>A2.ie (lab w))]:=⟨_,rfl⟩;have RH:=l66 (NB.map (fY b7)) (zl aU s0 i) z wait rest es;rw[<- Z8] at RH
   obtain⟨B',GB⟩:∃B',B'=(dW bs bm m lab (NB.map (fY b7)) (zl aU s0 i) z wait rest).set (bs.length+1) (.cells DV 66):=⟨_,rfl⟩;obtain⟨e',At⟩:∃e',e'=vg es (bs.length+1) (.agg DR):=⟨_,rfl⟩;have GU:DR.map bg=DV:=by rw[RG,Z8];rfl
   have GV:DV.length=2:=by rw[RG];rfl
   have hDk:dD (.agg DR)=true:=by rw[Z8];rfl
   have Un:Hp.get ⟨dW bs bm m lab (NB.map (fY b7)) (zl aU s0 i) z wait rest,es⟩ (bs.length+1)=some (.cells [.aH,.aH] 66):=wk (k:=1);have MC:nth (dW bs bm m lab (NB.map (fY b7)) (zl aU s0 i) z wait rest) (bs.length+1)=some (.cells [.aH,.aH] 66):=Un
   have Z9:∀env,qp prog 66 ⟨dW bs bm m lab (NB.map (fY b7)) (zl aU s0 i) z wait rest,es⟩ [] [] (some (.agg DR,env)) (some (.ptr (bs.length+1) 0))=some (.skip,⟨env,⟨B',e'⟩,[],[]⟩):=λenv=>by
    rw[zA mQ Un hDk (by show(DR.map bg).length=2;rw[GU,GV]) (by simp) rfl]
    simp only[Hp.set,gC];rw[show V.laid (.agg DR)=DV from GU];have:Vm.storeCells [.aH,.aH] 0 DV=DV:=by rw[RG];rfl
    rw[this,<- GB,<- At]
   have l3':zk prog ⟨B',e'⟩ gl.g 3 (.ptr (bs.length+5) 0)=some (.int .i64 (qB (zl aU s0 i):Nat)):=by
    have Z_:Hp.get ⟨B',e'⟩ (bs.length+5)=some (.cells [.int .i64 (qB (zl aU s0 i):Nat)] 3):=by
     show nth B' _=_;rw[GB,kI MC,if_neg (by omega)]
     exact wk (k:=5)
    exact zr iU Z_ rfl
   have aaa:zk prog ⟨B',e'⟩ (λ_ _=>none) 66 (.ptr (bs.length+1) 0)=some (.agg DV):=by
    have Z_:Hp.get ⟨B',e'⟩ (bs.length+1)=some (.cells DV 66):=by
     show nth B' _=_;rw[GB,kI MC,if_pos rfl]
    rw[jX,Z_,jB,qy,pR,mQ,RG];simp[wP]
   have Oc:∀env t,jd env t (some (.agg DR))=some (.agg DR,env):=λ_ _=>rfl;refine vo (tk:=[]) (by kernel_rfl) ?_
   apply Exists.intro;apply And.intro;refine ki (m:=0) (v:=.agg DR) (by kernel_rfl) rfl (by simp only[BA,ak,he.e9,RH];rfl) (by kernel_rfl) (by kernel_rfl) (by kernel_rfl) (by kernel_rfl) ?_
   dsimp only[aq]
   refine ki (m:=0) (v:=.int .i64 (qB (zl aU s0 i):Nat)) (by kernel_rfl) rfl (by simp only[BA,Nat.reduceEqDiff,ak,za,Nat.reduceLT,bD,hlen,he.iZ,l3];rfl) (by kernel_rfl) (by kernel_rfl) (by kernel_rfl) (by kernel_rfl) ?_
   dsimp only[aq]
   refine ki (m:=0) (v:=.int .i64 (qB (zl aU s0 i):Nat)) (by kernel_rfl) rfl (by simp only[BA,Nat.reduceEqDiff,ak,za,bI,Nat.reduceLT,bD,hlen,he.iZ,l3];rfl) (by kernel_rfl) (by kernel_rfl) (by kernel_rfl) (by kernel_rfl) ?_
   dsimp only[aq]
   refine qu (m:=0) (v:=.int .i64 (most:Nat)) (by kernel_rfl) rfl (by simp only[BA,Nat.reduceEqDiff,ak,za,bI,Nat.reduceLT,bD,hlen,he.e2];rfl) (by kernel_rfl) (by kernel_rfl) (by kernel_rfl) ?_
   dsimp only[aq]
   refine qu (m:=12) (v:=.bool (decide (((qB (zl aU s0 i):Nat):Int)<=((most:Nat):Int)))) (by kernel_rfl) rfl (by simp only[BA,Nat.reduceEqDiff,ak,za,bI,Nat.reduceLT,bD,hlen,No];rfl) (by kernel_rfl) (by kernel_rfl) (by kernel_rfl) ?_
   dsimp only[aq]
   refine w4 (m:=1) (cs':=[⟨32,⟨B',e'⟩,[],[]⟩,⟨0,⟨dW bs bm m lab (NB.map (fY b7)) (zl aU s0 i) z wait rest,es⟩,[],[]⟩]) (by kernel_rfl) rfl (by simp only[BA,Nat.reduceEqDiff,ak,za,bI,Nat.reduceLT,bD,hlen,he.e6,Oc,Z9];rfl) (by kernel_rfl) (by kernel_rfl) (λK=>?_) ?_
   rotate_left
   dsimp only[aq]
   refine qu (m:=35) (v:=.int .i64 (qB (zl aU s0 i):Nat)) (by kernel_rfl) rfl (by simp only[BA,Nat.reduceEqDiff,za,bI,Nat.reduceLT,bD,hlen];rfl) (by kernel_rfl) (by kernel_rfl) (by kernel_rfl) ?_
   dsimp only[aq]
   refine qu (m:=127) (v:=.bool (decide (((qB (zl aU s0 i):Nat):Int)<=((most:Nat):Int)))) (by kernel_rfl) rfl (by simp only[BA,Nat.reduceEqDiff,za,bI,Nat.reduceLT,bD,hlen];rfl) (by kernel_rfl) (by kernel_rfl) (by kernel_rfl) vq
   ·simp only[aq];simp only[go_ret,zp,Fx]
    refine⟨trivial,[.agg DV,.int .i64 (qB (zl aU s0 i):Nat),.bool (decide (((qB (zl aU s0 i):Nat):Int)<=((most:Nat):Int)))],?_,?_⟩
    ·simp only[zy,za,bI,hlen,Nat.reduceLT,Nat.reduceEqDiff,aI,bD,he.e6,aaa,je]
    ·obtain⟨bl,lM⟩:∃bl,B'=bs++bl:=⟨_,by rw[GB,dW,yn]⟩
     have aab:j_ [.agg DV,.int .i64 (qB (zl aU s0 i):Nat),.bool (decide (((qB (zl aU s0 i):Nat):Int)<=((most:Nat):Int)))]=.bx [.agg DV,.int .i64 (qB (zl aU s0 i):Nat),.bool (decide (((qB (zl aU s0 i):Nat):Int)<=((most:Nat):Int)))]:=rfl;have C_:V.agg DV=AE (bs.length+7) NB ((zl aU s0 i).map lab):=by
      rw[AE,RG,GR,List.map_map];rfl
     rw[aab,C_];rcases eY most (qB (zl aU s0 i)) with nB|nB
     ·have h0:i=0:=by
       rcases sH with h|h
       ·omega
       ·exact h
      have hNB:NB=[]:=G0 (by rw[hR.len,h0])
      rw[hNB,decide_eq_false (by omega)]
      exact .inr ⟨i,(zl aU s0 i).map lab,bl,e',(qB (zl aU s0 i):Nat),by omega,rfl,by rw[lM]⟩
     ·have agB:0<(zl aU s0 i).length:=by
       obtain⟨rs,e⟩:=ZG (aU:=aU) (s0:=s0) (dP i);rw[e];simp[zl]
      have aac:(zl aU s0 i).length=i:=by
       rcases eY i (zl aU s0 i).length with h|h
       ·exact absurd ⟨h,nB⟩ Gk
       ·omega
      have Uz:RW aU s0 B' (bs.length+7) i NB:=hR.mono λk x hk h=>by
       rw[oh] at h;rw[GB,kI MC,if_neg (by omega),Bn,h]
      rw[lM] at Uz;rw[decide_eq_true (by omega)]
      exact .inl ⟨i,NB,bl,e',by omega,aac,by omega,rfl,by rw[lM],Uz⟩
   ·refine j8 ?_ ?_ ?_ ?_
    ·kernel_rfl
    ·rfl
    ·intro c hc;cases hc
    ·unfold Cx.fG;refine wc λq hq=>?_;simp only[dM,uh,tB] at hq;rcases hq with rfl|rfl|rfl|rfl|rfl
     ·kernel_rfl
     ·kernel_rfl
     ·split
      ·rfl
      ·split
       next h=>cases h
       ·refine N9 ?_;exact iS (by simp only[BA,Nat.reduceEqDiff,ak,Nat.reduceAdd,za,bI,Nat.reduceLT,bD,jy,hlen,he.iZ,l3'];rfl)
     ·split
      ·rfl
      ·split
       next h=>cases h
       ·refine N9 ?_;exact iS (by simp only[BA,Nat.reduceEqDiff,ak,za,Nat.reduceLT,bD,jy,hlen,he.iZ,l3'];rfl)
     ·kernel_rfl
end
section
set_option pp.deepTerms true
set_option pp.maxSteps 200000
variable{gl:Gl}
def J7(f:A2.F)(_m b:Nat):aP:=(List.range f.n.2.length).map λj=>(b+j,(f.n.2[j]?.map yR).getD 0)
theorem zor{f:A2.F}{m b:Nat}:yU m b f.n.2.length=(J7 f m b).map λp=>cJ m p.1:=by
 rw[yU,J7,List.map_map];rfl
structure J8(f:A2.F)(m n:Nat):Prop where
 mm:m=(f.s.2.length+f.f.2.length) / 8+1
 hs:∀q∈f.s.2,CI q
 ns:f.s.2.length<n/\f.s.2.length<2 ^ 30
 nf:f.f.2.length<2 ^ 30
 nl:f.n.2.length=f.s.2.length
 nr:∀row∈f.n.2,row.2.length<n/\row.2.length<2 ^ 60/\∀z∈row.2,0<=z/\z.toNat<f.s.2.length+f.f.2.length
 fr:∀row∈f.f.2,row.2.length<n/\row.2.length<2 ^ 60/\∀z∈row.2,0<=z/\z.toNat<f.s.2.length+f.f.2.length
theorem zmR{f:A2.F}{m n:Nat}(h:J8 f m n){row:A2.cX}(hr:row∈f.n.2):yR row<2 ^ (8 * m):=by
 refine ZS (λz hz=>?_) (Nat.pow_pos (by decide))
 have:=((h.nr row hr).2.2 z hz).2;have:=h.mm;omega
theorem zoQ{f:A2.F}{m n:Nat}(h:J8 f m n){bs eC:List bq}:MM f m (J7 f m (bs.length+2)) (eN bs f (yU m (bs.length+2) f.n.2.length) (xg (rZ f) 256) (t_ (rZ f) 256) (yS m f.n.2++eC)) (bs.length+1) where
 mm:=h.mm
 hs:=h.hs
 ns:=h.ns.2
 nf:=h.nf
 nxl:=by rw[J7,iK,List.length_range,h.nl]
 M:=by rw[Dk,zor]
 X:=λp hp=>by
  obtain⟨j,hj,rfl⟩:=mU.1 hp;have sC:j<f.n.2.length:=Gd.1 hj;have cC:f.n.2[j]?=some f.n.2[j]:=gG sC;have h1:nth (yS m f.n.2++eC) j=some (.cells (dL m (yR f.n.2[j])) 5):=by
   rw[zg,gF (by simp[yS];exact sC),yS,mu,cC];rfl
  simp only[cC,aW,gm];exact⟨uI.trans h1,zmR h (List.getElem_mem sC)⟩
def BuP(_f:A2.F)(aU:Nat->Nat->Nat)(s0:Nat)(lab:Nat->Int)(v:V)(B:List bq):Prop :=
 (∃i b NB,0<i/\(zl aU s0 i).length=i/\qB (zl aU s0 i)<=600/\v=.bx [AE b NB ((zl aU s0 i).map lab),.bP]/\RW aU s0 B b i NB) \/
 (∃i,600<qB (zl aU s0 i)/\v=.bx [.agg [.aH,.aH],.dX 396 (.obj 2)])
theorem zjO{f:A2.F}{m b:Nat}:(J7 f m b).map (·.2)=f.n.2.map yR:=by
 rw[J7,List.map_map];apply EI;intro j;rw[mu,mu];rcases eY j f.n.2.length with h|h
 ·rw[Kj h,gG h];simp[gG h]
 ·rw[uf (by simpa using h),uf h];rfl
theorem uL:qG prog 37=some false:=by kernel_rfl
theorem fcl{f:A2.F}:V.laid (A2.fv f)=A2.fc f:=zmD f
theorem J9:∀env,kw prog 66 #[] env=some (.agg [.aH,.aH]):=λenv=>by kernel_rfl
set_option maxHeartbeats 1000000 in
theorem ze3(hg:GS gl){n m:Nat}{f:A2.F}{act:A2.cX}{ck rk:Bool}(hn:m+1000<=n)(uu:m<2 ^ 36)(BN:gl.hk 24 [A2.fv f]=some (.bool ck))(MD:gl.hk 72 [A2.fv f,A2.iv act]=some (.bool rk))(RJ:gl.g 0 0=some (.dX 396 (.obj 0)))(BF:gl.g 2 0=some (.dX 396 (.obj 2)))
  (hF:ck=true->rk=true->J8 f m (n - 3)/\(∀r∈act.2,0<=r/\r.toNat<f.f.2.length)/\act.2.length<n - 3/\act.2.length<2 ^ 60) :
  ∃v H',zj prog gl (n+1+1) 28 [A2.fv f,A2.iv act] ⟨[],[]⟩=some (.ret v,H') /\
   if ck=true/\rk=true then ∃nx:aP,nx.map (·.2)=f.n.2.map yR/\BuP f (uc f nx m) (qh f.f.2 act.2 0) (λw=>v8 f.s.2.length (wD m w) (-1)) v H'.az else v=.bx [.agg [.aH,.aH],.dX 396 (.obj 0)]:=by
 suffices bR:(go ⟨prog,gl,zj prog gl (n+1),ey⟩ (n+1) (Fx prog f28.results.toList λv H1=>if ck=true/\rk=true then ∃nx:aP,nx.map (·.2)=f.n.2.map yR/\BuP f (uc f nx m) (qh f.f.2 act.2 0) (λw=>v8 f.s.2.length (wD m w) (-1)) v H1.az else v=.bx [.agg [.aH,.aH],.dX 396 (.obj 0)]) [.c (f28.body.getD .skip)] .normal ⟨[A2.fv f,A2.iv act]++List.replicate 31 (.bx []),⟨[],[]⟩,[],[]⟩) by
  obtain⟨v,H1,h0,hp⟩:=zO (gl:=gl) (f:=28) (bs:=[]) (es:=[]) (args:=[A2.fv f,A2.iv act]) (n:=n+1) (hg.hk _ _ (by decide)) (λH=>hg.fq _ _ _ _ (by decide)) func28 rfl (by rw[hg.uq];exact bR)
  refine⟨v,_,h0,?_⟩;split
  ·rename_i hc;rw[if_pos hc] at hp;obtain⟨nx,h1,hp⟩:=hp;refine⟨nx,h1,?_⟩;rcases hp with⟨i,b,NB,q1,q2,q3,rfl,q5⟩|hp
   ·refine .inl ⟨i,b,NB,q1,q2,q3,rfl,?_⟩;obtain⟨k,hk⟩:∃k,k∈NB:=by
     cases NB with
     | nil=>have:=q5.len;simp at this;omega
     | cons k l=>exact⟨k,fy ..⟩
    rw[show zX ([]:List bq).length [] _ H1=⟨H1.az,H1.bJ++[]⟩ from yO (by
     have h1:(fY b k).top<=aL (NB.map (fY b)):=zn (mU.2 ⟨k,hk,rfl⟩);have h2:(bg (zm 1 27 (NB.map (fY b)))).top=aL (NB.map (fY b)):=by rw[jq,ya]
     simp only[fY,V.top] at h1;simp only[AE,V.top,aL,h2,List.length_nil]
     omega)]
    exact q5
   ·exact .inr hp
  next hc=>rw[if_neg hc] at hp;exact hp
 have Jq:dD (A2.fv f)=true:=rfl;have Gt:∀env t,jd env t (some (A2.fv f))=some (A2.fv f,env):=λ_ _=>rfl;have Aa:bg (A2.fv f)=A2.fv f:=rfl;have Is:∀H,Cx.bK ⟨prog,gl.g,zj prog gl (n+1),ey⟩ 24 [A2.fv f] H=some (.val (.bool ck),H):=λH=>zu func24 rfl (yN BN)
 have UA:∀H,Cx.bK ⟨prog,gl.g,zj prog gl (n+1),ey⟩ 72 [A2.fv f,A2.iv act] H=some (.val (.bool rk),H):=λH=>zu func72 rfl (yN MD);have D5:∀x e,zk prog ⟨[.cells (A2.fc f) 30,x],e⟩ gl.g 30 (.ptr 0 0)=some (A2.fv f):=λx e=>by
  rw[jX,show Hp.get ⟨[.cells (A2.fc f) 30,x],e⟩ 0=some (.cells (A2.fc f) 30) from rfl,jB,qy,FP,FQ];simp[wP,A2.fv,A2.fc]
 have Od:∀H,zk prog H gl.g 37 (.eV 0 0)=some (.dX 396 (.obj 0)):=λH=>by simp[zk,uL,RJ]
 have UB:∀H,zk prog H gl.g 37 (.eV 2 0)=some (.dX 396 (.obj 2)):=λH=>by simp[zk,uL,BF]
 have s8:∀k,bg (V.dX 396 (.obj k))=.dX 396 (.obj k):=λ_=>rfl;simp only[f28,gm,zi];refine zh ?_
 simp only[qt,aK,zi,wz,qQ,z6,zL,qI,aj,z8,aN,aq,aW,zc,bh,List.length_nil,oh,br,bt,zd,bX,bY,List.replicate,Gt,qg Jq,fcl,Rk,zR (show dD (V.agg [.aH,.aH])=true from rfl),V.cells]
 refine zh ?_;have Dn:∀B e env,nth B 1=some (.cells [.aH,.aH] 66)->qp prog 66 ⟨B,e⟩ [] [] (some (.agg [.aH,.aH],env)) (some (.ptr 1 0))=some (.skip,⟨env,⟨B,e⟩,[],[]⟩):=λB e env hB=>by
  have rS:Hp.get ⟨B,e⟩ 1=some (.cells [.aH,.aH] 66):=hB;rw[zA mQ rS rfl rfl (by simp) rfl,jV (by simp[V.top,aL])]
  show some (OR.skip,St.mk env ⟨B.set 1 (.cells [.aH,.aH] 66),e⟩ [] [])=_;rw[jZ hB]
 have IM:∀B e,nth B 1=some (.cells [.aH,.aH] 66)->zk prog ⟨B,e⟩ (λ_ _=>none) 66 (.ptr 1 0)=some (.agg [.aH,.aH]):=λB e hB=>by
  have rS:Hp.get ⟨B,e⟩ 1=some (.cells [.aH,.aH] 66):=hB;rw[jX,rS,jB,qy,pR,mQ];rfl
 let PE:aG->Hp->Prop:=λenv H=>env.length=33/\nth env 4=some (.ptr 1 0)/\nth H.az 1=some (.cells [.aH,.aH] 66)/\¬(ck=true/\rk=true)
 rcases Decidable.em (ck=true/\rk=true) with pZ|pZ
 rotate_left
 rcases Bool.eq_false_or_eq_true ck with nB|nB
 rotate_left
 subst nB;simp only[BA,av,ak,aj,aq,aC,zd,ze,bX,bY,j4,qd,jr,cH,wC,oS,D5,Aa,Is,i_,oS];refine .inl ?_;refine vQ (P:=PE) ?_ ⟨rfl,rfl,rfl,pZ⟩
 rotate_left
 rotate_left
 subst nB;obtain rfl:rk=false:=by cases rk with
  | false=>rfl
  | true=>exact absurd ⟨rfl,rfl⟩ pZ
 simp only[BA,av,ak,aj,aq,aC,zd,ze,bX,bY,j4,qd,jr,cI,wB,oS,mw,D5,Aa,Is,UA,i_,A2.bL,oS,mw];refine .inl ?_;refine vQ (P:=PE) ?_ ⟨rfl,rfl,rfl,pZ⟩
 rotate_left
 rotate_left
 obtain⟨rfl,rfl⟩:=pZ;simp only[BA,av,ak,aj,aq,aC,zd,ze,bX,bY,j4,qd,jr,cI,wB,mw,D5,Aa,Is,UA,i_,A2.bL,mw];refine .inr ?_;obtain⟨pq,ME,aad,MF⟩:=hF rfl rfl
 obtain⟨n',rfl⟩:∃n',n=n'+1:=⟨n - 1,by omega⟩
 obtain⟨eC,ru,C4⟩:=zbW hg (n:=n') (f:=f) (m:=m) (bs:=[.cells (A2.fc f) 30,.cells [.aH,.aH] 66]) (es:=[]) pq.ns.2 pq.nf (by rw[pq.nl];exact pq.ns.2) pq.mm (by rw[pq.nl];have:=pq.ns.1;omega) (by have:=pq.ns.1;omega) (by omega) (λrow cC=>⟨by have:=(pq.nr row cC).1;omega,(pq.nr row cC).2⟩) pq.hs
 have GX:=zoQ pq (bs:=[.cells (A2.fc f) 30,.cells [.aH,.aH] 66]) (eC:=eC);obtain⟨HB,tq⟩:∃HB,HB=eN [.cells (A2.fc f) 30,.cells [.aH,.aH] 66] f (yU m ([bq.cells (A2.fc f) 30,.cells [.aH,.aH] 66].length+2) f.n.2.length) (xg (rZ f) 256) (t_ (rZ f) 256) (yS m f.n.2++eC):=⟨_,rfl⟩;have Aw:nth HB 1=some (.cells [.aH,.aH] 66):=by rw[tq];rfl
 rw[<- tq] at GX;have MG:Cx.bK ⟨prog,gl.g,zj prog gl (n'+1+1),ey⟩ 73 [A2.fv f] ⟨[.cells (A2.fc f) 30,.cells [.aH,.aH] 66],[]⟩=some (.val (.ptr 3 0),⟨HB,ru⟩):=by
  rw[tq];exact zu func73 rfl C4
 have ap9:2<=HB.length:=by
  rw[zg] at Aw;have:=(dA.1 Aw).1;omega
 obtain⟨u,Hb,hb,Bp⟩:=zec hg (n:=n'+1) (bm:=3) (m:=m) (most:=600) (act:=act) (es:=ru) (by omega) uu (dB _) GX ME (λrow cC=>⟨by have:=(pq.fr row cC).1;omega,(pq.fr row cC).2⟩) (by omega) MF
 have dw:Cx.bK ⟨prog,gl.g,zj prog gl (n'+1+1),ey⟩ 74 [.ptr 3 0,A2.iv act,.int .i64 600] ⟨HB,ru⟩=some (.val u,Hb):=zu func74 rfl hb;have CL:=zjO (f:=f) (m:=m) (b:=[bq.cells (A2.fc f) 30,.cells [.aH,.aH] 66].length+2);generalize J7 f m ([bq.cells (A2.fc f) 30,.cells [.aH,.aH] 66].length+2)=nx at Bp GX CL
 obtain⟨DL,BL,oA,dv,cn,ok,rfl,rfl,Dp⟩:∃(DL:aG)(BL:List bq)(oA:aP)(dv:V)(cn:Int)(ok:Bool),u=.bx [dv,.int .i64 cn,.bool ok]/\Hb=⟨HB++BL,oA⟩/\dv=.agg DL/\DL.map bg=DL/\DL.length=2/\(if ok=true then ∃i NB,0<i/\(zl (uc f nx m) (qh f.f.2 act.2 0) i).length=i/\qB (zl (uc f nx m) (qh f.f.2 act.2 0) i)<=600/\dv=AE (HB.length+7) NB ((zl (uc f nx m) (qh f.f.2 act.2 0) i).map λw=>v8 f.s.2.length (wD m w) (-1))/\RW (uc f nx m) (qh f.f.2 act.2 0) (HB++BL) (HB.length+7) i NB else ∃i,600<qB (zl (uc f nx m) (qh f.f.2 act.2 0) i)):=by
  rcases Bp with⟨i,NB,bl,oA,q1,q2,q3,rfl,rfl,q6⟩|⟨i,dU,bl,oA,z,q1,rfl,rfl⟩
  ·exact⟨_,bl,oA,_,_,true,rfl,rfl,rfl,by simp[qU],rfl,by rw[if_pos rfl];exact⟨i,NB,q1,q2,by omega,rfl,q6⟩⟩
  ·exact⟨_,bl,oA,_,_,false,rfl,rfl,rfl,by simp[qU],rfl,by rw[if_neg (by simp)];exact⟨i,by omega⟩⟩
 obtain⟨rfl,GU,GV,Dp⟩:=Dp;have Oc:∀env t,jd env t (some (.agg DL))=some (.agg DL,env):=λ_ _=>rfl;refine zh ?_
 simp only[qt,zJ,qr,qQ,zV,kf,av,ql,ak,zL,aj,zq,aN,aq,zS,qR,je,qj,aV,aW,qP,aC,bk,bw,zc,aZ,p6,Nat.reduceAdd,bp,zd,ze,bX,bY,D5,Aa,MG,A2.bL,dw,kZ,eT,Rk,zR (show dD (V.agg [.aH,.aH])=true from rfl),V.cells,Oc]
 obtain⟨B6,J_⟩:∃B6,B6=HB++(BL++[bq.cells DL 66]):=⟨_,rfl⟩;obtain⟨e6,he6⟩:∃e6,e6=vg oA (HB.length+BL.length) (.agg DL):=⟨_,rfl⟩;have MH:∀env,qp prog 66 ⟨HB++(BL++[bq.cells [.aH,.aH] 66]),oA⟩ [] [] (some (.agg DL,env)) (some (.ptr (HB.length+BL.length) 0))=some (.skip,⟨env,⟨B6,e6⟩,[],[]⟩):=λenv=>by
  have rS:Hp.get ⟨HB++(BL++[bq.cells [.aH,.aH] 66]),oA⟩ (HB.length+BL.length)=some (.cells [.aH,.aH] 66):=by
   show nth _ _=_;rw[<- bp,<- aZ,zg,fM (dB _),Dt];rfl
  rw[zA mQ rS rfl (by show(DL.map bg).length=2;rw[GU,GV]) (by simp) rfl]
  have h1:(HB++(BL++[bq.cells [V.aH,.aH] 66])).set (HB.length+BL.length) (.cells DL 66)=B6:=by
   rw[<- bp,<- aZ,uN _ _ (dB _),Dt,J_,bp];rfl
  have h2:Vm.storeCells [V.aH,.aH] 0 DL=DL:=by
   match DL,GV with
   | [a,b],_=>rfl
  rw[show V.laid (.agg DL)=DL from GU,h2];show some (OR.skip,St.mk env (Hp.bU ⟨(HB++(BL++[bq.cells [V.aH,.aH] 66])).set (HB.length+BL.length) (.cells DL 66),oA⟩ _ _) [] [])=_;rw[h1,gC,he6]
 simp only[MH,bB,aq]
 simp only[BA,aq,zd,ze,bX,bY];have IN:nth B6 1=some (.cells [.aH,.aH] 66):=by
  rw[J_,zg,gF (by omega),<- zg,Aw]
 have hl6:zk prog ⟨B6,e6⟩ gl.g 66 (.ptr (HB.length+BL.length) 0)=some (.agg DL):=by
  have rS:Hp.get ⟨B6,e6⟩ (HB.length+BL.length)=some (.cells DL 66):=by
   show nth _ _=_;rw[J_,<- bp,<- aZ,zg,fM (dB _),Dt];rfl
  rw[jX,rS,jB,qy,pR,mQ,wP,if_pos (by omega),ny,su (by omega)]
 refine zh ?_;cases ok with
 | false =>
  simp only[BA,ak,aq,zd,ze,bX,bY,i_,oS];refine .inl ?_;rw[if_neg (by simp)] at Dp
  obtain⟨i9,Dp⟩:=Dp;refine vQ (P:=λenv H=>env.length=33/\nth env 4=some (.ptr 1 0)/\nth H.az 1=some (.cells [.aH,.aH] 66)) ?_ ⟨rfl,rfl,IN⟩;rintro env ⟨B,e⟩ lk ⟨hlen,e4,hB⟩;refine vo (tk:=[]) (by kernel_rfl) ?_
  apply Exists.intro;apply And.intro;refine qu (m:=0) (v:=.agg [.aH,.aH]) (by kernel_rfl) rfl (by simp only[BA,J9];rfl) (by kernel_rfl) (by kernel_rfl) (by kernel_rfl) ?_
  dsimp only[aq]
  refine ki (m:=0) (v:=.dX 396 (.obj 2)) (by kernel_rfl) rfl (by simp only[BA,ak,UB,s8];rfl) (by kernel_rfl) (by kernel_rfl) (by kernel_rfl) (by kernel_rfl) ?_
  dsimp only[aq]
  refine w4 (m:=1) (cs':=[⟨4,⟨B,e⟩,[],[]⟩,⟨0,⟨B,e⟩,[],[]⟩]) (by kernel_rfl) rfl (by simp only[BA,Nat.reduceEqDiff,ak,za,bI,Nat.reduceLT,bD,hlen,e4,Dn _ _ _ hB];rfl) (by kernel_rfl) (by kernel_rfl) (λK=>?_) ?_
  rotate_left
  dsimp only[aq]
  refine qu (m:=7) (v:=.dX 396 (.obj 2)) (by kernel_rfl) rfl (by simp only[BA,Nat.reduceEqDiff,za,bI,Nat.reduceLT,bD,hlen];rfl) (by kernel_rfl) (by kernel_rfl) (by kernel_rfl) vq
  ·simp only[aq];simp only[go_ret,zp,Fx,wg]
   refine⟨trivial,[.agg [.aH,.aH],.dX 396 (.obj 2)],?_,?_⟩
   ·simp only[zy,za,bI,hlen,Nat.reduceLT,Nat.reduceEqDiff,aI,bD,e4,IM _ _ hB,je]
   ·exact⟨nx,CL,.inr ⟨i9,Dp,rfl⟩⟩
  ·refine j8 ?_ ?_ ?_ ?_
   ·kernel_rfl
   ·rfl
   ·intro c hc;cases hc
   ·unfold Cx.fG;refine wc λq hq=>?_;simp only[dM,uh,tB] at hq;rcases hq with rfl|rfl
    ·split
     ·rfl
     ·split
      next h=>cases h
      ·refine N9 ?_;exact iS (by simp only[BA,ak,jy,UB,s8];rfl)
    ·kernel_rfl
 | true =>
  simp only[BA,ak,aq,zd,ze,bX,bY,i_,mw];refine .inr ?_;rw[if_pos rfl] at Dp;obtain⟨i,NB,q1,q2,q3,q4,q5⟩:=Dp;obtain⟨e7,he7⟩:∃e7,e7=vg e6 1 (.agg DL):=⟨_,rfl⟩
  have aag:∀env,qp prog 66 ⟨B6,e6⟩ [] [] (some (.agg DL,env)) (some (.ptr 1 0))=some (.skip,⟨env,⟨B6.set 1 (.cells DL 66),e7⟩,[],[]⟩):=λenv=>by
   have rS:Hp.get ⟨B6,e6⟩ 1=some (.cells [.aH,.aH] 66):=IN;rw[zA mQ rS rfl (by show(DL.map bg).length=2;rw[GU,GV]) (by simp) rfl]
   have h2:Vm.storeCells [V.aH,.aH] 0 DL=DL:=by
    match DL,GV with
    | [a,b],_=>rfl
   rw[show V.laid (.agg DL)=DL from GU,h2];show some (OR.skip,St.mk env (Hp.bU ⟨B6.set 1 (.cells DL 66),e6⟩ _ _) [] [])=_;rw[gC,he7]
  have hl7:zk prog ⟨B6.set 1 (.cells DL 66),e7⟩ (λ_ _=>none) 66 (.ptr 1 0)=some (.agg DL):=by
   have rS:Hp.get ⟨B6.set 1 (.cells DL 66),e7⟩ 1=some (.cells DL 66):=by
    show nth _ _=_;rw[kI IN,if_pos rfl]
   rw[jX,rS,jB,qy,pR,mQ,wP,if_pos (by omega),ny,su (by omega)]
  refine zh ?_;simp only[BA,ak,aj,aq,zd,ze,bX,bY,hl6,Oc,aag];simp only[go_ret,zp,Fx]
  refine⟨trivial,[.agg DL,.bP],?_,?_⟩
  ·simp only[zy,zd,ze,hl7,je]
  ·refine⟨nx,CL,.inl ⟨i,HB.length+7,NB,q1,q2,q3,?_,?_⟩⟩
   ·rw[<- q4];rfl
   ·refine q5.mono λk x hk h=>?_;show nth (B6.set 1 _) _=_;rw[kI IN,if_neg (by omega),J_,<- bp]
    exact vP h
 all_goals
  rintro env ⟨B,e⟩ lk ⟨hlen,e4,hB,pZ⟩;refine vo (tk:=[]) (by kernel_rfl) ?_
  apply Exists.intro;apply And.intro;refine qu (m:=0) (v:=.agg [.aH,.aH]) (by kernel_rfl) rfl (by simp only[BA,J9];rfl) (by kernel_rfl) (by kernel_rfl) (by kernel_rfl) ?_
  dsimp only[aq]
  refine ki (m:=0) (v:=.dX 396 (.obj 0)) (by kernel_rfl) rfl (by simp only[BA,ak,Od,s8];rfl) (by kernel_rfl) (by kernel_rfl) (by kernel_rfl) (by kernel_rfl) ?_
  dsimp only[aq]
  refine w4 (m:=1) (cs':=[⟨4,⟨B,e⟩,[],[]⟩,⟨0,⟨B,e⟩,[],[]⟩]) (by kernel_rfl) rfl (by simp only[BA,Nat.reduceEqDiff,ak,za,bI,Nat.reduceLT,bD,hlen,e4,Dn _ _ _ hB];rfl) (by kernel_rfl) (by kernel_rfl) (λK=>?_) ?_
  rotate_left
  dsimp only[aq]
  refine qu (m:=7) (v:=.dX 396 (.obj 0)) (by kernel_rfl) rfl (by simp only[BA,Nat.reduceEqDiff,za,bI,Nat.reduceLT,bD,hlen];rfl) (by kernel_rfl) (by kernel_rfl) (by kernel_rfl) vq
  ·simp only[aq];simp only[go_ret,zp,Fx,wg]
   refine⟨trivial,[.agg [.aH,.aH],.dX 396 (.obj 0)],?_,?_⟩
   ·simp only[zy,za,bI,hlen,Nat.reduceLT,Nat.reduceEqDiff,aI,bD,e4,IM _ _ hB,je]
   ·split<;>first|rfl|(rename_i h;exact absurd h (by simp))
  ·refine j8 ?_ ?_ ?_ ?_
   ·kernel_rfl
   ·rfl
   ·intro c hc;cases hc
   ·unfold Cx.fG;refine wc λq hq=>?_;simp only[dM,uh,tB] at hq;rcases hq with rfl|rfl
    ·split
     ·rfl
     ·split
      next h=>cases h
      ·refine N9 ?_;exact iS (by simp only[BA,ak,jy,Od,s8];rfl)
    ·kernel_rfl
end
end Go.Proofs.YthohlnmcjkjeiaaGreatDoor
namespace Go.Proofs.YthohlnmcjkjeiaaGreatDoor.A2
open Go.Proofs.Tryz
set_option linter.unusedSectionVars false
set_option maxRecDepth 10000
open Go Go.Vm Go.Vm.Sx
variable{gl:Gl}
end Go.Proofs.YthohlnmcjkjeiaaGreatDoor.A2
namespace Go.Proofs.YthohlnmcjkjeiaaGreatDoor
open Go Go.Vm
open Go.Proofs.Tryz
set_option maxRecDepth 100000
section
section
variable{aU:Nat->Nat->Nat}{s0:Nat}
theorem zbf{j:Nat}(h:(zl aU s0 j)[j]?=none):∀d,zl aU s0 (j+d)=zl aU s0 j
 | 0=>rfl
 | d+1=>by
  have ih:=zbf h d;rw[<- p6];have h1:(zl aU s0 j)[j+d]?=none:=by
   rw[List.getElem?_eq_none_iff] at h ⊢;omega
  simp only[zl,ih,h1]
theorem UC{i j:Nat}(h:(zl aU s0 i).length=i):∃rs,zl aU s0 i=zl aU s0 j++rs:=by
 rcases Nat.le_total j i with Hq|Hq
 ·exact ZG Hq
 ·have:=zbf (aU:=aU) (s0:=s0) (j:=i) (by rw[List.getElem?_eq_none_iff];omega) (j - i)
  rw[show i+(j - i)=j by omega] at this
  exact⟨[],by rw[this,nk]⟩
theorem xy{i j:Nat}(h:(zl aU s0 i).length=i)(h':(zl aU s0 j).length=j):i=j:=by
 obtain⟨r1,e1⟩:=UC (j:=j) h;obtain⟨r2,e2⟩:=UC (j:=i) h';have l1:=congrArg List.length e1;have l2:=congrArg List.length e2;rw[aZ] at l1 l2;omega
theorem zed{i j:Nat}(h:(zl aU s0 i).length=i)(hj:j<i):∃w,(zl aU s0 j)[j]?=some w:=by
 cases hx:(zl aU s0 j)[j]? with
 | some w=>exact⟨w,rfl⟩
 | none =>
  have:=zbf hx (i - j);rw[show j+(i - j)=i by omega] at this
  rw[List.getElem?_eq_none_iff] at hx;rw[this] at h;omega
theorem zhC{j w:Nat}(h:(zl aU s0 j)[j]?=some w):(EA aU s0 j).length=256:=by
 simp only[EA,h,iK,List.length_range]
theorem RW.get{B:List bq}{b i:Nat}{NB:bO}(h:RW aU s0 B b i NB):∀j,j<i->∃k,NB[j]?=some k/\nth B (b+k)=some (.cells ((EA aU s0 j).map A2.ie) 3):=by
 induction h with
 | nil=>intro j hj;omega
 | @snoc i k NB h hk hb ih =>
  intro j hj;have hl:=h.len;rcases eY j i with sC|sC
  ·obtain⟨k',h1,h2⟩:=ih j sC;exact⟨k',by rw[gF (by omega),h1],h2⟩
  ·obtain rfl:j=i:=by omega
   exact⟨k,by rw[fM (by omega),hl,Dt];rfl,hb⟩
def Bq(aU:Nat->Nat->Nat)(s0:Nat)(lab:Nat->Int)(i:Nat):A2.D:=((true,(List.range i).map λj=>(true,EA aU s0 j)),(true,(zl aU s0 i).map lab))
theorem zf3{n:Nat}{e:aD}{xs:aG}:bg (zm n e xs)=Sx.lv n true xs:=by cases xs<;>rfl
theorem UD{n:Nat}{nl:Bool}{xs:aG}(h:0<xs.length):Sx.lv n nl xs=.sl n xs .no:=by
 rcases Sx.cO n nl xs with e|⟨e0,_⟩
 ·exact e
 ·rw[e0] at h;cases h
theorem zqe{l:List Int}(h:0<l.length):A2.iv (true,l)=.sl 1 (l.map A2.ie) .no:=UD (by rw[iK];exact h)
theorem ziy{lab:Nat->Int}{B:List bq}{es:aP}{b i:Nat}{NB:bO}(h:RW aU s0 B b i NB)(hi:0<i)(hc:(zl aU s0 i).length=i) :
  mG ⟨B,es⟩ (.bx [AE b NB ((zl aU s0 i).map lab),.bP]) (.bx [A2.oe (Bq aU s0 lab i),.bP]):=by
 have hl:=h.len;have cC:∀j,j<i->A2.iv (true,EA aU s0 j)=.sl 1 ((EA aU s0 j).map A2.ie) .no:=λj hj=>by
  obtain⟨w,hw⟩:=zed hc hj;exact zqe (by rw[zhC hw];exact Nat.succ_pos _)
 have e1:bg (zm 1 27 (NB.map (fY b)))=.sl 1 (NB.map (fY b)) .no:=by rw[zf3,UD (by rw[iK,hl];exact hi)]
 have e2:A2.rv (Bq aU s0 lab i).1=.sl 1 (((List.range i).map λj=>(true,EA aU s0 j)).map A2.iv) .no:=UD (by simpa[Bq] using hi)
 have e3:bg (zm 1 3 (((zl aU s0 i).map lab).map A2.ie))=A2.iv (Bq aU s0 lab i).2:=zf3;have f1:mG ⟨B,es⟩ (.sl 1 (NB.map (fY b)) .no) (.sl 1 (((List.range i).map λj=>(true,EA aU s0 j)).map A2.iv) .no):=by
  refine .sl (by simp[hl]) (λj x hj=>?_) (λj y hj=>?_) (λj x y hj hy=>?_)
  ·rw[mu] at hj;obtain⟨k,_,rfl⟩:=mS.1 hj;exact⟨rfl,rfl⟩
  ·rw[mu,mu] at hj;have HM:j<i:=by
    rcases eY j i with h1|h1
    ·exact h1
    ·rw[uf (by simpa using h1)] at hj;cases hj
   rw[Kj HM] at hj;simp only[aW,bz] at hj;rw[<- hj,cC j HM];exact⟨rfl,rfl⟩
  ·have HM:j<i:=by
    rcases eY j i with h1|h1
    ·exact h1
    ·rw[uf (by simpa[hl] using h1)] at hj;cases hj
   obtain⟨k,k1,k2⟩:=h.get j HM;rw[mu,k1] at hj;rw[mu,mu,Kj HM] at hy;simp only[aW,bz] at hj hy;rw[<- hj,<- hy,cC j HM];obtain⟨w,hw⟩:=zed hc HM;have Br:((EA aU s0 j).map A2.ie).length=256:=by rw[iK,zhC hw]
   have:=mG.sr (H:=⟨B,es⟩) (b:=b+k) (off:=0) (len:=256) (cap:=256) (cs:=(EA aU s0 j).map A2.ie) (t:=3) (by rw[zg] at k2;exact k2) (A2.lH (λ_=>rfl) _) (by omega)
   rw[ny,su (by omega)] at this
   exact this
 refine .bx rfl λj x y hj hy=>?_
 match j,hj,hy with
 | 0,hj,hy =>
  cases hj;cases hy;refine .agg rfl (λj y hj=>?_) λj x y hj hy=>?_
  ·match j,hj with
   | 0,hj=>cases hj;rw[e2];rfl
   | 1,hj=>cases hj;rw[<- e3];cases ((zl aU s0 i).map lab).map A2.ie<;>rfl
   | j+2,hj=>simp at hj
  ·match j,hj,hy with
   | 0,hj,hy=>cases hj;cases hy;rw[e1,e2];exact f1
   | 1,hj,hy =>
    cases hj;cases hy;rw[e3];exact .same (A2.ry _)
   | j+2,hj,hy=>simp at hj
 | 1,hj,hy=>cases hj;cases hy;exact .same rfl
 | j+2,hj,hy=>simp at hj
end
theorem zmS{f:A2.F}{nx F2:aP}(h:nx.map (·.2)=F2.map (·.2)){y k q:Nat}:xf f nx y k q=xf f F2 y k q:=by
 have hk:(nx[k]?).map (·.2)=(F2[k]?).map (·.2):=by rw[<- mu,<- mu,h]
 unfold xf;cases hs:f.s.2[k]? with
 | none=>rfl
 | some s =>
  cases h1:nx[k]? with
  | none =>
   rw[h1] at hk;cases h2:F2[k]? with
   | none=>rfl
   | some p=>rw[h2] at hk;cases hk
  | some p =>
   rw[h1] at hk;cases h2:F2[k]? with
   | none=>rw[h2] at hk;cases hk
   | some p' =>
    rw[h2] at hk;have:p.2=p'.2:=BQ hk;simp only[this]
theorem zjQ{f:A2.F}{nx F2:aP}(h:nx.map (·.2)=F2.map (·.2)){m:Nat}:uc f nx m=uc f F2 m:=by
 funext w y
 have:∀(l:bO)(q:Nat),xQ f nx y l q=xQ f F2 y l q:=by
  intro l
  induction l with
  | nil=>intro q;rfl
  | cons k l ih =>
   intro q;show xQ f nx y l (xf f nx y k q)=xQ f F2 y l (xf f F2 y k q);rw[zmS h];exact ih _
 exact this _ _
end
section
set_option pp.deepTerms true
set_option pp.maxSteps 200000
variable{gl:Gl}
inductive AW(aU:Nat->Nat->Nat)(lab:Nat->Int)(B:List bq):bO->Nat->aG->Prop
 |nil:AW aU lab B [] 0 []
 |snoc {ss:bO} {c s0 i b:Nat} {NB:bO} {vs:aG} (h:AW aU lab B ss c vs) (hi:0<i) (hl:(zl aU s0 i).length=i) (hr:RW aU s0 B b i NB) (iB:aL vs<=b):AW aU lab B (ss++[s0]) (c+qB (zl aU s0 i)) (vs++[AE b NB ((zl aU s0 i).map lab)])
theorem AW.app{aU:Nat->Nat->Nat}{lab:Nat->Int}{B:List bq}{ss:bO}{c:Nat}{vs:aG}(h:AW aU lab B ss c vs)(xs:List bq):AW aU lab (B++xs) ss c vs:=by
 induction h with
 | nil=>exact .nil
 | snoc h hi hl hr iB ih=>exact .snoc ih hi hl (hr.mono λk x _ e=>vP e) iB
theorem AW.len{aU:Nat->Nat->Nat}{lab:Nat->Int}{B:List bq}{ss:bO}{c:Nat}{vs:aG}(h:AW aU lab B ss c vs):vs.length=ss.length:=by
 induction h with
 | nil=>rfl
 | snoc _ _ _ _ _ ih=>simp[ih]
theorem zmT{aU:Nat->Nat->Nat}{s0 b i:Nat}{B:List bq}{NB:bO}{dU:List Int}(h:RW aU s0 B b i NB)(hi:0<i):0<(AE b NB dU).top:=by
 obtain⟨k,hk⟩:∃k,k∈NB:=by
  cases NB with
  | nil=>have:=h.len;simp at this;omega
  | cons k l=>exact⟨k,fy ..⟩
 have h1:(fY b k).top<=aL (NB.map (fY b)):=zn (mU.2 ⟨k,hk,rfl⟩);have h2:(bg (zm 1 27 (NB.map (fY b)))).top=aL (NB.map (fY b)):=by rw[jq,ya]
 simp only[fY,V.top] at h1;simp only[AE,V.top,aL,h2];omega
theorem AW.top{aU:Nat->Nat->Nat}{lab:Nat->Int}{B:List bq}{ss:bO}{c:Nat}{vs:aG}(h:AW aU lab B ss c vs)(hs:0<ss.length):0<aL vs:=by
 cases h with
 | nil=>simp at hs
 | snoc h hi hl hr _=>exact uO (zmT hr hi) (zn (CQ _ (List.mem_singleton_self _)))
theorem AW.le{aU:Nat->Nat->Nat}{lab:Nat->Int}{B:List bq}{ss:bO}{c:Nat}{vs:aG}(h:AW aU lab B ss c vs):aL vs<=B.length:=by
 induction h with
 | nil=>exact dP _
 | @snoc ss c s0 i b NB vs h hi hl hr iB ih =>
  refine qO λx hx=>?_;rcases tu.1 hx with hx|hx
  ·exact cZ (zn hx) ih
  ·rw[r9.1 hx];have h2:(bg (zm 1 27 (NB.map (fY b)))).top=aL (NB.map (fY b)):=by rw[jq,ya]
   have h3:∀l:List Int,(bg (zm 1 3 (l.map A2.ie))).top=0:=λl=>by
    rw[jq,ya];exact Nat.le_zero.1 (qO λy hy=>by obtain⟨z,_,rfl⟩:=mU.1 hy;exact dB _)
   simp only[AE,V.top,aL,h2,h3];refine tw.2 ⟨qO λy hy=>?_,by omega⟩
   obtain⟨k,hk,rfl⟩:=mU.1 hy;have:=hr.lt k hk;simp only[fY,V.top];omega
theorem zos{cx:Cx}{n:Nat}{Q:Ex->St->Prop}{k:List It}{s:St}{c:Code}(P:aG->Hp->Prop)(h1:∀Q':Ex->St->Prop,(∀env H lk,P env H->Q' .normal ⟨env,H,lk,[]⟩)->go cx n Q' [.c c] .normal s)(h2:∀env H lk,P env H->go cx n Q k .normal ⟨env,H,lk,[]⟩):go cx n Q (.c c::k) .normal s:=by
 have:=h1 (go cx n Q k) h2;simp only[go] at this ⊢;exact this
theorem r61:mY prog 61 66 2 48:=⟨by kernel_rfl,by kernel_rfl,by kernel_rfl,by decide,by kernel_rfl,by kernel_rfl,by kernel_rfl⟩
def D6(ck:Bool)(rk:A2.cX->Bool)(l:List A2.cX):Bool:=ck && (decide (1<=l.length) && (decide (l.length<=16) && l.all rk))
def AlP(f:A2.F)(aU:Nat->Nat->Nat)(lab:Nat->Int)(l:List A2.cX)(v:V)(B:List bq):Prop :=
 (∃c vs,AW aU lab B (l.map λa=>qh f.f.2 a.2 0) c vs/\c<=600/\v=.bx [bg (zm 2 66 vs),.bP]) \/
 (∃j a c vs i B',l[j]?=some a/\AW aU lab B' ((l.take j).map λa=>qh f.f.2 a.2 0) c vs/\600<c+qB (zl aU (qh f.f.2 a.2 0) i)/\v=.bx [.aH,.dX 396 (.obj 2)])
set_option maxHeartbeats 1000000 in
theorem zot(hg:GS gl){n m:Nat}{f:A2.F}{cQ:A2.gR}{ck:Bool}{rk:A2.cX->Bool}(hn:m+1000<=n)(uu:m<2 ^ 36)(BN:gl.hk 24 [A2.fv f]=some (.bool ck))(MD:∀a∈cQ.2,gl.hk 72 [A2.fv f,A2.iv a]=some (.bool (rk a)))(RJ:gl.g 0 0=some (.dX 396 (.obj 0)))(BF:gl.g 2 0=some (.dX 396 (.obj 2)))
  (sF:cQ.2.length<n) (RK:cQ.2.length<2 ^ 60) (hF:ck=true->J8 f m (n - 3)) (hA:∀a∈cQ.2,rk a=true->(∀r∈a.2,0<=r/\r.toNat<f.f.2.length)/\a.2.length<n - 3/\a.2.length<2 ^ 60) :
  ∃v H',zj prog gl (n+1+1) 30 [A2.fv f,A2.rv cQ] ⟨[],[]⟩=some (.ret v,H') /\
   if D6 ck rk cQ.2=true then ∃nx:aP,nx.map (·.2)=f.n.2.map yR/\AlP f (uc f nx m) (λw=>v8 f.s.2.length (wD m w) (-1)) cQ.2 v H'.az else v=.bx [.aH,.dX 396 (.obj 0)]:=by
 suffices bR:(go ⟨prog,gl,zj prog gl (n+1),ey⟩ (n+1) (Fx prog f30.results.toList λv H1=>if D6 ck rk cQ.2=true then ∃nx:aP,nx.map (·.2)=f.n.2.map yR/\AlP f (uc f nx m) (λw=>v8 f.s.2.length (wD m w) (-1)) cQ.2 v H1.az else v=.bx [.aH,.dX 396 (.obj 0)]) [.c (f30.body.getD .skip)] .normal ⟨[A2.fv f,A2.rv cQ]++List.replicate 72 (.bx []),⟨[],[]⟩,[],[]⟩) by
  obtain⟨v,H1,h0,hp⟩:=zO (gl:=gl) (f:=30) (bs:=[]) (es:=[]) (args:=[A2.fv f,A2.rv cQ]) (n:=n+1) (hg.hk _ _ (by decide)) (λH=>hg.fq _ _ _ _ (by decide)) func30 rfl (by rw[hg.uq];exact bR)
  refine⟨v,_,h0,?_⟩;cases hk:D6 ck rk cQ.2 with
  | false=>rw[hk] at hp;exact hp
  | true =>
   rw[hk] at hp;simp only[aI] at hp ⊢;obtain⟨nx,h1,hp⟩:=hp;refine⟨nx,h1,?_⟩;rcases hp with⟨c,vs,q1,q2,rfl⟩|hp
   ·refine .inl ⟨c,vs,?_,q2,rfl⟩
    rw[show zX ([]:List bq).length [] _ H1=⟨H1.az,H1.bJ++[]⟩ from yO (by
     have hl:0<(cQ.2.map λa=>qh f.f.2 a.2 0).length:=by
      simp only[D6,eF,decide_eq_true_eq] at hk;rw[iK];omega
     have h2:=q1.top hl;simp only[V.top,aL,jq,ya,List.length_nil]
     omega)]
    exact q1
   ·obtain⟨j,a,c,vs,i,B',q⟩:=hp;exact .inr ⟨j,a,c,vs,i,B',q⟩
 have Jq:dD (A2.fv f)=true:=rfl;have Gt:∀env t,jd env t (some (A2.fv f))=some (A2.fv f,env):=λ_ _=>rfl;have Aa:bg (A2.fv f)=A2.fv f:=rfl;have Is:∀H,Cx.bK ⟨prog,gl.g,zj prog gl (n+1),ey⟩ 24 [A2.fv f] H=some (.val (.bool ck),H):=λH=>zu func24 rfl (yN BN)
 have UA:∀a,a∈cQ.2->∀H,Cx.bK ⟨prog,gl.g,zj prog gl (n+1),ey⟩ 72 [A2.fv f,A2.iv a] H=some (.val (.bool (rk a)),H):=λa ha H=>zu func72 rfl (yN (MD a ha));have D5:∀r e,zk prog ⟨.cells (A2.fc f) 30::r,e⟩ gl.g 30 (.ptr 0 0)=some (A2.fv f):=λr e=>by
  rw[jX,show Hp.get ⟨.cells (A2.fc f) 30::r,e⟩ 0=some (.cells (A2.fc f) 30) from rfl,jB,qy,FP,FQ];simp[wP,A2.fv,A2.fc]
 have Od:∀H,zk prog H gl.g 37 (.eV 0 0)=some (.dX 396 (.obj 0)):=λH=>by simp[zk,uL,RJ]
 have UB:∀H,zk prog H gl.g 37 (.eV 2 0)=some (.dX 396 (.obj 2)):=λH=>by simp[zk,uL,BF]
 have s8:∀k,bg (V.dX 396 (.obj k))=.dX 396 (.obj k):=λ_=>rfl;simp only[f30,gm,zi];refine zh ?_;simp only[BA,aj,aq,zc,zd,bX,bY,List.replicate,Gt,qg Jq,fcl];obtain⟨L,hL⟩:∃L,L=cQ.2.length:=⟨_,rfl⟩
 obtain⟨Bs,lR⟩:∃b:Bool,b=!(ck && (decide (1<=L) && decide (L<=16))):=⟨_,rfl⟩
 let PB:aG->Hp->Prop:=λenv H=>H=⟨[.cells (A2.fc f) 30],[]⟩/\env.length=74/\nth env 1=some (A2.rv cQ)/\nth env 2=some (.ptr 0 0)/\nth env 6=some (.bool Bs)
 have Ei:∀H,qW prog H 28 (A2.rv cQ)=some ((L:Nat):Int):=λH=>by rw[hL];exact QX
 refine zos PB (λQ' hQ=>?_) ?_
 ·refine zh ?_;cases ck with
  | false =>
   simp only[BA,av,ak,aj,aq,aC,zd,ze,bX,bY,j4,qd,jr,cH,wC,oS,D5,Aa,Is,i_,oS,zp];exact hQ _ _ _ ⟨rfl,rfl,rfl,rfl,by rw[lR];rfl⟩
  | true =>
   rcases eY L 1 with tG|tG
   ·have K2:decide (((L:Nat):Int)<1)=true:=by simp;omega
    simp only[BA,av,ak,aj,aq,aC,zd,ze,bX,bY,j4,qd,jr,cH,cI,wB,wC,mw,D5,Aa,Is,i_,mw,A2.b_,Ei,qV,K2,zp];exact hQ _ _ _ ⟨rfl,rfl,rfl,rfl,by rw[lR,decide_eq_false (show ¬1<=L by omega)];rfl⟩
   have K2:decide (((L:Nat):Int)<1)=false:=by simp;omega
   rcases eY 16 L with Gq|Gq
   ·have Ap:decide ((16:Int)<((L:Nat):Int))=true:=by simp;omega
    simp only[BA,av,ak,aj,aq,aC,zd,ze,bX,bY,j4,qd,jr,cI,wB,mw,D5,Aa,Is,i_,mw,A2.b_,Ei,qV,wW,gt_iff_lt,K2,Ap,zp]
    exact hQ _ _ _ ⟨rfl,rfl,rfl,rfl,by rw[lR,decide_eq_false (show ¬L<=16 by omega),Bool.and_false,Bool.and_false];rfl⟩
   ·have Ap:decide ((16:Int)<((L:Nat):Int))=false:=by simp;omega
    simp only[BA,av,ak,aj,aq,aC,zd,ze,bX,bY,j4,qd,jr,cI,wB,mw,D5,Aa,Is,i_,mw,A2.b_,Ei,qV,wW,gt_iff_lt,K2,Ap,zp]
    exact hQ _ _ _ ⟨rfl,rfl,rfl,rfl,by rw[lR,decide_eq_true Gq,decide_eq_true (show 1<=L by omega)];rfl⟩
 rintro env H lk ⟨rfl,hlen,e1,e2,e6⟩;simp only[zi];refine zh ?_;simp only[BA,ak,aj,aq,za,Nat.reduceLT,hlen,e1,A2.b_,Ei]
 refine qx (λk2 s=>∃(j:Nat)(env:aG),k2+j=L/\s=⟨env,⟨[.cells (A2.fc f) 30],[]⟩,[],[]⟩/\env.length=74/\nth env 1=some (A2.rv cQ)/\nth env 2=some (.ptr 0 0)/\nth env 6=some (.bool (Bs || !((cQ.2.take j).all rk)))/\nth env 30=some (A2.rv cQ)/\nth env 31=some (.int .i64 (L:Nat))/\nth env 32=some (.int .i64 (j:Nat))) L (by omega) ?_ ?_
 ·exact⟨0,_,rfl,rfl,by simp[hlen],by simp[za,e1],by simp[za,e2],by simp[za,e6],by simp[za,hlen],by simp[za,hlen],by simp[za,hlen]⟩
 clear hlen e1 e2 e6 env;rintro k2 s ⟨j,env,fq,rfl,hlen,e1,e2,e6,FV,AB,z_⟩;simp only[zi];refine zh ?_;simp only[BA,ak,aq,za,Nat.reduceLT,hlen,AB,z_,qV]
 by_cases hj:j<L
 ·refine .inl ⟨by simp;omega,?_⟩
  obtain⟨a,ha⟩:∃a,cQ.2[j]?=some a:=⟨_,gG (by omega)⟩
  have UE:=pG ha;have mq:(cQ.2.take (j+1)).all rk=((cQ.2.take j).all rk && rk a):=by
   rw[List.take_add_one,ha];simp
  refine zh ?_;simp only[BA,Nat.reduceEqDiff,ak,aq,aF,za,bI,Nat.reduceLT,bD,hlen,FV,z_,A2.b_,Ue ha,Uf,Zn,A2.bL];refine zh ?_;cases hb:(Bs || !((cQ.2.take j).all rk)) with
  | true =>
   rw[hb] at e6;simp only[BA,Nat.reduceEqDiff,av,ak,aj,aq,aC,za,bI,Nat.reduceLT,bD,zd,ze,j4,qd,jr,cH,wC,hlen,e6];refine zh ?_
   simp only[BA,Nat.reduceEqDiff,ak,aj,aq,za,bI,Nat.reduceLT,bD,hlen,z_,qn (show j<2 ^ 60 by omega),zp,aO]
   refine⟨L - 1 - j,by omega,j+1,_,by omega,rfl,by simp[hlen],by simp[za,e1],by simp[za,e2],?_,by simp[za,FV],by simp[za,AB],by simp[za,hlen]⟩
   rw[mq];have:(Bs || !((cQ.2.take j).all rk && rk a))=true:=by
    revert hb;cases Bs<;>cases (cQ.2.take j).all rk<;>simp
   rw[this];simp[za,hlen]
  | false =>
   rw[hb] at e6;simp only[BA,Nat.reduceEqDiff,av,ak,aj,aq,aC,za,bI,Nat.reduceLT,bD,zd,ze,j4,qd,jr,cI,wB,hlen,e6,e2,D5,Aa,UA a UE,A2.bL,i_];refine zh ?_
   simp only[BA,Nat.reduceEqDiff,ak,aj,aq,za,bI,Nat.reduceLT,bD,hlen,z_,qn (show j<2 ^ 60 by omega),zp,aO]
   refine⟨L - 1 - j,by omega,j+1,_,by omega,rfl,by simp[hlen],by simp[za,e1],by simp[za,e2],?_,by simp[za,FV],by simp[za,AB],by simp[za,hlen]⟩
   rw[mq];have:(Bs || !((cQ.2.take j).all rk && rk a))=!(rk a):=by
    revert hb;cases Bs<;>cases (cQ.2.take j).all rk<;>simp
   rw[this];simp[za,hlen]
 ·obtain rfl:L=j:=by omega
  refine .inr ⟨by simp,?_⟩
  simp only[qk,zN,zD,zp,bN,zi,iV,aI]
  have dG:cQ.2.take L=cQ.2:=su (by omega)
  rw[dG] at e6;have MI:(Bs || !(cQ.2.all rk))=!(D6 ck rk cQ.2):=by
   rw[lR,D6,<- hL];cases ck<;>cases decide (1<=L)<;>cases decide (L<=16)<;>cases cQ.2.all rk<;>rfl
  rw[MI] at e6;refine zh ?_;simp only[BA,Nat.reduceEqDiff,ak,aq,za,bI,Nat.reduceLT,bD,hlen,e6];cases hk:D6 ck rk cQ.2 with
  | false =>
   rw[hk] at e6;refine .inl ⟨by simp,?_⟩
   refine jo (tk:=[]) (by kernel_rfl) (by kernel_rfl) ?_
   simp only[BA,Nat.reduceEqDiff,ak,aj,aq,au,za,bI,Nat.reduceLT,bD,hlen,Od,s8,uL];simp only[go_ret,zp,Fx,wg]
   refine⟨rfl,[.aH,.dX 396 (.obj 0)],?_,by first|rfl|simp⟩
   simp only[aq,s8,zy,za,bI,hlen,Nat.reduceLT,Nat.reduceEqDiff,aI,bD]
  | true =>
   refine .inr ⟨by simp,?_⟩
   have rJ:=hk;simp only[D6,eF,decide_eq_true_eq] at rJ;obtain⟨rfl,DD,fq,Cy⟩:=rJ;have QI:∀a∈cQ.2,rk a=true:=λa ha=>Dr.1 Cy a ha;have pq:=hF rfl;obtain⟨n',rfl⟩:∃n',n=n'+1:=⟨n - 1,by omega⟩
   obtain⟨eC,ru,C4⟩:=zbW hg (n:=n') (f:=f) (m:=m) (bs:=[.cells (A2.fc f) 30]) (es:=[]) pq.ns.2 pq.nf (by rw[pq.nl];exact pq.ns.2) pq.mm (by rw[pq.nl];have:=pq.ns.1;omega) (by have:=pq.ns.1;omega) (by omega) (λrow cC=>⟨by have:=(pq.nr row cC).1;omega,(pq.nr row cC).2⟩) pq.hs
   have GX:=zoQ pq (bs:=[.cells (A2.fc f) 30]) (eC:=eC);obtain⟨HB,tq⟩:∃HB,HB=eN [.cells (A2.fc f) 30] f (yU m ([bq.cells (A2.fc f) 30].length+2) f.n.2.length) (xg (rZ f) 256) (t_ (rZ f) 256) (yS m f.n.2++eC):=⟨_,rfl⟩;rw[<- tq] at GX;have MG:Cx.bK ⟨prog,gl.g,zj prog gl (n'+1+1),ey⟩ 73 [A2.fv f] ⟨[.cells (A2.fc f) 30],[]⟩=some (.val (.ptr 2 0),⟨HB,ru⟩):=by
    rw[tq];exact zu func73 rfl C4
   have CL:=zjO (f:=f) (m:=m) (b:=[bq.cells (A2.fc f) 30].length+2);generalize J7 f m ([bq.cells (A2.fc f) 30].length+2)=nx at GX CL;obtain⟨aU,ud⟩:∃x,x=uc f nx m:=⟨_,rfl⟩;obtain⟨lab,Ae⟩:∃x:Nat->Int,x=λw=>v8 f.s.2.length (wD m w) (-1):=⟨_,rfl⟩;have htp:∀b o env t,jd env t (some (.ptr b o))=some (.ptr b o,env):=λ_ _ _ _=>rfl;refine zh ?_
   simp only[BA,Nat.reduceEqDiff,av,ak,aq,aC,Nat.reduceAdd,za,bI,Nat.reduceLT,bD,hlen,e2,D5,Aa,MG,htp];refine zh ?_
   simp only[BA,aj,aq];refine zh ?_
   simp only[BA,aj,aq];refine zh ?_
   simp only[BA,Nat.reduceEqDiff,ak,aj,aq,za,bI,Nat.reduceLT,bD,hlen,e1,A2.b_,Ei]
   refine qx (λk2 s=>∃(j:Nat)(env:aG)(B:List bq)(es lk:aP)(c:Nat)(vs:aG),k2+j=L/\s=⟨env,⟨HB++B,es⟩,lk,[]⟩/\env.length=74/\nth env 9=some (.ptr 2 0)/\nth env 10=some (zm 2 66 vs)/\nth env 11=some (.int .i64 ((600 - c:Nat):Int))/\nth env 48=some (A2.rv cQ)/\nth env 49=some (.int .i64 (L:Nat))/\nth env 50=some (.int .i64 (j:Nat))/\c<=600/\AW aU lab (HB++B) ((cQ.2.take j).map λa=>qh f.f.2 a.2 0) c vs) L (by omega) ?_ ?_
   ·exact⟨0,_,[],ru,_,0,[],rfl,by rw[nk],by simp[hlen],by simp[za,hlen],by simp[za,hlen,zm],by simp[za,hlen],by simp[za,hlen],by simp[za,hlen],by simp[za,hlen],by omega,.nil⟩
   clear hlen e1 e2 e6 FV AB z_ env;rintro k2 s ⟨j,env,B,es,lk,c,vs,aqf,rfl,hlen,e9,sq,iZ,J6,IL,ED,LR,Oe⟩;simp only[zi];refine zh ?_;simp only[BA,ak,aq,za,Nat.reduceLT,hlen,IL,ED,qV]
   by_cases hj:j<L
   ·refine .inl ⟨by simp;omega,?_⟩
    obtain⟨a,ha⟩:∃a,cQ.2[j]?=some a:=⟨_,gG (by omega)⟩
    have UE:=pG ha;obtain⟨ME,aad,MF⟩:=hA a UE (QI a UE);have mq:(cQ.2.take (j+1)).map (λa=>qh f.f.2 a.2 0)=(cQ.2.take j).map (λa=>qh f.f.2 a.2 0)++[qh f.f.2 a.2 0]:=by
     rw[List.take_add_one,ha];simp
    have hMB:MM f m nx (HB++B) 2:={ GX with M:=vP GX.M,X:=λp hp=>⟨vP (GX.X p hp).1,(GX.X p hp).2⟩ };obtain⟨u,Hb,hb,Bp⟩:=zec hg (n:=n'+1) (bm:=2) (m:=m) (most:=600 - c) (act:=a) (es:=es) (by omega) uu (by omega) hMB ME (λrow cC=>⟨by have:=(pq.fr row cC).1;omega,(pq.fr row cC).2⟩) (by omega) MF
    rw[<- ud,<- Ae] at Bp;have dw:Cx.bK ⟨prog,gl.g,zj prog gl (n'+1+1),ey⟩ 74 [.ptr 2 0,A2.iv a,.int .i64 ((600 - c:Nat):Int)] ⟨HB++B,es⟩=some (.val u,Hb):=zu func74 rfl hb
    obtain⟨DL,BL,oA,cn,ok,rfl,rfl,GU,GV,Dp⟩:∃(DL:aG)(BL:List bq)(oA:aP)(cn:Int)(ok:Bool),u=.bx [.agg DL,.int .i64 cn,.bool ok]/\Hb=⟨HB++B++BL,oA⟩/\DL.map bg=DL/\DL.length=2/\(if ok=true then ∃i NB,0<i/\(zl aU (qh f.f.2 a.2 0) i).length=i/\qB (zl aU (qh f.f.2 a.2 0) i)<=600 - c/\cn=(qB (zl aU (qh f.f.2 a.2 0) i):Nat)/\V.agg DL=AE ((HB++B).length+7) NB ((zl aU (qh f.f.2 a.2 0) i).map lab)/\RW aU (qh f.f.2 a.2 0) (HB++B++BL) ((HB++B).length+7) i NB else ∃i,600 - c<qB (zl aU (qh f.f.2 a.2 0) i)):=by
     rcases Bp with⟨i,NB,bl,oA,q1,q2,q3,rfl,rfl,q6⟩|⟨i,dU,bl,oA,z,q1,rfl,rfl⟩
     ·exact⟨_,bl,oA,_,true,rfl,rfl,by simp[qU],rfl,by rw[if_pos rfl];exact⟨i,NB,q1,q2,by omega,rfl,rfl,q6⟩⟩
     ·exact⟨_,bl,oA,_,false,rfl,rfl,by simp[qU],rfl,by rw[if_neg (by simp)];exact⟨i,by omega⟩⟩
    have Oc:∀env t,jd env t (some (.agg DL))=some (.agg DL,env):=λ_ _=>rfl;obtain⟨B5,hB5⟩:∃B5,B5=HB++(B++BL):=⟨_,rfl⟩;obtain⟨B6,J_⟩:∃B6,B6=B5++[bq.cells DL 66]:=⟨_,rfl⟩;have aal:∀x:bq,HB++(B++(BL++[x]))=B5++[x]:=λx=>by rw[hB5];simp
    have aam:HB.length+(B.length+BL.length)=B5.length:=by rw[hB5];simp
    obtain⟨e6,he6⟩:∃e6,e6=vg oA B5.length (.agg DL):=⟨_,rfl⟩;have MH:∀env,qp prog 66 ⟨B5++[bq.cells [.aH,.aH] 66],oA⟩ [] [] (some (.agg DL,env)) (some (.ptr B5.length 0))=some (.skip,⟨env,⟨B6,e6⟩,[],[]⟩):=λenv=>by
     have rS:Hp.get ⟨B5++[bq.cells [.aH,.aH] 66],oA⟩ B5.length=some (.cells [.aH,.aH] 66):=by
      show nth _ _=_;rw[zg,fM (dB _),Dt];rfl
     rw[zA mQ rS rfl (by show(DL.map bg).length=2;rw[GU,GV]) (by simp) rfl]
     have h1:(B5++[bq.cells [V.aH,.aH] 66]).set B5.length (.cells DL 66)=B6:=by
      rw[uN _ _ (dB _),Dt,J_];rfl
     have h2:Vm.storeCells [V.aH,.aH] 0 DL=DL:=by
      match DL,GV with
      | [a,b],_=>rfl
     rw[show V.laid (.agg DL)=DL from GU,h2];show some (OR.skip,St.mk env (Hp.bU ⟨(B5++[bq.cells [V.aH,.aH] 66]).set B5.length (.cells DL 66),oA⟩ _ _) [] [])=_;rw[h1,gC,he6]
    have hl6:zk prog ⟨B6,e6⟩ gl.g 66 (.ptr B5.length 0)=some (.agg DL):=by
     have rS:Hp.get ⟨B6,e6⟩ B5.length=some (.cells DL 66):=by
      show nth _ _=_;rw[J_,zg,fM (dB _),Dt];rfl
     rw[jX,rS,jB,qy,pR,mQ,wP,if_pos (by omega),ny,su (by omega)]
    refine zh ?_;simp only[BA,Nat.reduceEqDiff,ak,aq,aF,za,bI,Nat.reduceLT,bD,hlen,J6,ED,A2.b_,Ue ha,Uf,Zn,A2.bL];refine zh ?_
    simp only[qt,aK,zi,zJ,qQ,zV,z6,kf,Nat.reduceEqDiff,av,ql,ak,zL,qo,jt,zq,z8,aN,bB,aq,zS,qR,je,qj,aV,aW,qP,aC,bk,bw,zc,aZ,bp,aI,za,bI,Nat.reduceLT,aI,bD,hlen,e9,iZ,A2.bL,dw,kZ,zd,ze,eT,Rk,zR (show dD (V.agg [.aH,.aH])=true from rfl),V.cells,Oc,aal,aam,MH]
    refine vQ (P:=λenv H=>H=⟨B6,e6⟩/\env.length=74/\nth env 9=some (.ptr 2 0)/\nth env 10=some (zm 2 66 vs)/\nth env 11=some (.int .i64 ((600 - c:Nat):Int))/\nth env 48=some (A2.rv cQ)/\nth env 49=some (.int .i64 (L:Nat))/\nth env 50=some (.int .i64 (j:Nat))/\nth env 14=some (.ptr B5.length 0)/\nth env 15=some (.int .i64 cn)/\nth env 16=some (.bool ok)) ?_ ⟨rfl,by simp[hlen],by simp[za,e9],by simp[za,sq],by simp[za,iZ],by simp[za,J6],by simp[za,IL],by simp[za,ED],by simp[za,hlen],by simp[za,hlen],by simp[za,hlen]⟩
    clear hlen e9 sq iZ J6 IL ED env;rintro env H lk ⟨rfl,hlen,e9,sq,iZ,J6,IL,ED,sV,tW,uK⟩;refine zh ?_;cases ok with
    | false =>
     rw[if_neg (by simp)] at Dp
     obtain⟨i9,Dp⟩:=Dp;simp only[BA,Nat.reduceEqDiff,ak,aq,za,bI,Nat.reduceLT,bD,hlen,uK,i_,oS];refine .inl ?_;refine jo (tk:=[]) (by kernel_rfl) (by kernel_rfl) ?_
     simp only[BA,Nat.reduceEqDiff,ak,aj,aq,au,za,bI,Nat.reduceLT,bD,hlen,UB,s8,uL];simp only[go_ret,zp,Fx,wg,wj,l8]
     refine⟨rfl,[.aH,.dX 396 (.obj 2)],?_,?_⟩
     ·simp only[aq,s8,zy,za,bI,hlen,Nat.reduceLT,Nat.reduceEqDiff,aI,bD]
     ·refine⟨nx,CL,?_⟩;rw[<- ud,<- Ae];exact .inr ⟨j,a,c,vs,i9,HB++B,ha,Oe,by omega,rfl⟩
    | true =>
     rw[if_pos rfl] at Dp;obtain⟨i,NB,q1,q2,q3,rfl,q5,q6⟩:=Dp;simp only[BA,Nat.reduceEqDiff,ak,aq,za,bI,Nat.reduceLT,bD,hlen,uK,i_,mw];refine .inr ?_;obtain⟨cc,rF⟩:∃cc,cc=qB (zl aU (qh f.f.2 a.2 0) i):=⟨_,rfl⟩;rw[<- rF] at q3 tW;refine zh ?_
     simp only[BA,Nat.reduceEqDiff,ak,aq,za,bI,Nat.reduceLT,bD,hlen,iZ,tW,WX (show 600 - c<2 ^ 60 by omega) q3]
     have BC:=Oe.len;have aqh:vs.length<=16:=by rw[BC,iK,uQ];omega
     have lQ:=r61.BH (v:=.agg DL) rfl GV;have gj:∀H,kb prog H 61 (zm 2 66 vs) (.sl 2 [.agg DL] .no)=some (zm 2 66 (vs++[.agg DL])):=λH=>jM r61 (by simp) (j9 (by simp;omega) (by simp;omega))
     refine wK (tk:=[68]) (by kernel_rfl) ?_
     simp only[BA,Nat.reduceEqDiff,ak,aq,za,bI,Nat.reduceLT,bD,hlen,sq,sV,hl6,lQ,BG,gj,ky (cx:=⟨prog,gl.g,zj prog gl (n'+2),ey⟩) (show rC prog ey 61=false by kernel_rfl)]
     refine zh ?_;simp only[BA,Nat.reduceEqDiff,ak,aj,aq,za,bI,Nat.reduceLT,bD,hlen,ED,qn (show j<2 ^ 60 by omega),zp,aO]
     have aan:B6=HB++(B++BL++[bq.cells DL 66]):=by rw[J_,hB5];simp
     have aao:AW aU lab (HB++(B++BL++[bq.cells DL 66])) ((cQ.2.take (j+1)).map λa=>qh f.f.2 a.2 0) (c+cc) (vs++[.agg DL]):=by
      rw[mq,q5,rF];refine .snoc ?_ q1 q2 (q6.mono λk x _ h=>?_) (cZ Oe.le (by omega))
      ·have:=Oe.app (BL++[bq.cells DL 66]);rw[show HB++(B++BL++[bq.cells DL 66])=HB++B++(BL++[bq.cells DL 66]) by simp]
       exact this
      ·rw[show HB++(B++BL++[bq.cells DL 66])=HB++B++BL++[bq.cells DL 66] by simp]
       exact vP h
     rw[aan];exact⟨L - 1 - j,by omega,j+1,_,B++BL++[bq.cells DL 66],e6,_,c+cc,vs++[.agg DL],by omega,rfl,by simp[hlen],by simp[za,e9],by simp[za,hlen],by rw[show 600 - (c+cc)=600 - c - cc by omega];simp[za,hlen],by simp[za,J6],by simp[za,IL],by simp[za,hlen],by omega,aao⟩
   ·obtain rfl:L=j:=by omega
    refine .inr ⟨by simp,?_⟩
    simp only[qk,zN,zD,zp,bN,zi,iV,aI]
    rw[dG] at Oe;refine zh ?_;simp only[BA,Nat.reduceEqDiff,ak,aj,aq,za,bI,Nat.reduceLT,bD,hlen,sq];simp only[go_ret,zp,Fx]
    refine⟨trivial,[bg (zm 2 66 vs),.bP],?_,nx,CL,?_⟩
    ·simp only[zy,za,bI,hlen,Nat.reduceLT,Nat.reduceEqDiff,aI,bD]
    ·rw[<- ud,<- Ae];refine .inl ⟨c,vs,Oe,LR,?_⟩;show V.bx [bg (bg (zm 2 66 vs)),bg .bP]=_;rw[qU];rfl
end
section
set_option maxRecDepth 1000000
def MJ:aG:=[(.str [114,117,108,101,32,34,97,34,32,61,62,32,116])]
def UF:V:=(.bx [(.agg [.aH,.aH,(.sl 26 [(.agg [(.int .i64 (0)),(.bool false),.aH,(.int .i64 (3)),(.int .i64 (5)),(.int .u64 (0)),(.int .u64 (0)),(.int .u64 (0)),(.int .u64 (0)),(.str [97]),(.int .i64 (0)),(.int .i64 (0)),.aH,(.bool false),(.int .i64 (0)),(.int .i64 (0)),(.int .u64 (0)),(.int .u64 (0)),(.int .u64 (0)),(.int .u64 (0)),(.str []),(.int .i64 (0)),(.int .i64 (0)),.aH,(.str [116]),.aH])] .no)]),.bP])
def RL:V:=(.sl 21 [(.agg [(.int .i64 (2)),(.int .i64 (0)),(.int .u64 (0)),(.int .u64 (8589934592)),(.int .u64 (0)),(.int .u64 (0)),(.str []),(.int .i64 (0)),(.int .i64 (0)),.aH,(.bool false),(.int .i64 (0)),(.int .i64 (0)),(.int .u64 (0)),(.int .u64 (0)),(.int .u64 (0)),(.int .u64 (0)),(.str []),(.int .i64 (0)),(.int .i64 (0)),.aH])] .no)
def IP:ee:=[(66,MJ,UF)]
theorem ziz(n:Nat):zj prog { g:=fj,hk:=cN [],uq:=eg } (n+60) 66 MJ ⟨[],[]⟩=some (.ret UF,⟨[],[]⟩):=by kernel_rfl
end
section
set_option maxRecDepth 1000000
def EE:V:=(.agg [(.sl 4 [(.agg [(.int .u64 (0)),(.int .u64 (8589934592)),(.int .u64 (0)),(.int .u64 (0))])] .no),(.sl 1 [(.int .i64 (0))] .no),(.sl 1 [(.sl 1 [(.int .i64 (0))] .no)] .no),(.sl 1 [(.sl 1 [(.int .i64 (1))] .no)] .no)])
def RM:V:=(.sl 1 [(.int .i64 (0))] .no)
def isW:Option (Out×Hp)->Bool
 | some (.ret (.bx [.agg [a,b,c,.sl 1 [.sr k 0 1 _cap] .no],.bP]),H)=>match nth H.az k,EE with
  | some (.cells cs _),.agg [a',b',c',.sl _ [.sl _ r _] _]=>eG [a,b,c] [a',b',c'] && eG cs r
  | _,_=>false
 | _=>false
theorem ziA(n:Nat):isW (zj prog { g:=fj,hk:=cN [],uq:=eg } (n+60) 14 [RL] ⟨[],[]⟩)=true:=by kernel_rfl
theorem ziB(n:Nat):zj prog { g:=fj,hk:=cN [],uq:=eg } (n+60) 24 [EE] ⟨[],[]⟩=some (.ret (.bool true),⟨[],[]⟩):=by kernel_rfl
def Af:ee:=[(24,[EE],.bool true)]
theorem ziC(n:Nat):zj prog { g:=fj,hk:=cN Af,uq:=eg } (n+60) 72 [EE,RM] ⟨[],[]⟩=some (.ret (.bool true),⟨[],[]⟩):=by kernel_rfl
end
def f0:A2.F:=⟨(true,[(0,8589934592,0,0)]),(true,[0]),(true,[(true,[0])]),(true,[(true,[1])])⟩
def a0:A2.cX:=(true,[0])
theorem aaq:A2.fv f0=EE:=by kernel_rfl
theorem aar:A2.iv a0=RM:=by kernel_rfl
def Ag:ee:=(72,[EE,RM],.bool true)::Af
theorem ML{f:FuncId}{back:Bool}{ty:Nat}{p:Prop}(r_:ty<1048576)(h:eg (Ge f back ty)=true):p:=by rw[YU r_] at h;cases h
theorem okS:z0 prog fj Ag:=yI mixed gK ff (yI mixed gK ff qY (ziB 0) rfl rfl (hit:=λ_ _ _ r_ h=>ML r_ h)) (ziC 0) rfl rfl (hit:=λ_ _ _ r_ h=>ML r_ h)
def UG:Gl:={ g:=fj,hk:=cN Ag,uq:=ey }
theorem zmU{f:FuncId}{back:Bool}{ty:Nat}(h:ty<1048576):ey (Ge f back ty)=false:=by
 have hk:Nat.beq (Ge f back ty) mC=false:=by
  cases hb:Nat.beq (Ge f back ty) mC with
  | false=>rfl
  | true =>
   have:=fo hb;simp only[Ge,mC] at this;omega
 simp only[ey,YU h,hk,Bool.or_self]
theorem aas:nt prog UG:=⟨okS.pure,λn f args H out H' h=>(by cases h),λ_ _ _ r_ h=>(by rw[show UG.uq=ey from rfl,zmU r_] at h;cases h)⟩
theorem GSs:GS UG where
 uq:=rfl
 fq:=λ_ _ _ _ _=>rfl
 hk:=λf args h=>by
  have h1:Nat.beq f 24=false:=by
   cases hb:Nat.beq f 24 with
   | false=>rfl
   | true=>rw[fo hb] at h;revert h;decide
  have h2:Nat.beq f 72=false:=by
   cases hb:Nat.beq f 72 with
   | false=>rfl
   | true=>rw[fo hb] at h;revert h;decide
  show cN Ag f args=none;simp only[Ag,Af,cN,h1,h2]
theorem aat:J8 f0 1 2000 where
 mm:=rfl
 hs:=λq hq=>by
  obtain rfl:q=(0,8589934592,0,0):=by simpa[f0] using hq
  intro i
  match i with
  | 0=>exact⟨by decide,by decide⟩
  | 1=>exact⟨by decide,by decide⟩
  | 2=>exact⟨by decide,by decide⟩
  | i+3=>exact⟨by show(0:Int)<=0;decide,by show(0:Int)<18446744073709551616;decide⟩
 ns:=by decide
 nf:=by decide
 nl:=rfl
 nr:=λrow hr=>by
  obtain rfl:row=(true,[1]):=by simpa[f0] using hr
  exact⟨by decide,by decide,λ(z:Int) hz=>by
   obtain rfl:z=1:=by simpa using hz
   decide⟩
 fr:=λrow hr=>by
  obtain rfl:row=(true,[0]):=by simpa[f0] using hr
  exact⟨by decide,by decide,λ(z:Int) hz=>by
   obtain rfl:z=0:=by simpa using hz
   decide⟩
def RN:Nat->Nat->Nat:=uc f0 [(0,2)] 1
def zpC(w:Nat):Int:=v8 1 (wD 1 w) (-1)
theorem J':zl RN 1 3=[1,0,2]:=by kernel_rfl
def ue:A2.D:=((true,[(true,(List.range 256).map λy=>if y=97 then 2 else 1),(true,List.replicate 256 1),(true,List.replicate 256 1)]),(true,[-1,-1,0]))
theorem IQ:A2.oe (Bq RN 1 zpC 3)=A2.oe ue:=by kernel_rfl
def wdV:V:=.bx [A2.oe ue,.bP]
theorem Ah:∃v H',zj prog UG 2005 28 [EE,RM] ⟨[],[]⟩=some (.ret v,H')/\mG H' v wdV:=by
 obtain⟨v,H',h,hp⟩:=ze3 GSs (n:=2003) (m:=1) (f:=f0) (act:=a0) (ck:=true) (rk:=true) (by decide) (by decide) (by kernel_rfl) (by kernel_rfl) (by kernel_rfl) (by kernel_rfl) (λ_ _=>⟨aat,λr hr=>by
  obtain rfl:r=0:=by simpa[a0] using hr
  exact⟨by decide,by decide⟩,by decide,by decide⟩)
 rw[aaq,aar] at h;rw[if_pos ⟨rfl,rfl⟩] at hp;obtain⟨nx,GJ,hp⟩:=hp;have e1:uc f0 nx 1=RN:=zjQ (by rw[GJ];rfl)
 have e2:qh f0.f.2 a0.2 0=1:=rfl;have e3:(λw=>v8 f0.s.2.length (wD 1 w) (-1))=zpC:=rfl;rw[e1,e2,e3] at hp;have hc:(zl RN 1 3).length=3:=by rw[J'];rfl
 refine⟨v,H',h,?_⟩;rcases hp with⟨i,b,NB,q1,q2,q3,rfl,q5⟩|⟨i,q1,_⟩
 ·obtain rfl:=xy q2 hc;have:=ziy (lab:=zpC) (es:=H'.bJ) q5 (by decide) hc
  rw[IQ] at this;exact this
 ·obtain⟨rs,e⟩:=UC (j:=i) hc;have:=ZH (ws:=zl RN 1 i) (rs:=rs);rw[<- e,J'] at this;have h3:qB [1,0,2]=3:=rfl;omega
section
set_option maxRecDepth 1000000
theorem zkR(n:Nat):zj prog { g:=fj,hk:=cN IP,uq:=eg } (n+60) 45 MJ ⟨[],[]⟩=some (.ret RL,⟨[],[]⟩):=by kernel_rfl
end
section
open Go.RowKit Go.ChangeAt Go.WideShapes
set_option maxRecDepth 1000000
theorem kz{P:aY}{g0:Nat->Nat->cj}{l:ee}(hl:z0 P g0 l){f:FuncId}{args:aG}{v:V}
  (h:∀(d:Nat)(H:Hp)(g:Gh)(w:aQ)(bG:dR)(lc:Go.Vm.Loc),iu P g0 g->p7 g H.az w->eS g H.az.length args bG->Calls P f bG w (fA d H g w lc (.ret v) H)):z0 P g0 ((f,args,v)::l):=by
 refine⟨λf' ys u hu d H g w bG lc h1 h2 h3=>?_,λn f args H out H' h=>(by cases h),λ_ _ _ _ h=>(by cases h)⟩
 simp only[cN] at hu;split at hu
 ·rename_i hf;obtain rfl:=fo hf;split at hu
  next hs=>cases hu;rw[xm hs] at h3;exact h d H g w bG lc h1 h2 h3
  ·exact hl.pure _ _ _ hu d H g w bG lc h1 h2 h3
 ·exact hl.pure _ _ _ hu d H g w bG lc h1 h2 h3
theorem zqG{H:Hp}{k cap:Nat}{ty:aD}(h:nth H.az k=some (.cells [.int .i64 1] ty)) :
  mG H (.bx [.agg [.sl 4 [.agg [.int .u64 0,.int .u64 8589934592,.int .u64 0,.int .u64 0]] .no,.sl 1 [.int .i64 0] .no,.sl 1 [.sl 1 [.int .i64 0] .no] .no,.sl 1 [.sr k 0 1 cap] .no],.bP]) (.bx [EE,.bP]):=by
 have hk:mG H (.sr k 0 1 cap) (.sl 1 [.int .i64 1] .no):=by
  have:=mG.sr (H:=H) (b:=k) (off:=0) (len:=1) (cap:=cap) (cs:=[.int .i64 1]) (t:=ty) (by rw[zg] at h;exact h) rfl (dB _)
  exact this
 have hr:mG H (.sl 1 [.sr k 0 1 cap] .no) (.sl 1 [.sl 1 [.int .i64 1] .no] .no):=by
  refine .sl rfl (λj x hj=>?_) (λj y hj=>?_) (λj x y hj hy=>?_)
  ·match j,hj with
   | 0,hj=>cases hj;exact⟨rfl,rfl⟩
   | j+1,hj=>simp at hj
  ·match j,hj with
   | 0,hj=>cases hj;exact⟨rfl,rfl⟩
   | j+1,hj=>simp at hj
  ·match j,hj,hy with
   | 0,hj,hy=>cases hj;cases hy;exact hk
   | j+1,hj,hy=>simp at hj
 refine .bx rfl λj x y hj hy=>?_
 match j,hj,hy with
 | 0,hj,hy =>
  cases hj;cases hy;refine .agg rfl (λj y hj=>?_) λj x y hj hy=>?_
  ·match j,hj with
   | 0,hj=>cases hj;rfl
   | 1,hj=>cases hj;rfl
   | 2,hj=>cases hj;rfl
   | 3,hj=>cases hj;rfl
   | j+4,hj=>simp at hj
  ·match j,hj,hy with
   | 0,hj,hy=>cases hj;cases hy;exact .same rfl
   | 1,hj,hy=>cases hj;cases hy;exact .same rfl
   | 2,hj,hy=>cases hj;cases hy;exact .same rfl
   | 3,hj,hy=>cases hj;cases hy;exact hr
   | j+4,hj,hy=>simp at hj
 | 1,hj,hy=>cases hj;cases hy;exact .same rfl
 | j+2,hj,hy=>simp at hj
theorem zpD{x:Option (Out×Hp)}(h:isW x=true):∃u H',x=some (.ret u,H')/\mG H' u (.bx [EE,.bP]):=by
 unfold isW at h;split at h
 ·rename_i a b c k cap H;refine⟨_,_,rfl,?_⟩;cases hk:nth H.az k with
  | none=>rw[hk] at h;cases h
  | some y =>
   rw[hk] at h;cases y with
   | cells cs ty =>
    simp only[EE,eF] at h;have e1:=xm h.1;have e2:=xm h.2;simp only[List.cons.injEq,and_true] at e1;obtain⟨rfl,rfl,rfl⟩:=e1;subst e2;exact zqG hk
   | _=>cases h
 ·cases h
end
section
section
variable{aU:Nat->Nat->Nat}{s0:Nat}{lab:Nat->Int}
end
end
section
def RO(l:ee):Gl:={ g:=fj,hk:=cN l,uq:=ey }
theorem hkO{l:ee}(hl:z0 prog fj l):nt prog (RO l):=⟨hl.pure,λn f args H out H' h=>(by cases h),λ_ _ _ r_ h=>(by rw[show(RO l).uq=ey from rfl,zmU r_] at h;cases h)⟩
theorem zjR{f:FuncId}{args:aG}:∀{l:ee},(∀x∈l,Nat.beq f x.1=false)->cN l f args=none
 | [],_=>rfl
 | (f',xs,v)::r,h=>by
  have h1:Nat.beq f f'=false:=h _ (fy ..);simp only[cN,h1];exact zjR λx hx=>h x (eo _ hx)
theorem GSO{l:ee}(h:∀x∈l,x.1=24\/x.1=72):GS (RO l) where
 uq:=rfl
 fq:=λ_ _ _ _ _=>rfl
 hk:=λf args hf=>zjR λx hx=>by
  cases hb:Nat.beq f x.1 with
  | false=>rfl
  | true =>
   have e:=fo hb;rcases h x hx with e'|e'
   ·rw[e'] at e;subst e;revert hf;decide
   ·rw[e'] at e;subst e;revert hf;decide
theorem zmV{l:ee}{NZ:Gl}(hl:z0 prog fj l)(Fj:nt prog NZ)(hg:NZ.g=fj){f:FuncId}{xs:aG}{v:V}(he:Kn prog NZ f xs v)(ht:aL xs=0)(hv:v.top=0):z0 prog fj ((f,xs,v)::l):=by
 obtain⟨k,h⟩:=he;exact kz hl λd H g w bG lc h1 h2 h3=>xC mixed gK ff Fj (h k (dB _) ⟨[],[]⟩) ht hv (by rw[hg];exact h1) h2 h3
theorem wH{f:FuncId}{xs:aG}{v:V}{l:ee}:cN ((f,xs,v)::l) f xs=some v:=by
 simp only[cN,iV,dK]
def mP(f:A2.F):Nat:=(f.s.2.length+f.f.2.length) / 8+1
def nj(f:A2.F):Nat->Nat->Nat:=uc f (f.n.2.map λr=>(0,yR r)) (mP f)
def F3(f:A2.F)(w:Nat):Int:=v8 f.s.2.length (wD (mP f) w) (-1)
def nV(f:A2.F)(act:List Int):Nat:=qh f.f.2 act 0
theorem zmW{f:A2.F}{nx:aP}(h:nx.map (·.2)=f.n.2.map yR):uc f nx (mP f)=nj f:=zjQ (by rw[h,List.map_map];rfl)
def UH(aU:Nat->Nat->Nat)(lab:Nat->Int)(s0:Nat)(v:V):Prop :=
 (∃i,0<i/\(zl aU s0 i).length=i/\qB (zl aU s0 i)<=600/\v=.bx [A2.oe (Bq aU s0 lab i),.bP]) \/
 (∃i,600<qB (zl aU s0 i)/\v=.bx [.agg [.aH,.aH],.dX 396 (.obj 2)])
inductive AD(aU:Nat->Nat->Nat)(lab:Nat->Int):bO->Nat->aG->Prop
 |nil:AD aU lab [] 0 []
 |snoc {ss:bO} {c s0 i:Nat} {vs:aG} (h:AD aU lab ss c vs) (hi:0<i) (hl:(zl aU s0 i).length=i):AD aU lab (ss++[s0]) (c+qB (zl aU s0 i)) (vs++[A2.oe (Bq aU s0 lab i)])
def MN(f:A2.F)(l:List A2.cX)(v:V):Prop :=
 (∃c vs,AD (nj f) (F3 f) (l.map λa=>nV f a.2) c vs/\c<=600/\v=.bx [.sl 2 vs .no,.bP]) \/
 (v=.bx [.aH,.dX 396 (.obj 2)]/\∃j a c ds i,l[j]?=some a/\AD (nj f) (F3 f) ((l.take j).map λa=>nV f a.2) c ds/\600<c+qB (zl (nj f) (nV f a.2) i))
section
variable{l l1:ee}{f:A2.F}{n:Nat}
theorem zmX:(RO l).g 0 0=some (.dX 396 (.obj 0)):=by kernel_rfl
theorem zmY:(RO l).g 2 0=some (.dX 396 (.obj 2)):=by kernel_rfl
theorem zkS(hl:z0 prog fj l)(tG:z0 prog fj l1)(h1:∀x∈l1,x.1=24\/x.1=72){act:A2.cX}{ck rk:Bool}(hn:mP f+1000<=n)(uu:mP f<2 ^ 36)
  (BN:cN l1 24 [A2.fv f]=some (.bool ck)) (MD:cN l1 72 [A2.fv f,A2.iv act]=some (.bool rk))
  (hF:ck=true->rk=true->J8 f (mP f) (n - 3)/\(∀r∈act.2,0<=r/\r.toNat<f.f.2.length)/\act.2.length<n - 3/\act.2.length<2 ^ 60) :
  ∃v,v.top=0/\(if ck=true/\rk=true then UH (nj f) (F3 f) (nV f act.2) v else v=.bx [.agg [.aH,.aH],.dX 396 (.obj 0)])/\z0 prog fj ((28,[A2.fv f,A2.iv act],v)::l):=by
 obtain⟨v,H',hc,hp⟩:=ze3 (GSO h1) hn uu BN MD zmX zmY hF;have ht:aL [A2.fv f,A2.iv act]=0:=by simp[aL,A2.sS,A2.ry]
 have pP:∀v',mG H' v v'->(∀sz xs e,v'≠.sl sz xs (.yes e))->z0 prog fj ((28,[A2.fv f,A2.iv act],v')::l):=λv' hz e_ =>
  kz hl λd H g w bG lc h1 h2 h3=>Pd mixed gK ff (hkO tG) hc ht hz e_ h1 h2 h3
 split at hp
 ·rename_i pZ;obtain⟨nx,GJ,hp⟩:=hp;rw[zmW GJ] at hp;rcases hp with⟨i,b,NB,q1,q2,q3,rfl,q5⟩|⟨i,q1,rfl⟩
  ·have hz:=ziy (lab:=F3 f) (es:=H'.bJ) q5 q1 q2;exact⟨_,hz.top,by rw[if_pos pZ];exact .inl ⟨i,q1,q2,q3,rfl⟩,pP _ hz λ_ _ _ e=>by cases e⟩
  ·exact⟨_,rfl,by rw[if_pos pZ];exact .inr ⟨i,q1,rfl⟩,pP _ (.same rfl) λ_ _ _ e=>by cases e⟩
 next pZ=>subst hp;exact⟨_,rfl,by rw[if_neg pZ],pP _ (.same rfl) λ_ _ _ e=>by cases e⟩
theorem zou{H:Hp}{x1 x2 y1 y2 e e':V}(h:mG H (.bx [.agg [x1,x2],e]) (.bx [.agg [y1,y2],e']))(ht:0<(V.agg [x1,x2]).top):mG H x1 y1/\mG H x2 y2/\y1.one=true/\y2.one=true/\aL [y1,y2]=0:=by
 cases h with
 | same h' =>
  simp only[V.top,aL] at h' ht;omega
 | bx k1 k2 =>
  have k0:=k2 0 _ _ rfl rfl;have kt:=k0.top;cases k0 with
  | same h' =>
   simp only[V.top,aL] at h' ht;omega
  | agg m1 m2 m3=>exact⟨m3 0 _ _ rfl rfl,m3 1 _ _ rfl rfl,m2 0 _ rfl,m2 1 _ rfl,kt⟩
theorem zov{aU:Nat->Nat->Nat}{s0:Nat}{lab:Nat->Int}{B:List bq}{es:aP}{b i:Nat}{NB:bO}(h:RW aU s0 B b i NB)(hi:0<i)(hc:(zl aU s0 i).length=i) :
  ∃x1 x2 y1 y2,AE b NB ((zl aU s0 i).map lab)=.agg [x1,x2]/\A2.oe (Bq aU s0 lab i)=.agg [y1,y2]/\mG ⟨B,es⟩ x1 y1/\mG ⟨B,es⟩ x2 y2/\y1.one=true/\y2.one=true/\aL [y1,y2]=0 :=
 ⟨_,_,_,_,rfl,rfl,zou (ziy (lab:=lab) (es:=es) h hi hc) (zmT (dU:=(zl aU s0 i).map lab) h hi)⟩
theorem AW.frz{aU:Nat->Nat->Nat}{lab:Nat->Int}{H:Hp}{ss:bO}{c:Nat}{vs:aG}(h:AW aU lab H.az ss c vs) :
  ∃ds,AD aU lab ss c ds/\vs.length=ds.length/\(zK vs).length=(zK ds).length/\(∀y∈ds,y.cells.length=2)/\(∀(j:Nat)(y:V),(zK ds)[j]?=some y->y.one=true)/\(∀(j:Nat)(x y:V),(zK vs)[j]?=some x->(zK ds)[j]?=some y->mG H x y)/\aL ds=0:=by
 induction h with
 | nil=>exact⟨[],.nil,rfl,rfl,λy hy=>(by cases hy),λj y hy=>(by simp[zK] at hy),λj x y hx=>(by simp[zK] at hx),rfl⟩
 | @snoc ss c s0 i b NB vs h hi hl hr iB ih =>
  obtain⟨ds,q1,q2,q3,q4,q5,q6,q7⟩:=ih;obtain⟨x1,x2,y1,y2,e1,e2,z1,z2,o1,o2,t0⟩:=zov (lab:=lab) (es:=H.bJ) hr hi hl;have f1:zK (vs++[AE b NB ((zl aU s0 i).map lab)])=zK vs++[x1,x2]:=by rw[e1];simp[zK,V.cells]
  have f2:zK (ds++[A2.oe (Bq aU s0 lab i)])=zK ds++[y1,y2]:=by rw[e2];simp[zK,V.cells]
  refine⟨_,.snoc q1 hi hl,by simp[q2],by rw[f1,f2];simp[q3],λy hy=>?_,λj y hy=>?_,λj x y hx hy=>?_,?_⟩
  ·rcases tu.1 hy with h'|h'
   ·exact q4 y h'
   ·rw[r9] at h';rw[h',e2];rfl
  ·rw[f2] at hy;rcases eY j (zK ds).length with hj|hj
   ·rw[gF hj] at hy;exact q5 j y hy
   ·rw[fM hj] at hy
    match j - (zK ds).length,hy with
    | 0,hy=>cases hy;exact o1
    | 1,hy=>cases hy;exact o2
    | k+2,hy=>simp at hy
  ·rw[f1] at hx;rw[f2] at hy;rcases eY j (zK ds).length with hj|hj
   ·rw[gF hj] at hy;rw[gF (by omega)] at hx
    exact q6 j x y hx hy
   ·rw[fM hj] at hy;rw[fM (by omega),q3] at hx
    match j - (zK ds).length,hx,hy with
    | 0,hx,hy=>cases hx;cases hy;exact z1
    | 1,hx,hy=>cases hx;cases hy;exact z2
    | k+2,hx,hy=>simp at hy
  ·refine Nat.le_zero.1 (wx (by omega) ?_)
   rw[e2];simp only[aL,V.top] at t0 ⊢;omega
theorem zjS(hl:z0 prog fj l)(tG:z0 prog fj l1)(h1:∀x∈l1,x.1=24\/x.1=72){cQ:A2.gR}{ck:Bool}{rk:A2.cX->Bool}(hn:mP f+1000<=n)(uu:mP f<2 ^ 36)
  (BN:cN l1 24 [A2.fv f]=some (.bool ck)) (MD:∀a∈cQ.2,cN l1 72 [A2.fv f,A2.iv a]=some (.bool (rk a)))
  (sF:cQ.2.length<n) (RK:cQ.2.length<2 ^ 60) (hF:ck=true->J8 f (mP f) (n - 3)) (hA:∀a∈cQ.2,rk a=true->(∀r∈a.2,0<=r/\r.toNat<f.f.2.length)/\a.2.length<n - 3/\a.2.length<2 ^ 60) :
  ∃v,v.top=0/\(if D6 ck rk cQ.2=true then MN f cQ.2 v else v=.bx [.aH,.dX 396 (.obj 0)])/\z0 prog fj ((30,[A2.fv f,A2.rv cQ],v)::l):=by
 obtain⟨v,H',hc,hp⟩:=zot (GSO h1) hn uu BN MD zmX zmY sF RK hF hA;have ht:aL [A2.fv f,A2.rv cQ]=0:=by simp[aL,A2.sS,A2.CD]
 have pP:∀v',mG H' v v'->(∀sz xs e,v'≠.sl sz xs (.yes e))->z0 prog fj ((30,[A2.fv f,A2.rv cQ],v')::l):=λv' hz e_ =>
  kz hl λd H g w bG lc h1 h2 h3=>Pd mixed gK ff (hkO tG) hc ht hz e_ h1 h2 h3
 split at hp
 ·rename_i pZ;obtain⟨nx,GJ,hp⟩:=hp;rw[zmW GJ] at hp;rcases hp with⟨c,vs,q1,q2,rfl⟩|⟨j,a,c,vs,i,B',q1,q2,q3,rfl⟩
  ·have h0:0<vs.length:=by
    rw[q1.len,iK];simp only[D6,eF,decide_eq_true_eq] at pZ;omega
   have e:bg (zm 2 66 vs)=.sl 2 vs .no:=by rw[zf3,UD h0]
   rw[e] at hc;obtain⟨ds,k1,k2,k3,k4,k5,k6,k7⟩:=q1.frz;refine⟨.bx [.sl 2 ds .no,.bP],by simp[V.top,aL,k7],by rw[if_pos pZ];exact .inl ⟨c,ds,k1,q2,rfl⟩,?_⟩
   exact kz hl λd H g w bG lc h1 h2 h3=>znP mixed gK ff (hkO tG) hc ht k2 k3 k4 k5 k6 k7 h1 h2 h3
  ·exact⟨_,rfl,by rw[if_pos pZ];exact .inr ⟨rfl,j,a,c,_,i,q1,(AW.frz (H:=⟨B',[]⟩) q2).choose_spec.1,q3⟩,pP _ (.same rfl) λ_ _ _ e=>by cases e⟩
 next pZ=>subst hp;exact⟨_,rfl,by rw[if_neg pZ],pP _ (.same rfl) λ_ _ _ e=>by cases e⟩
end
end
end Go.Proofs.YthohlnmcjkjeiaaGreatDoor
namespace Go.Proofs.YthohlnmcjkjeiaaGreatDoor.A2
open Go Go.Vm Go.Vm.Sx
open Go.Proofs.Tryz
set_option maxRecDepth 10000
section
set_option linter.unusedSectionVars false
variable{gl:Gl}
end
section
set_option linter.unusedSectionVars false
variable{gl:Gl}
def pz(n:Nat)(rules:List Int)(iA:Int)(l:List Int)(i:Nat):Bool :=
 bif (i == 0 || !nQ (gi l i) (gi l (i - 1))) && !dV (gi l i) 0 then (bif gi l i == (n:Int)+iA then true else bif nQ (n:Int) (gi l i) then false else gi rules (gi l i).toNat == iA) else false
end
section
set_option linter.unusedSectionVars false
variable{gl:Gl}
theorem zkT{l:List Int}(h:nT l=true){j:Nat}(hj:j+1<l.length):gi l j<=gi l (j+1):=by
 have:=cU.1 h (l.length - 1 - (j+1)) (by omega)
 simp only[Gb] at this;have e1:l.length - 1 - (l.length - 1 - (j+1))=j+1:=by omega
 rw[e1] at this;have e2:j+1 - 1=j:=by omega
 rw[e2] at this;simpa[dV] using this
theorem pV{l : List Int}(h : nT l = true) : ∀{j i : Nat}, i <= j -> j < l.length -> gi l i <= gi l j
  | 0, i, hi, _ => by have : i = 0 := by omega
                      subst this; exact Int.le_refl _
  | j + 1, i, hi, hj => by
    rcases eY i (j + 1) with h1 | h1
    · exact Int.le_trans (pV h (by omega) (by omega)) (zkT h hj)
    · have : i = j + 1 := by omega
      subst this; exact Int.le_refl _
def nW(n:Nat)(r:List Int)(fs ns:List (List Int)):Bool :=
 bif wN (λi=>wN (pz n r (i:Int) (gr fs i)) (gr fs i).length) fs.length then wN (λi=>wN (pz n r (gi r i) (gr ns i)) (gr ns i).length) n else false
def D7(n:Nat)(r:List Int)(fs ns:List (List Int)):Bool :=
 bif (((dV 1000 (n:Int) || dV 200 (fs.length:Int)) || !((r.length:Int) == (n:Int))) || !((ns.length:Int) == (n:Int))) then false else
 bif nT r then bif dV 0 (n:Int) then bif !dV (gi r 0) 0 then bif nQ (fs.length:Int) (gi r (n - 1)) then false else nW n r fs ns else false else nW n r fs ns else false
end
end Go.Proofs.YthohlnmcjkjeiaaGreatDoor.A2
namespace Go.Proofs.YthohlnmcjkjeiaaGreatDoor
open Go.Proofs.Tryz
set_option maxRecDepth 100000
open Go Go.Vm Go.Vm.Sx
theorem zoR{l:List Int}(h0:∀i,i<l.length->0<=A2.gi l i)(UI:∀i,0<i->i<l.length->A2.gi l (i - 1)<A2.gi l i):∀i,i<l.length->(i:Int)<=A2.gi l i
 | 0,h=>h0 0 h
 | i+1,h=>by
  have h1:=zoR h0 UI i (by omega)
  have h2:=UI (i+1) (Nat.succ_pos _) h;rw[Nat.add_sub_cancel] at h2;omega
theorem zmZ{l:List Int}{b:Nat}(h0:∀i,i<l.length->0<=A2.gi l i)(UI:∀i,0<i->i<l.length->A2.gi l (i - 1)<A2.gi l i)(hb:∀i,i<l.length->A2.gi l i<b):l.length<=b:=by
 rcases Kk l.length with h|h
 ·omega
 ·have h1:=zoR h0 UI (l.length - 1) (by omega)
  have h2:=hb (l.length - 1) (by omega)
  omega
theorem zm0{l:List Int}{z:Int}(h:z∈l):∃i,i<l.length/\A2.gi l i=z:=by
 obtain⟨i,hi,e⟩:=List.getElem_of_mem h;exact⟨i,hi,by simp[A2.gi,hi,e]⟩
theorem zf4{n:Nat}{l:List Int}(h:wN (A2.AA n l) l.length=true):(∀r∈l,0<=r/\r.toNat<n)/\l.length<=n:=by
 have hk:∀i,i<l.length->0<=A2.gi l i/\A2.gi l i<n/\(0<i->A2.gi l (i - 1)<A2.gi l i):=λi hi=>by
  have:=cU.1 h i hi;simp only[A2.AA,dV,nQ,eF,tf,Gb,decide_eq_false_iff_not,beq_iff_eq] at this;exact⟨by omega,by omega,λh0=>by omega⟩
 refine⟨λr hr=>?_,zmZ (λi hi=>(hk i hi).1) (λi h0 hi=>(hk i hi).2.2 h0) λi hi=>(hk i hi).2.1⟩;obtain⟨i,hi,rfl⟩:=zm0 hr;have:=hk i hi;omega
theorem zhD{n R:Nat}{r:List Int}{iA:Int}{l:List Int}(h:wN (A2.pz n r iA l) l.length=true)(h0:0<=iA)(h1:iA<R):(∀z∈l,0<=z/\z.toNat<n+R)/\l.length<=n+R:=by
 have hk:∀i,i<l.length->0<=A2.gi l i/\A2.gi l i<((n+R:Nat):Int)/\(0<i->A2.gi l (i - 1)<A2.gi l i):=λi hi=>by
  have:=cU.1 h i hi;unfold A2.pz at this;cases hc:(i == 0 || !nQ (A2.gi l i) (A2.gi l (i - 1))) && !dV (A2.gi l i) 0 with
  | false=>rw[hc] at this;cases this
  | true =>
   rw[hc] at this;simp only[dV,nQ,eF,tf,Gb,decide_eq_false_iff_not,beq_iff_eq] at hc;refine⟨by omega,?_,λh0=>by omega⟩
   cases h2:A2.gi l i == (n:Int)+iA with
   | true =>
    have:=eq_of_beq h2;omega
   | false =>
    rw[h2] at this;cases h3:nQ (n:Int) (A2.gi l i) with
    | true=>rw[h3] at this;cases this
    | false =>
     simp only[nQ,decide_eq_false_iff_not] at h3;omega
 refine⟨λz hz=>?_,zmZ (λi hi=>(hk i hi).1) (λi h0 hi=>(hk i hi).2.2 h0) λi hi=>(hk i hi).2.1⟩;obtain⟨i,hi,rfl⟩:=zm0 hz;have:=hk i hi;omega
theorem zjT{f:A2.F}(hq:∀q∈f.s.2,CI q)(h:A2.D7 f.s.2.length f.r.2 (A2.rowsOf f.f) (A2.rowsOf f.n)=true){n:Nat}(hn:2000<=n):J8 f ((f.s.2.length+f.f.2.length) / 8+1) n/\f.s.2.length<=1000/\f.f.2.length<=200:=by
 unfold A2.D7 at h;cases hh:(((dV 1000 (f.s.2.length:Int) || dV 200 ((A2.rowsOf f.f).length:Int)) || !((f.r.2.length:Int) == (f.s.2.length:Int))) || !(((A2.rowsOf f.n).length:Int) == (f.s.2.length:Int))) with
 | true=>rw[hh] at h;cases h
 | false =>
 rw[hh] at h;simp only[dV,A2.ew,Bool.or_eq_false_iff,Bool.not_eq_false',beq_iff_eq,decide_eq_false_iff_not] at hh;obtain⟨⟨⟨g1,g2⟩,g3⟩,g4⟩:=hh;simp only[rB] at h;cases hs:A2.nT f.r.2 with
 | false=>rw[hs] at h;cases h
 | true =>
 rw[hs] at h;simp only[oo] at h;have hr:(∀i,i<f.s.2.length->0<=A2.gi f.r.2 i/\A2.gi f.r.2 i<f.f.2.length)/\A2.nW f.s.2.length f.r.2 (A2.rowsOf f.f) (A2.rowsOf f.n)=true:=by
  cases h0:dV 0 (f.s.2.length:Int) with
  | false =>
   rw[h0] at h;simp only[dV,decide_eq_false_iff_not] at h0;exact⟨λi hi=>by omega,h⟩
  | true =>
   rw[h0] at h;simp only[oo] at h;cases h1:dV (A2.gi f.r.2 0) 0 with
   | true=>rw[h1] at h;cases h
   | false =>
   rw[h1] at h;simp only[oS,oo] at h;cases h2:nQ ((A2.rowsOf f.f).length:Int) (A2.gi f.r.2 (f.s.2.length - 1)) with
   | true=>rw[h2] at h;cases h
   | false =>
   rw[h2] at h;simp only[dV,nQ,A2.ew,decide_eq_false_iff_not] at h1 h2;refine⟨λi hi=>?_,h⟩;have k1:=A2.pV hs (i:=0) (j:=i) (dP _) (by omega)
   have k2:=A2.pV hs (i:=i) (j:=f.s.2.length - 1) (by omega) (by omega)
   omega
 obtain⟨hr,h⟩:=hr;unfold A2.nW at h;cases hA:wN (λi=>wN (A2.pz f.s.2.length f.r.2 (i:Int) (A2.gr (A2.rowsOf f.f) i)) (A2.gr (A2.rowsOf f.f) i).length) (A2.rowsOf f.f).length with
 | false=>rw[hA] at h;cases h
 | true =>
 rw[hA] at h;simp only[oo] at h;rw[A2.ew] at hA;have rn:∀row∈f.n.2,(∀z∈row.2,0<=z/\z.toNat<f.s.2.length+f.f.2.length)/\row.2.length<=f.s.2.length+f.f.2.length:=λrow Eg=>by
  obtain⟨i,hi,e⟩:=List.getElem_of_mem Eg;have hg:A2.gr (A2.rowsOf f.n) i=row.2:=A2.rz (by rw[gG hi,e])
  have h1:=cU.1 h i (by omega)
  rw[hg] at h1;obtain⟨k1,k2⟩:=hr i (by omega)
  exact zhD h1 k1 k2
 have rf:∀row∈f.f.2,(∀z∈row.2,0<=z/\z.toNat<f.s.2.length+f.f.2.length)/\row.2.length<=f.s.2.length+f.f.2.length:=λrow Eg=>by
  obtain⟨i,hi,e⟩:=List.getElem_of_mem Eg;have hg:A2.gr (A2.rowsOf f.f) i=row.2:=A2.rz (by rw[gG hi,e])
  have h1:=cU.1 hA i hi;rw[hg] at h1;exact zhD h1 (by omega) (by omega)
 refine⟨⟨rfl,hq,⟨by omega,by omega⟩,by omega,by omega,λrow Eg=>?_,λrow Eg=>?_⟩,by omega,by omega⟩
 ·obtain⟨k1,k2⟩:=rn row Eg;exact⟨by omega,by omega,k1⟩
 ·obtain⟨k1,k2⟩:=rf row Eg;exact⟨by omega,by omega,k1⟩
end Go.Proofs.YthohlnmcjkjeiaaGreatDoor
namespace Go.Proofs.YthohlnmcjkjeiaaGreatDoor.A2
open Go Go.Vm Go.Vm.Sx
open Go.Proofs.Tryz
set_option maxRecDepth 100000
section
set_option maxHeartbeats 1000000
variable{gl:Gl}{fK:bO}
theorem lI:qG prog 27=some false:=by kernel_rfl
theorem RP:z4 prog 27=some 1:=by kernel_rfl
theorem RQ:qG prog 66=some true:=by kernel_rfl
theorem F4:z4 prog 66=some 2:=by kernel_rfl
theorem pW:zH prog 66 0=some 0/\zH prog 66 1=some 1:=⟨by kernel_rfl,by kernel_rfl⟩
theorem ziE(d:D):dD (oe d)=true:=rfl
theorem UJ(d:D):(oe d).laid=[rv d.1,iv d.2]:=by simp[oe,V.laid,bL,b_]
theorem ziF(d:D)(env:aG)(t:Nat):jd env t (some (oe d))=some (oe d,env):=rfl
theorem UK{p:gR}{i:Nat}{q:cX}(h:p.2[i]?=some q):zt prog 28 (rv p) (i:Int)=some (.vp [iv q]):=by
 have hk:¬((i:Int)<0):=by omega
 have hn:nth (p.2.map iv) i=some (iv q):=by rw[zg,mu,h];rfl
 have cK:rv p=.sl 1 (p.2.map iv) .no:=by
  unfold rv;rcases cO 1 p.1 (p.2.map iv) with h'|⟨h0,_⟩
  ·exact h'
  ·simp only[List.map_eq_nil_iff] at h0;rw[h0] at h;simp at h
 have hc:(iv q).cells=[iv q]:=by
  unfold iv;rcases cO 1 q.1 (q.2.map ie) with h'|⟨_,h'⟩<;>rw[h']<;>rfl
 rw[cK];simp[zt,RP,hk,hn,hc]
theorem UM{H:Hp}{g:Nat->Nat->cj}{v:V}:zk prog H g 27 (.vp [v])=some v:=by
 simp[zk,qy,lI,nth,wP]
theorem vy{p:cX}{i:Nat}(h:i<p.2.length):zt prog 27 (iv p) (i:Int)=some (.vp [.int .i64 (gi p.2 i)]):=by
 rw[Yj h];simp[ie,gi,h]
theorem Ka{bs:List bq}{es:aP}{cs:aG}{ty t:aD}{g:Nat->Nat->cj}{off:Nat}(ha:qG prog t=some false):zk prog ⟨bs++[.cells cs ty],es⟩ g t (.ptr bs.length off)=nth cs off:=by
 cases h:nth cs off with
 | some v=>exact Yk ha h
 | none=>simp[zk,qy,ha,Qm,h,wP]
theorem ziG(p:cX)(env:aG)(t:Nat):jd env t (some (iv p))=some (iv p,env):=by
 unfold iv;rcases cO 1 p.1 (p.2.map ie) with h|⟨_,h⟩<;>rw[h]<;>rfl
theorem RR(hg:GK gl fK)(e_:fK.any (Nat.beq 27)=false)(d:D)(hd:WD d):CC (d.1.2.length+300) prog gl 27 [oe d] (.bool (rY (rowsOf d.1) d.2.2)):=by
 have hr:=mO;have K2:=hd.n.1;have Ap:=hd.l.1;refine xw hg func27 rfl e_ rfl (d.1.2.length+299) λn hn bs=>?_;simp only[f27,zi];refine rg ?_;simp only[BW,List.replicate,ziF,qg (ziE d),UJ];refine rg ?_;simp only[BW,pW,Ka l_,b_,kG]
 have C3:rY (rowsOf d.1) d.2.2=bif ((dV (d.1.2.length:Int) 1 || dV 600 (d.1.2.length:Int)) || !((d.2.2.length:Int) == (d.1.2.length:Int))) then false else wN (Ew (rowsOf d.1) d.2.2 d.1.2.length) d.1.2.length:=by
  simp only[rY,ew]
 refine rg ?_
 by_cases c1:(d.1.2.length:Int)<1
 ·simp only[BW,c1];refine rg ?_;simp only[BW];exact ga rfl ⟨by rw[C3];simp[dV,c1],_,rfl⟩
 by_cases c2:(600:Int)<d.1.2.length
 ·simp only[BW,c1,gt_iff_lt,c2];refine rg ?_;simp only[BW];exact ga rfl ⟨by rw[C3];simp[dV,c2],_,rfl⟩
 cases c3:((d.2.2.length:Int) == (d.1.2.length:Int)) with
 | false =>
  simp only[BW,c1,gt_iff_lt,c2,pW,Ka lI,bL,wq,bne,c3];refine rg ?_;simp only[BW];exact ga rfl ⟨by rw[C3,c3];simp,_,rfl⟩
 | true =>
 have hll:d.2.2.length=d.1.2.length:=by have:=eq_of_beq c3;omega
 have uu:rY (rowsOf d.1) d.2.2=wN (Ew (rowsOf d.1) d.2.2 d.1.2.length) d.1.2.length:=by
  rw[C3,c3];simp[dV,c1,c2]
 rw[uu];simp only[BW,c1,gt_iff_lt,c2,pW,Ka lI,bL,wq,bne,c3];refine rg ?_;simp only[BW,pW,Ka l_,b_,kG]
 refine qx (λm st=>∃i env,m+i=d.1.2.length/\st=⟨env,⟨bs++[.cells [rv d.1,iv d.2] 66],[]⟩,[],[]⟩/\Ks 66 [(1,.ptr bs.length 0),(3,.int .i64 (d.1.2.length:Nat)),(25,rv d.1),(26,.int .i64 (d.1.2.length:Nat)),(27,.int .i64 (i:Nat))] env/\∀j,j<i->Ew (rowsOf d.1) d.2.2 d.1.2.length j=true) d.1.2.length (by omega) ⟨0,_,rfl,rfl,mo rfl,λj h=>by omega⟩ ?_
 rintro m st ⟨i,env,A9,rfl,⟨j,rfl⟩,dG⟩;simp only[sh,Az,Nat.reduceBEq,Nat.reduceAdd,oo,rB];simp only[zi];refine rg ?_;simp only[BW,qK]
 by_cases hi:i<d.1.2.length
 ·refine .inl ⟨by simp;omega,?_⟩
  obtain⟨q,hq⟩:∃q,d.1.2[i]?=some q:=⟨d.1.2[i],by simp[hi]⟩
  have NN:gr (rowsOf d.1) i=q.2:=rz hq;have hql:=(hd.n.2 q (pG hq)).1;have MO:Ew (rowsOf d.1) d.2.2 d.1.2.length i=false->wN (Ew (rowsOf d.1) d.2.2 d.1.2.length) d.1.2.length=false:=λh=>by
   rw[<- I3,cU];exact λk=>by rw[k i hi] at h;cases h
  refine rg ?_;simp only[BW,b_,UK hq,UM,bL,ziG];obtain⟨B,hB⟩:∃B,B=((q.2.length:Int) == 256 && (!dV (gi d.2.2 i) (-1) && !nQ 200 (gi d.2.2 i))):=⟨_,rfl⟩;refine Qk 66 [(1,.ptr bs.length 0),(3,.int .i64 (d.1.2.length:Nat)),(5,iv q),(25,rv d.1),(26,.int .i64 (d.1.2.length:Nat)),(27,.int .i64 (i:Nat)),(50,.bool (!B))] ?_ λenv ⟨j,e⟩=>?_
  ·refine rg ?_;cases a1:((q.2.length:Int) == 256) with
   | false =>
    obtain rfl:B=false:=by rw[hB,a1];rfl
    simp only[BW,bL,wq,bne,a1];exact⟨_,rfl,mo rfl⟩
   | true =>
   have MP:=vy (p:=d.2) (i:=i) (by omega)
   by_cases a2:gi d.2.2 i < -1
   ·simp only[BW,bL,wq,bne,a1,pW,Ka lI,MP,xI,a2];obtain rfl:B=false:=by rw[hB];simp[dV,a2]
    exact⟨_,rfl,mo rfl⟩
   by_cases a3:200<=gi d.2.2 i
   ·simp only[BW,bL,wq,bne,a1,pW,Ka lI,MP,xI,a2,ge_iff_le,a3];obtain rfl:B=false:=by rw[hB];simp[dV,nQ,a2,a3]
    exact⟨_,rfl,mo rfl⟩
   ·simp only[BW,bL,wq,bne,a1,pW,Ka lI,MP,xI,a2,ge_iff_le,a3];obtain rfl:B=true:=by rw[hB,a1];simp[dV,nQ,a2,a3]
    exact⟨_,rfl,mo rfl⟩
  subst e;simp only[sh,Az,Nat.reduceBEq,Nat.reduceAdd,oo,rB];cases B with
  | false =>
   have hb:=hB.symm;have ho:Ew (rowsOf d.1) d.2.2 d.1.2.length i=false:=by
    simp only[Ew,NN];cases a1:((q.2.length:Int) == 256) with
    | false=>rfl
    | true =>
     rw[a1,sw] at hb;rw[sw,<- Bool.and_assoc,hb];rfl
   simp only[BW];refine rg ?_;simp only[BW];exact ga rfl ⟨by rw[MO ho],_,rfl⟩
  | true =>
  have hb:=hB.symm;have Kb:q.2.length=256:=by
   simp only[eF] at hb;have:=eq_of_beq hb.1;omega
  have ho:Ew (rowsOf d.1) d.2.2 d.1.2.length i=wN (JL d.1.2.length q.2) 256:=by
   simp only[Ew,NN];simp only[eF] at hb;rw[hb.1,hb.2.1,hb.2.2];rfl
  simp only[BW];refine rg ?_;simp only[BW,wq,bL]
  refine qx (λm2 st=>∃k env,m2+k=256/\st=⟨env,⟨bs++[.cells [rv d.1,iv d.2] 66],[]⟩,[],[]⟩/\Ks 66 [(1,.ptr bs.length 0),(3,.int .i64 (d.1.2.length:Nat)),(25,rv d.1),(26,.int .i64 (d.1.2.length:Nat)),(27,.int .i64 (i:Nat)),(51,iv q),(52,.int .i64 (q.2.length:Nat)),(53,.int .i64 (k:Nat))] env/\∀j,j<k->JL d.1.2.length q.2 j=true) 256 (by omega) ⟨0,_,rfl,rfl,mo rfl,λj h=>by omega⟩ ?_
  rintro m2 st ⟨k,env,C4,rfl,⟨j,rfl⟩,cC⟩;simp only[sh,Az,Nat.reduceBEq,Nat.reduceAdd,oo,rB];simp only[zi];refine rg ?_;simp only[BW,qK]
  by_cases hk:k<256
  ·refine .inl ⟨by simp;omega,?_⟩
   have MP:=vy (p:=q) (i:=k) (by omega)
   have hrf:JL d.1.2.length q.2 k=false->Ew (rowsOf d.1) d.2.2 d.1.2.length i=false:=λh=>by
    rw[ho,<- I3,cU];exact λh2=>by rw[h2 k hk] at h;cases h
   refine rg ?_;simp only[BW,bL,MP,xI];refine rg ?_
   by_cases a2:gi q.2 k<0
   ·simp only[BW,a2];refine rg ?_;simp only[BW];exact ga rfl ⟨by rw[MO (hrf (by simp[JL,dV,a2]))],_,rfl⟩
   by_cases a3:(d.1.2.length:Int)<=gi q.2 k
   ·simp only[BW,a2,ge_iff_le,a3];refine rg ?_;simp only[BW];exact ga rfl ⟨by rw[MO (hrf (by simp[JL,nQ,a3]))],_,rfl⟩
   ·simp only[BW,a2,ge_iff_le,a3];refine rg ?_;simp only[BW,qn (show k<2 ^ 60 by omega)]
    exact⟨m2 - 1,by omega,k+1,_,by omega,rfl,mo rfl,λj hj=>by
     rcases eY j k with h|h
     ·exact cC j h
     ·obtain rfl:j=k:=by omega
      simp[JL,dV,nQ,a2,a3]⟩
  ·obtain rfl:k=256:=by omega
   refine .inr ⟨by simp;omega,?_⟩
   refine rg ?_;simp only[BW,qn (show i<2 ^ 60 by omega)]
   exact⟨m - 1,by omega,i+1,_,by omega,rfl,mo rfl,λj hj=>by
    rcases eY j i with h|h
    ·exact dG j h
    ·obtain rfl:j=i:=by omega
     rw[ho];exact cU.2 cC⟩
 ·obtain rfl:i=d.1.2.length:=by omega
  refine .inr ⟨by simp,?_⟩
  refine rg ?_;simp only[BW];exact ga (v:=.bool true) rfl ⟨by rw[cU.2 dG],_,rfl⟩
end
section
set_option maxHeartbeats 1000000
variable{gl:Gl}{fK:bO}
theorem zqf(hg:GK gl fK)(h:fK.any (Nat.beq 147)=false)(x:Int):CC 2 prog gl 147 [.int .i64 x] (.bool false):=by
 refine xw hg func147 rfl h rfl 1 λn hn bs=>?_;simp only[f147,zi];refine rg ?_;simp only[BW,List.replicate];refine rg ?_;simp only[BW,bne,beq_self_eq_true];exact ga rfl ⟨rfl,[],by simp⟩
theorem zqg(hg:GK gl fK)(h:fK.any (Nat.beq 147)=false)(h1:fK.any (Nat.beq 107)=false)(x y:Int):CC 3 prog gl 107 [.int .i64 x,.int .i64 y] (.bool (dV x y)):=by
 refine xw hg func107 rfl h1 rfl 2 λn hn bs=>?_;have c:∀H,Cx.bK ⟨prog,gl.g,zj prog gl n,nU⟩ 147 [.int .i64 x] H=some (.val (.bool false),H):=yl func147 rfl (zqf hg h x n hn);simp only[f107,zi];refine rg ?_;simp only[BW,Nat.reduceAdd,List.replicate];refine rg ?_;simp only[BW,c]
 exact ga rfl ⟨rfl,[],by simp⟩
theorem zqH(hg:GK gl fK)(h:fK.any (Nat.beq 147)=false)(h1:fK.any (Nat.beq 107)=false)(h2:fK.any (Nat.beq 69)=false)(p:cX)(hp:p.2.length * 8<=reachBytes):CC (p.2.length+6) prog gl 69 [iv p] (.bool (nT p.2)):=by
 have hr:=mO;refine xw hg func69 rfl h2 rfl (p.2.length+5) λn hn bs=>?_;simp only[f69,zi];refine rg ?_;simp only[BW,List.replicate];refine rg ?_;have DT:IntKind.i64.wrap ((p.2.length:Int) - 1)=(p.2.length:Int) - 1 - ((0:Nat):Int):=by rw[Jw (by omega) (by omega)];simp
 simp only[BW,wq,bL,kC,DT];refine qx (λm st=>∃k env,m+k=p.2.length/\st=⟨env,⟨bs,[]⟩,[],[]⟩/\Ks 21 [(0,iv p),(3,.int .i64 ((p.2.length:Int) - 1 - (k:Nat)))] env/\∀j,j<k->(!dV (gi p.2 (p.2.length - 1 - j)) (gi p.2 (p.2.length - 1 - j - 1)))=true) p.2.length (by omega) ⟨0,_,rfl,rfl,mo rfl,λj h=>by omega⟩ ?_
 rintro m st ⟨k,env,C4,rfl,⟨j,rfl⟩,dG⟩;simp only[sh,Az,Nat.reduceBEq,Nat.reduceAdd,oo,rB];simp only[zi];refine rg ?_
 by_cases hk:(0:Int)<(p.2.length:Int) - 1 - (k:Int)
 ·simp only[BW,gt_iff_lt,hk];refine jo (tk:=[]) (by kernel_rfl) (by kernel_rfl) ?_
  have e0:(p.2.length:Int) - 1 - (k:Int)=((p.2.length - 1 - k:Nat):Int):=by omega
  have AQ:IntKind.i64.wrap ((p.2.length:Int) - 1 - (k:Int) - 1)=((p.2.length - 1 - k - 1:Nat):Int):=by rw[Jw (by omega) (by omega)];omega
  have g1:=vy (p:=p) (i:=p.2.length - 1 - k) (by omega)
  have g2:=vy (p:=p) (i:=p.2.length - 1 - k - 1) (by omega)
  rw[<- e0] at g1;have c:∀H,Cx.bK ⟨prog,gl.g,zj prog gl n,nU⟩ 107 [.int .i64 (gi p.2 (p.2.length - 1 - k)),.int .i64 (gi p.2 (p.2.length - 1 - k - 1))] H=some (.val (.bool (dV (gi p.2 (p.2.length - 1 - k)) (gi p.2 (p.2.length - 1 - k - 1)))),H):=yl func107 rfl (zqg hg h h1 _ _ n (by omega))
  cases hc:dV (gi p.2 (p.2.length - 1 - k)) (gi p.2 (p.2.length - 1 - k - 1)) with
  | true =>
   rw[hc] at c;simp only[BW,bL,g1,g2,fB,xI,kC,AQ,c];refine rg ?_;simp only[BW];have hb:nT p.2=false:=by
    unfold nT;rw[<- I3,cU];intro hx;have:=hx k (by omega)
    rw[hc] at this;cases this
   exact ga rfl ⟨by rw[hb],[],by simp⟩
  | false =>
   rw[hc] at c;simp only[BW,bL,g1,g2,fB,xI,kC,AQ,c];refine rg ?_;have Oy:IntKind.i64.wrap ((p.2.length:Int) - 1 - (k:Int) - 1)=(p.2.length:Int) - 1 - ((k+1:Nat):Int):=by rw[Jw (by omega) (by omega)];omega
   simp only[BW,kC,Oy]
   exact⟨m - 1,by omega,k+1,_,by omega,rfl,mo rfl,λj hj=>by
    rcases eY j k with h|h
    ·exact dG j h
    ·obtain rfl:j=k:=by omega
     rw[hc];rfl⟩
 ·simp only[BW,gt_iff_lt,hk];refine rg ?_;simp only[BW]
  exact ga rfl ⟨by
   have hb:nT p.2=true:=cU.2 λj hj=>dG j (by omega)
   rw[hb],[],by simp⟩
theorem zqI(hg:GK gl fK)(h70:fK.any (Nat.beq 70)=false)(n0:Nat)(f:F)(AM:f.r.2.length=n0)(p:cX)(hp:WI p)(iA:Int)(hw:IntKind.i64.wrap ((n0:Int)+iA)=(n0:Int)+iA){n:Nat}(hn:p.2.length+2<=n){bs:List bq}{es:aP}{b1 b2:Nat}(e1:nth bs b1=some (.cells [.int .i64 (n0:Nat)] 3))(e2:nth bs b2=some (.cells (fc f) 30)) :
  zj prog gl n 70 [iv p,.int .i64 iA,.ptr b1 0,.ptr b2 0] ⟨bs,es⟩=some (.ret (.bool (wN (pz n0 f.r.2 iA p.2) p.2.length)),⟨bs,es⟩):=by
 have hr:=mO;have KK:=hp.1;obtain⟨n,rfl⟩:∃k,n=k+1:=⟨n - 1,by omega⟩
 refine zp2 hg func70 rfl h70 rfl ?_;have l1:zk prog ⟨bs,[]⟩ gl.g 3 (.ptr b1 0)=some (.int .i64 (n0:Nat)):=zr fB e1 rfl;have l2:zk prog ⟨bs,[]⟩ gl.g 27 (.ptr b2 1)=some (iv f.r):=zr lI e2 rfl;simp only[f70,zi];refine rg ?_;simp only[BW,Nat.reduceAdd,List.replicate];refine rg ?_
 simp only[BW,wq,bL];refine qx (λm st=>∃i env,m+i=p.2.length/\st=⟨env,⟨bs,[]⟩,[],[]⟩/\Ks 53 [(0,iv p),(1,.int .i64 iA),(2,.ptr b1 0),(3,.ptr b2 0),(9,iv p),(10,.int .i64 (p.2.length:Nat)),(11,.int .i64 (i:Nat))] env/\∀j,j<i->pz n0 f.r.2 iA p.2 j=true) p.2.length (by omega) ⟨0,_,rfl,rfl,mo rfl,λj h=>by omega⟩ ?_
 rintro m st ⟨i,env,A9,rfl,⟨j,rfl⟩,dG⟩;simp only[sh,Az,Nat.reduceBEq,Nat.reduceAdd,oo,rB];simp only[zi];refine rg ?_;simp only[BW,qK]
 by_cases hi:i<p.2.length
 ·refine .inl ⟨by simp;omega,?_⟩
  have g1:=vy hi;have g2:=vy (p:=p) (i:=i - 1) (by omega)
  refine rg ?_;simp only[BW,bL,g1,xI];obtain⟨B,hB⟩:∃B,B=pz n0 f.r.2 iA p.2 i:=⟨_,rfl⟩;refine Qk 53 [(0,iv p),(1,.int .i64 iA),(2,.ptr b1 0),(3,.ptr b2 0),(9,iv p),(10,.int .i64 (p.2.length:Nat)),(11,.int .i64 (i:Nat)),(51,.bool (!B))] ?_ λenv ⟨j,e⟩=>?_
  ·refine rg ?_;unfold pz at hB;generalize gi p.2 i=x at g1 hB ⊢
   by_cases lR:0<i/\x<=gi p.2 (i - 1)
   ·obtain⟨c3,c4⟩:=lR;obtain rfl:B=false:=by rw[hB];simp[nQ,c4,show i≠0 by omega]
    have lP:IntKind.i64.wrap ((i:Int) - 1)=((i - 1:Nat):Int):=by rw[Jw (by omega) (by omega)];omega
    simp only[BW,gt_iff_lt,show(0:Int)<(i:Int) by omega,kC,lP,bL,g2,xI,ge_iff_le,c4]
    exact⟨_,rfl,mo rfl⟩
   have gw:(i == 0 || !nQ x (gi p.2 (i - 1)))=true:=by
    rcases Kk i with rfl|c3
    ·rfl
    ·have:¬x<=gi p.2 (i - 1):=λh=>lR ⟨c3,h⟩;simp[nQ,this]
   rw[gw,sw] at hB;have lP:0<(i:Int)->IntKind.i64.wrap ((i:Int) - 1)=((i - 1:Nat):Int):=λ_=>by rw[Jw (by omega) (by omega)];omega
   rcases (show(¬(0:Int)<(i:Int)/\¬(i:Int)<0)\/((0:Int)<(i:Int)/\¬x<=gi p.2 (i - 1)) by
    rcases Kk i with rfl|c3
    ·exact .inl ⟨by omega,by omega⟩
    ·exact .inr ⟨by omega,λh=>lR ⟨c3,h⟩⟩) with⟨c4,c5⟩|⟨c4,c5⟩
   all_goals
    by_cases a1:x<0
    ·obtain rfl:B=false:=by rw[hB];simp[dV,a1]
     simp only[BW,gt_iff_lt,c4,c5,kC,lP,bL,g2,xI,a1];exact⟨_,rfl,mo rfl⟩
    cases a2:x == (n0:Int)+iA with
    | true =>
     obtain rfl:B=true:=by rw[hB,a2];simp[dV,a1]
     simp only[BW,gt_iff_lt,c4,c5,kC,lP,bL,g2,xI,a1,l1,wa,hw,bne,a2];exact⟨_,rfl,mo rfl⟩
    | false =>
    by_cases a3:(n0:Int)<=x
    ·obtain rfl:B=false:=by rw[hB,a2];simp[dV,nQ,a1,a3]
     simp only[BW,gt_iff_lt,c4,c5,kC,lP,bL,g2,xI,ge_iff_le,a1,l1,wa,hw,bne,a2,a3];exact⟨_,rfl,mo rfl⟩
    obtain⟨y,rfl⟩:∃y:Nat,x=y:=⟨x.toNat,by omega⟩
    have g3:=vy (p:=f.r) (i:=y) (by omega)
    obtain rfl:B=(gi f.r.2 y == iA):=by rw[hB,a2];simp[dV,nQ,a1,a3]
    simp only[BW,gt_iff_lt,c4,c5,kC,lP,bL,g2,xI,ge_iff_le,a1,l1,wa,hw,bne,a2,a3,iP,l2,g3];exact⟨_,rfl,mo rfl⟩
  subst e;simp only[sh,Az,Nat.reduceBEq,Nat.reduceAdd,oo,rB];cases B with
  | false =>
   simp only[BW];refine rg ?_;simp only[BW];have hb:wN (pz n0 f.r.2 iA p.2) p.2.length=false:=by
    rw[<- I3,cU];exact λh=>by rw[h i hi] at hB;cases hB
   exact ga rfl ⟨by rw[hb],[],by simp⟩
  | true =>
   simp only[BW];refine rg ?_;simp only[BW,qn (show i<2 ^ 60 by omega)]
   exact⟨m - 1,by omega,i+1,_,by omega,rfl,mo rfl,λj hj=>by
    rcases eY j i with h|h
    ·exact dG j h
    ·obtain rfl:j=i:=by omega
     exact hB.symm⟩
 ·obtain rfl:i=p.2.length:=by omega
  refine .inr ⟨by simp,?_⟩
  refine rg ?_;simp only[BW];exact ga (v:=.bool true) rfl ⟨by rw[cU.2 dG],[],by simp⟩
end
section
set_option maxHeartbeats 2000000
variable{gl:Gl}{fK:bO}
theorem RS:prog.underlying 26=some (.slice 50):=by kernel_rfl
theorem Kd:qG prog 26=some false:=by kernel_rfl
theorem zjV{H:Hp}{p:Bool×List Q4}:qW prog H 26 (qv p)=some (p.2.length:Int):=by
 unfold qv;rcases cO 4 p.1 (p.2.map qe) with h|⟨h0,h⟩<;>rw[h]
 ·simp[qW]
 ·simp only[List.map_eq_nil_iff] at h0;simp[qW,h0]
section
variable{bs:List bq}{es:aP}{cs:aG}{ty t:aD}{g:Nat->Nat->cj}{off:Nat}{z w:Int}{y:bq}{env:aG}{df:bS}
theorem CM(ha:qG prog t=some false):zk prog ⟨bs++[.cells cs ty,y],es⟩ g t (.ptr bs.length off)=nth cs off:=by
 have hg:(⟨bs++[.cells cs ty,y],es⟩:Hp).get bs.length=some (.cells cs ty):=by
  show nth _ _=_;rw[zg,fM (dB _)];simp
 cases h:nth cs off with
 | some v=>exact zr ha hg h
 | none=>simp[zk,qy,ha,hg,h,wP]
theorem zpE{x:bq}:nth (bs++[x,y]) (bs.length+1)=some y:=by
 rw[zg,fM (by omega),show bs.length+1 - bs.length=1 by omega];rfl
theorem IS{x:bq}:zk prog ⟨bs++[x,.cells [.int .i64 z] 3],es⟩ g 3 (.ptr (bs.length+1) 0)=some (.int .i64 z):=zr (cs:=[.int .i64 z]) (ty:=3) fB zpE rfl
theorem zqJ{x:bq}:qp prog 3 ⟨bs++[x,.cells [.int .i64 z] 3],es⟩ [] df (some (.int .i64 w,env)) (some (.ptr (bs.length+1) 0))=some (.skip,⟨env,⟨bs++[x,.cells [.int .i64 w] 3],es⟩,[],df⟩):=by
 rw[zA (H:=⟨bs++[x,.cells [.int .i64 z] 3],es⟩) (b:=bs.length+1) (cs:=[.int .i64 z]) (ty:=3) Iu (show _=_ from zpE) rfl rfl (by simp) (wi rfl (by simp)),jV (dP _)]
 simp only[Hp.set];rw[uN _ _ (by omega),show bs.length+1 - bs.length=1 by omega]
 rfl
end
theorem GY(f:F):nth (fc f) 0=some (qv f.s)/\nth (fc f) 1=some (iv f.r)/\nth (fc f) 2=some (rv f.f)/\nth (fc f) 3=some (rv f.n):=⟨rfl,rfl,rfl,rfl⟩
def zoS(fK:bO):Bool:=[147,107,69,70,24].all (λf=>!fK.any (Nat.beq f))
theorem aaB(hg:GK gl fK)(e_:zoS fK=true)(f:F)(hf:WF f):Kn prog gl 24 [fv f] (.bool (D7 f.s.2.length f.r.2 (rowsOf f.f) (rowsOf f.n))):=by
 simp only[zoS,List.all_cons,List.all_nil,Bool.and_true,eF,Gb] at e_;obtain⟨aaC,aaD,n69,n70,n24⟩:=e_;have Jf:(2000:Nat)<=reachBytes:=by decide
 have X_:=mO;have aaE:=hf.r.1;refine⟨_,xw hg func24 rfl n24 rfl (reachBytes+10) λn hn bs=>?_⟩;have hfi:=hf.fi.1;have cK:=hf.ne.1;simp only[f24,zi];refine rg ?_;simp only[BW,List.replicate,Ym,qg (Yl f),TU];have hz:(V.int .i64 0).cells=[.int .i64 0]:=rfl
 have la:zk prog ⟨bs++[.cells (fc f) 30],[]⟩ gl.g 26 (.ptr bs.length 0)=some (qv f.s):=fu Kd;have lb:zk prog ⟨bs++[.cells (fc f) 30],[]⟩ gl.g 28 (.ptr bs.length 2)=some (rv f.f):=fu l_;have lc:∀z,zk prog ⟨bs++[.cells (fc f) 30,.cells [.int .i64 z] 3],[]⟩ gl.g 26 (.ptr bs.length 0)=some (qv f.s):=λz=>CM Kd
 have ld:∀z,zk prog ⟨bs++[.cells (fc f) 30,.cells [.int .i64 z] 3],[]⟩ gl.g 28 (.ptr bs.length 2)=some (rv f.f):=λz=>CM l_;refine vo (tk:=[]) (by kernel_rfl) ?_
 apply Exists.intro;apply And.intro;refine oF 0 (.ptr bs.length 0) (by simp only[BW,iP]) ?_
 dsimp only[aq]
 refine oL 1 (qv f.s) (by simp only[BW,la,eu]) (λc h=>by cases h) ?_
 dsimp only[aq]
 refine oL 3 (.int .i64 (f.s.2.length:Nat)) (by simp only[BW,zjV,eu]) (λc h=>by cases h) ?_
 dsimp only[aq]
 refine oF 0 (.ptr bs.length 2) (by simp only[BW,iP]) ?_
 dsimp only[aq]
 refine oL 8 (rv f.f) (by simp only[BW,lb,b_]) (λc h=>by cases h) ?_
 dsimp only[aq]
 refine oL 24 (.int .i64 (f.f.2.length:Nat)) (by simp only[BW,kG,b_]) (λc h=>by cases h) ?_
 dsimp only[aq]
 refine zif (m:=0) (v:=.ptr (bs.length+1) 0) (H1:=⟨bs++[.cells (fc f) 30,.cells [.int .i64 0] 3],[]⟩) (cR:=_) (eE:=[]) (eD:=[]) (cs':=[⟨64,⟨bs++[.cells (fc f) 30,.cells [.int .i64 0] 3],[]⟩,[],[]⟩,⟨0,⟨bs++[.cells (fc f) 30],[]⟩,[],[]⟩]) (by kernel_rfl) rfl (by simp only[BW,Ys,zR (show dD (.int .i64 0)=true from rfl),hz];rfl) (by kernel_rfl) (by kernel_rfl) (by kernel_rfl) (λK=>j8 (by kernel_rfl) rfl (λc h=>by cases h) (zhl λq hq=>?_)) ?_
 ·simp only[dM,uh,tB] at hq;rcases hq with rfl|rfl|rfl|rfl|rfl|rfl
  ·refine .inr ⟨rfl,.inr (.inr ?_)⟩;simp only[jy];exact NQ (by simp only[BW,kG,b_];rfl)
  ·refine .inr ⟨rfl,.inr (.inr ?_)⟩;simp only[jy];exact NQ (by simp only[BW,ld,b_];rfl)
  ·exact .inr ⟨rfl,.inl rfl⟩
  ·refine .inr ⟨rfl,.inr (.inr ?_)⟩;simp only[jy];exact NQ (by simp only[BW,zjV,eu];rfl)
  ·refine .inr ⟨rfl,.inr (.inr ?_)⟩;simp only[jy];exact NQ (by simp only[BW,lc,eu];rfl)
  ·exact .inr ⟨rfl,.inl rfl⟩
 dsimp only[aq]
 refine w4 (m:=71) (H1:=⟨bs++[.cells (fc f) 30,.cells [.int .i64 (f.s.2.length:Nat)] 3],[]⟩) (cR:=_) (eE:=[]) (eD:=[]) (cs':=[⟨192,⟨bs++[.cells (fc f) 30,.cells [.int .i64 (f.s.2.length:Nat)] 3],[]⟩,[],[]⟩,⟨64,⟨bs++[.cells (fc f) 30,.cells [.int .i64 0] 3],[]⟩,[],[]⟩,⟨0,⟨bs++[.cells (fc f) 30],[]⟩,[],[]⟩]) (by kernel_rfl) rfl (by simp only[BW,zqJ];rfl) (by kernel_rfl) (by kernel_rfl) (λK=>j8 (by kernel_rfl) rfl (λc h=>by rw[r9.1 h];kernel_rfl) (zhl λq hq=>?_)) ?_
 ·simp only[dM,uh,tB] at hq;rcases hq with rfl|rfl|rfl|rfl|rfl|rfl|rfl
  ·exact .inl ⟨rfl,by kernel_rfl⟩
  ·refine .inr ⟨rfl,.inr (.inr ?_)⟩;simp only[jy];exact NQ (by simp only[BW,kG,b_];rfl)
  ·refine .inr ⟨rfl,.inr (.inr ?_)⟩;simp only[jy];exact NQ (by simp only[BW,ld,b_];rfl)
  ·exact .inr ⟨rfl,.inl rfl⟩
  ·exact .inr ⟨rfl,.inr (.inl (by kernel_rfl))⟩
  ·exact .inr ⟨rfl,.inr (.inl (by kernel_rfl))⟩
  ·exact .inr ⟨rfl,.inl rfl⟩
 dsimp only[aq]
 refine oF 255 (.int .i64 (f.f.2.length:Nat)) (by simp only[BW]) vq
 simp only[aq,zi];have hch:D7 f.s.2.length f.r.2 (rowsOf f.f) (rowsOf f.n)=bif (((dV 1000 (f.s.2.length:Int) || dV 200 (f.f.2.length:Int)) || !((f.r.2.length:Int) == (f.s.2.length:Int))) || !((f.n.2.length:Int) == (f.s.2.length:Int))) then false else
   bif nT f.r.2 then bif dV 0 (f.s.2.length:Int) then bif !dV (gi f.r.2 0) 0 then bif nQ (f.f.2.length:Int) (gi f.r.2 (f.s.2.length - 1)) then false else nW f.s.2.length f.r.2 (rowsOf f.f) (rowsOf f.n) else false else nW f.s.2.length f.r.2 (rowsOf f.f) (rowsOf f.n) else false:=by
  simp only[D7,ew]
 rw[hch];refine rg ?_;have UN:∀H,Cx.bK ⟨prog,gl.g,zj prog gl n,nU⟩ 69 [iv f.r] H=some (.val (.bool (nT f.r.2)),H):=yl func69 rfl (zqH hg aaC aaD n69 f.r aaE n (by omega))
 by_cases c1:(1000:Int)<f.s.2.length
 ·simp only[BW,IS,gt_iff_lt,c1];refine rg ?_;simp only[BW];exact ga rfl ⟨by simp[dV,c1],_,rfl⟩
 by_cases c2:(200:Int)<f.f.2.length
 ·simp only[BW,IS,gt_iff_lt,c1,c2];refine rg ?_;simp only[BW];exact ga rfl ⟨by simp[dV,c2],_,rfl⟩
 cases c3:((f.r.2.length:Int) == (f.s.2.length:Int)) with
 | false =>
  simp only[BW,IS,gt_iff_lt,c1,c2,iP,CM lI,GY,bL,wq,bne,c3];refine rg ?_;simp only[BW];exact ga rfl ⟨by simp,_,rfl⟩
 | true =>
 cases c4:((f.n.2.length:Int) == (f.s.2.length:Int)) with
 | false =>
  simp only[BW,IS,gt_iff_lt,c1,c2,iP,CM lI,GY,CM l_,bL,b_,wq,kG,bne,c3,c4];refine rg ?_;simp only[BW];exact ga rfl ⟨by simp,_,rfl⟩
 | true =>
 cases c5:nT f.r.2 with
 | false =>
  rw[c5] at UN;simp only[BW,IS,gt_iff_lt,c1,c2,iP,CM lI,GY,CM l_,bL,b_,wq,kG,bne,c3,c4,UN,i_];refine rg ?_;simp only[BW];exact ga rfl ⟨by simp,_,rfl⟩
 | true =>
 rw[c5] at UN;simp only[BW,IS,gt_iff_lt,c1,c2,iP,CM lI,GY,CM l_,bL,b_,wq,kG,bne,c3,c4,UN,i_];have OM:f.r.2.length=f.s.2.length:=by have:=eq_of_beq c3;omega
 have rI:f.n.2.length=f.s.2.length:=by have:=eq_of_beq c4;omega
 simp only[show dV 1000 (f.s.2.length:Int)=false by simp[dV,c1],show dV 200 (f.f.2.length:Int)=false by simp[dV,c2],Bool.or_self,rB,oo]
 obtain⟨B,hB⟩:∃B,B=(dV 0 (f.s.2.length:Int) && (dV (gi f.r.2 0) 0 || nQ (f.f.2.length:Int) (gi f.r.2 (f.s.2.length - 1)))):=⟨_,rfl⟩
 have Gk:(bif dV 0 (f.s.2.length:Int) then bif !dV (gi f.r.2 0) 0 then bif nQ (f.f.2.length:Int) (gi f.r.2 (f.s.2.length - 1)) then false else nW f.s.2.length f.r.2 (rowsOf f.f) (rowsOf f.n) else false else nW f.s.2.length f.r.2 (rowsOf f.f) (rowsOf f.n))=(!B && nW f.s.2.length f.r.2 (rowsOf f.f) (rowsOf f.n)):=by
  rw[hB];cases dV 0 (f.s.2.length:Int)<;>cases dV (gi f.r.2 0) 0<;>cases nQ (f.f.2.length:Int) (gi f.r.2 (f.s.2.length - 1))<;>simp
 rw[Gk];refine Qk 94 [(1,.ptr bs.length 0),(3,.ptr (bs.length+1) 0),(60,.bool B)] ?_ λenv ⟨j,e⟩=>?_
 ·refine rg ?_
  by_cases d1:(0:Int)<f.s.2.length
  ·have g1:=vy (p:=f.r) (i:=0) (by omega)
   have g2:=vy (p:=f.r) (i:=f.s.2.length - 1) (by omega)
   have lP:IntKind.i64.wrap ((f.s.2.length:Int) - 1)=((f.s.2.length - 1:Nat):Int):=by rw[Jw (by omega) (by omega)];omega
   have g1':zt prog 27 (iv f.r) 0=some (.vp [.int .i64 (gi f.r.2 0)]):=g1
   by_cases d2:gi f.r.2 0<0
   ·obtain rfl:B=true:=by rw[hB];simp only[dV,nQ,d1,d2,decide_true,sw,Bool.true_or]
    simp only[BW,IS,gt_iff_lt,d1,iP,CM lI,GY,bL,g1',xI,d2];exact⟨_,rfl,mo rfl⟩
   ·obtain rfl:B=decide ((f.f.2.length:Int)<=gi f.r.2 (f.s.2.length - 1)):=by rw[hB];simp only[dV,nQ,d1,d2,decide_true,decide_false,sw,Bw]
    simp only[BW,IS,gt_iff_lt,d1,iP,CM lI,GY,bL,g1',xI,d2,kC,lP,g2,ge_iff_le];exact⟨_,rfl,mo rfl⟩
  ·obtain rfl:B=false:=by rw[hB];simp only[dV,d1,decide_false,Ec]
   simp only[BW,IS,gt_iff_lt,d1];exact⟨_,rfl,mo rfl⟩
 subst e;simp only[sh,Az,Nat.reduceBEq,Nat.reduceAdd,oo,rB];cases B with
 | true =>
  simp only[BW];refine rg ?_;simp only[BW];exact ga rfl ⟨rfl,_,rfl⟩
 | false =>
 have RT:∀i,i<f.s.2.length->0<=gi f.r.2 i/\gi f.r.2 i<(f.f.2.length:Int):=λi hi=>by
  have h1:=pV c5 (i:=0) (j:=i) (by omega) (by omega)
  have h2:=pV c5 (i:=i) (j:=f.s.2.length - 1) (by omega) (by omega)
  have h3:(0:Int)<f.s.2.length:=by omega
  simp only[dV,nQ,h3,decide_true,sw] at hB;have GB:=hB.symm;rw[Bool.or_eq_false_iff] at GB;simp only[decide_eq_false_iff_not] at GB;omega
 simp only[BW,sw];refine rg ?_;have cF:bg (V.fn (.func 70) [] [.ptr (bs.length+1) 0,.ptr bs.length 0])=.fn (.func 70) [] [.ptr (bs.length+1) 0,.ptr bs.length 0]:=rfl;have tF:∀env t,jd env t (some (.fn (.func 70) [] [.ptr (bs.length+1) 0,.ptr bs.length 0]))=some (.fn (.func 70) [] [.ptr (bs.length+1) 0,.ptr bs.length 0],env):=λ_ _=>rfl
 have cV:∀args H,Cx.mB ⟨prog,gl.g,zj prog gl n,nU⟩ (.fn (.func 70) [] [.ptr (bs.length+1) 0,.ptr bs.length 0]) args H=Cx.bK ⟨prog,gl.g,zj prog gl n,nU⟩ 70 (args.map bg++[.ptr (bs.length+1) 0,.ptr bs.length 0]) H:=λ_ _=>Y8 rfl;simp only[BW,Ub,tF]
 obtain⟨P1,hP1⟩:∃P1:Nat->Bool,P1=λ(i:Nat)=>wN (pz f.s.2.length f.r.2 (i:Int) (gr (rowsOf f.f) i)) (gr (rowsOf f.f) i).length:=⟨_,rfl⟩;obtain⟨P2,JY⟩:∃P2:Nat->Bool,P2=λ(i:Nat)=>wN (pz f.s.2.length f.r.2 (gi f.r.2 i) (gr (rowsOf f.n) i)) (gr (rowsOf f.n) i).length:=⟨_,rfl⟩
 have lO:nW f.s.2.length f.r.2 (rowsOf f.f) (rowsOf f.n)=bif wN P1 f.f.2.length then wN P2 f.s.2.length else false:=by
  simp only[nW,ew,hP1,JY]
 rw[lO]
 have dz:∀(q:cX)(iA:Int),WI q->0<=iA->iA<=200->Cx.bK ⟨prog,gl.g,zj prog gl n,nU⟩ 70 [iv q,.int .i64 iA,.ptr (bs.length+1) 0,.ptr bs.length 0] ⟨bs++[.cells (fc f) 30,.cells [.int .i64 (f.s.2.length:Nat)] 3],[]⟩=some (.val (.bool (wN (pz f.s.2.length f.r.2 iA q.2) q.2.length)),⟨bs++[.cells (fc f) 30,.cells [.int .i64 (f.s.2.length:Nat)] 3],[]⟩):=λq iA hq h0 h1 =>
  zu func70 rfl (zqI hg n70 f.s.2.length f OM q hq iA (Jw (by omega) (by omega)) (by have:=hq.1;omega) zpE (by rw[zg,fM (dB _)];simp))
 refine rg ?_;simp only[BW,iP,CM l_,GY,b_,kG]
 refine qx (λm st=>∃i env,m+i=f.f.2.length/\st=⟨env,⟨bs++[.cells (fc f) 30,.cells [.int .i64 (f.s.2.length:Nat)] 3],[]⟩,[],[]⟩/\Ks 94 [(1,.ptr bs.length 0),(5,.fn (.func 70) [] [.ptr (bs.length+1) 0,.ptr bs.length 0]),(63,rv f.f),(64,.int .i64 (f.f.2.length:Nat)),(65,.int .i64 (i:Nat))] env/\∀j,j<i->P1 j=true) f.f.2.length (by omega) ⟨0,_,rfl,rfl,mo rfl,λj h=>by omega⟩ ?_
 rintro m st ⟨i,env,A9,rfl,⟨j,rfl⟩,dG⟩;simp only[sh,Az,Nat.reduceBEq,Nat.reduceAdd,oo,rB];simp only[zi];refine rg ?_;simp only[BW,qK]
 by_cases hi:i<f.f.2.length
 ·refine .inl ⟨by simp;omega,?_⟩
  obtain⟨q,hq⟩:∃q,f.f.2[i]?=some q:=⟨f.f.2[i],by simp[hi]⟩
  have hc:=dz q (i:Int) (hf.fi.2 q (pG hq)) (by omega) (by omega)
  have hPi:P1 i=wN (pz f.s.2.length f.r.2 (i:Int) q.2) q.2.length:=by
   rw[hP1];simp only[rz hq]
  rw[<- hPi] at hc;refine rg ?_;simp only[BW,b_,UK hq,UM,bL,ziG];refine rg ?_;cases hp:P1 i with
  | false =>
   rw[hp] at hc;simp only[BW,bL,yP,wG,cF,cV,hc,i_];refine rg ?_;simp only[BW];have hb:wN P1 f.f.2.length=false:=by
    rw[<- I3,cU];exact λh=>by rw[h i hi] at hp;cases hp
   exact ga rfl ⟨by rw[hb];rfl,_,rfl⟩
  | true =>
   rw[hp] at hc;simp only[BW,bL,yP,wG,cF,cV,hc,i_];refine rg ?_;simp only[BW,qn (show i<2 ^ 60 by omega)]
   exact⟨m - 1,by omega,i+1,_,by omega,rfl,mo rfl,λj hj=>by
    rcases eY j i with h|h
    ·exact dG j h
    ·obtain rfl:j=i:=by omega
     exact hp⟩
 ·obtain rfl:i=f.f.2.length:=by omega
  refine .inr ⟨by simp,?_⟩
  rw[cU.2 dG,oo];refine rg ?_;simp only[BW,iP,CM l_,GY,b_,kG]
  refine qx (λm st=>∃i env,m+i=f.n.2.length/\st=⟨env,⟨bs++[.cells (fc f) 30,.cells [.int .i64 (f.s.2.length:Nat)] 3],[]⟩,[],[]⟩/\Ks 94 [(1,.ptr bs.length 0),(5,.fn (.func 70) [] [.ptr (bs.length+1) 0,.ptr bs.length 0]),(77,rv f.n),(78,.int .i64 (f.n.2.length:Nat)),(79,.int .i64 (i:Nat))] env/\∀j,j<i->P2 j=true) f.n.2.length (by omega) ⟨0,_,rfl,rfl,mo rfl,λj h=>by omega⟩ ?_
  rintro m st ⟨i,env,A9,rfl,⟨j,rfl⟩,dG⟩;simp only[sh,Az,Nat.reduceBEq,Nat.reduceAdd,oo,rB];simp only[zi];refine rg ?_;simp only[BW,qK]
  by_cases hi:i<f.n.2.length
  ·refine .inl ⟨by simp;omega,?_⟩
   obtain⟨q,hq⟩:∃q,f.n.2[i]?=some q:=⟨f.n.2[i],by simp[hi]⟩
   obtain⟨r0,r1⟩:=RT i (by omega)
   have hc:=dz q (gi f.r.2 i) (hf.ne.2 q (pG hq)) r0 (by omega)
   have g1:=vy (p:=f.r) (i:=i) (by omega)
   have hPi:P2 i=wN (pz f.s.2.length f.r.2 (gi f.r.2 i) q.2) q.2.length:=by
    rw[JY];simp only[rz hq]
   rw[<- hPi] at hc;refine rg ?_;simp only[BW,b_,UK hq,UM,bL,ziG];refine rg ?_;cases hp:P2 i with
   | false =>
    rw[hp] at hc;simp only[BW,iP,CM lI,GY,bL,g1,xI,yP,wG,cF,cV,hc,i_];refine rg ?_;simp only[BW];have hb:wN P2 f.s.2.length=false:=by
     rw[<- I3,cU];exact λh=>by rw[h i (by omega)] at hp;cases hp
    exact ga rfl ⟨by rw[hb],_,rfl⟩
   | true =>
    rw[hp] at hc;simp only[BW,iP,CM lI,GY,bL,g1,xI,yP,wG,cF,cV,hc,i_];refine rg ?_;simp only[BW,qn (show i<2 ^ 60 by omega)]
    exact⟨m - 1,by omega,i+1,_,by omega,rfl,mo rfl,λj hj=>by
     rcases eY j i with h|h
     ·exact dG j h
     ·obtain rfl:j=i:=by omega
      exact hp⟩
  ·obtain rfl:i=f.n.2.length:=by omega
   refine .inr ⟨by simp,?_⟩
   refine rg ?_;simp only[BW];rw[rI] at dG;exact ga rfl ⟨by rw[cU.2 dG],_,rfl⟩
end
end Go.Proofs.YthohlnmcjkjeiaaGreatDoor.A2
namespace Go.Proofs.YthohlnmcjkjeiaaGreatDoor
open Go Go.Vm
open Go.Proofs.Tryz
set_option maxRecDepth 100000
section
open Go.Vm.Sx
def RU:Gl:={ g:=fj,hk:=cN [] }
theorem RV:nt prog RU:=qY (P:=prog) (g0:=fj)
theorem RX:GK RU []:=⟨λ_ _ _=>rfl,λ_ _ _ _ _=>rfl,λ_=>rfl⟩
theorem zpF{sz:Nat}{a b:Bool}{xs ys:aG}(h:lv sz a xs=lv sz b ys):xs=ys:=by
 rcases cO sz a xs with h1|⟨e1,h1⟩<;>rcases cO sz b ys with h2|⟨e2,h2⟩<;>rw[h1,h2] at h
 ·injection h
 ·cases h
 ·cases h
 ·rw[e1,e2]
theorem zpG{a b:A2.cX}(h:A2.iv a=A2.iv b):a.2=b.2:=(List.map_inj_right λx y e=>by injection e).1 (zpF h)
def MR(f:A2.F):Bool:=A2.D7 f.s.2.length f.r.2 (A2.rowsOf f.f) (A2.rowsOf f.n)
def IT(f:A2.F)(a:A2.cX):Bool:=wN (A2.AA f.f.2.length a.2) a.2.length
def RY(f:A2.F)(l:List A2.cX):ee:=l.map λa=>(72,[A2.fv f,A2.iv a],.bool (IT f a))
def Of(f:A2.F)(l:List A2.cX):ee:=(24,[A2.fv f],.bool (MR f))::RY f l
theorem zm1{f:A2.F}(hf:A2.WF f):∀{l:List A2.cX},(∀a∈l,a.2.length * 8<=reachBytes)->z0 prog fj (RY f l)
 | [],_=>qY
 | a::l,h=>zmV (zm1 hf λb hb=>h b (eo _ hb)) RV rfl (xs:=[A2.fv f,A2.iv a]) ⟨_,A2.Yn RX rfl f a (by have:=h a (fy ..);have:=A2.mO;omega)⟩ (by simp[aL,A2.sS,A2.ry]) rfl
theorem ziH{f:A2.F}(hf:A2.WF f){l:List A2.cX}(h:∀a∈l,a.2.length * 8<=reachBytes):z0 prog fj (Of f l) :=
 zmV (zm1 hf h) RV rfl (xs:=[A2.fv f]) (A2.aaB RX rfl f hf) (by simp[aL,A2.sS]) rfl
theorem ziI{f:A2.F}{l:List A2.cX}:∀x∈Of f l,x.1=24\/x.1=72:=λx hx=>by
 rcases dM.1 hx with rfl|h
 ·exact .inl rfl
 ·obtain⟨a,_,rfl⟩:=mU.1 h;exact .inr rfl
theorem zjW{f:A2.F}{a:A2.cX}:∀{l:List A2.cX},a∈l->cN (RY f l) 72 [A2.fv f,A2.iv a]=some (.bool (IT f a))
 | b::l,h=>by
  show(match Nat.beq 72 72 with|true=>(match eG [A2.fv f,A2.iv a] [A2.fv f,A2.iv b] with|true=>some (V.bool (IT f b))|false=>cN (RY f l) 72 [A2.fv f,A2.iv a])|false=>cN (RY f l) 72 [A2.fv f,A2.iv a])=_
  simp only[];cases hs:eG [A2.fv f,A2.iv a] [A2.fv f,A2.iv b] with
  | true =>
   have e:=xm hs;simp only[List.cons.injEq,and_true,lJ] at e;have e':=zpG e;simp only[IT,e']
  | false =>
   rcases dM.1 h with rfl|h'
   ·rw[dK] at hs;cases hs
   ·exact zjW h'
theorem ziJ{f:A2.F}{l:List A2.cX}{a:A2.cX}(h:a∈l):cN (Of f l) 72 [A2.fv f,A2.iv a]=some (.bool (IT f a)):=zjW h
theorem ziK{f:A2.F}{l:List A2.cX}:cN (Of f l) 24 [A2.fv f]=some (.bool (MR f)):=wH
section
variable{l:ee}{f:A2.F}
theorem zm2(hs:f.s.2.length<2 ^ 30)(hf:f.f.2.length<2 ^ 30):mP f<2 ^ 36:=by
 simp only[mP];omega
theorem zm3(hl:z0 prog fj l)(hw:A2.WF f)(hq:∀q∈f.s.2,CI q)(hs:f.s.2.length<2 ^ 30)(Md:f.f.2.length<2 ^ 30)(act:A2.cX)(ha:act.2.length * 8<=reachBytes) :
  ∃v,v.top=0/\(if MR f=true/\IT f act=true then UH (nj f) (F3 f) (nV f act.2) v else v=.bx [.agg [.aH,.aH],.dX 396 (.obj 0)])/\z0 prog fj ((28,[A2.fv f,A2.iv act],v)::l):=by
 have ek:∀a∈[act],a.2.length * 8<=reachBytes:=λa h=>by
  rw[r9] at h;rw[h];exact ha
 refine zkS (n:=mP f+5000) hl (ziH hw ek) ziI (by omega) (zm2 hs Md) ziK (ziJ (List.mem_singleton_self _)) λh1 h2=>?_
 obtain⟨k1,k2,k3⟩:=zjT hq h1 (n:=mP f+5000 - 3) (by omega)
 obtain⟨k4,k5⟩:=zf4 h2;exact⟨k1,k4,by omega,by omega⟩
theorem zpH(hl:z0 prog fj l)(hw:A2.WF f)(hq:∀q∈f.s.2,CI q)(hs:f.s.2.length<2 ^ 30)(Md:f.f.2.length<2 ^ 30)(cQ:A2.gR)(ha:∀a∈cQ.2,a.2.length * 8<=reachBytes)(sF:cQ.2.length<2 ^ 60) :
  ∃v,v.top=0/\(if D6 (MR f) (IT f) cQ.2=true then MN f cQ.2 v else v=.bx [.aH,.dX 396 (.obj 0)])/\z0 prog fj ((30,[A2.fv f,A2.rv cQ],v)::l):=by
 cases pZ:MR f with
 | false =>
  have BN:cN (Of f cQ.2) 24 [A2.fv f]=some (.bool false):=by rw[<- pZ];exact ziK
  refine zjS (n:=mP f+5000+cQ.2.length+f.f.2.length) hl (ziH hw ha) ziI (by omega) (zm2 hs Md) BN (λa h=>ziJ h) (by omega) sF (λh=>by cases h) λa h1 h2=>?_
  obtain⟨k4,k5⟩:=zf4 h2;exact⟨k4,by omega,by omega⟩
 | true =>
  have BN:cN (Of f cQ.2) 24 [A2.fv f]=some (.bool true):=by rw[<- pZ];exact ziK
  obtain⟨k1,k2,k3⟩:=zjT hq pZ (n:=mP f+5000+cQ.2.length+f.f.2.length - 3) (by omega)
  refine zjS (n:=mP f+5000+cQ.2.length+f.f.2.length) hl (ziH hw ha) ziI (by omega) (zm2 hs Md) BN (λa h=>ziJ h) (by omega) sF (λ_=>k1) λa h1 h2=>?_
  obtain⟨k4,k5⟩:=zf4 h2;exact⟨k4,by omega,by omega⟩
end
end
section
section
variable{aU:Nat->Nat->Nat}{lab:Nat->Int}
def Cl(aU:Nat->Nat->Nat)(s:Nat)(i:Nat):Prop:=0<i/\(zl aU s i).length=i
theorem Cl.one{s i j:Nat}(h:Cl aU s i)(h':Cl aU s j):i=j:=xy h.2 h'.2
theorem Cl.cnt{s i j:Nat}(h:Cl aU s i):qB (zl aU s j)<=qB (zl aU s i):=by
 obtain⟨rs,e⟩:=UC (j:=j) h.2;rw[e];exact ZH
open Classical in
noncomputable def KW(aU:Nat->Nat->Nat)(s:Nat):Nat:=if h:∃i,Cl aU s i then qB (zl aU s (Classical.choose h)) else 0
theorem Cl.K{s i:Nat}(h:Cl aU s i):KW aU s=qB (zl aU s i):=by
 have hex:∃i,Cl aU s i:=⟨i,h⟩;rw[KW,dif_pos hex,(Classical.choose_spec hex).one h]
theorem AD.sum{ss:bO}{c:Nat}{vs:aG}(h:AD aU lab ss c vs):c=(ss.map (KW aU)).sum:=by
 induction h with
 | nil=>rfl
 | @snoc ss c s0 i vs h hi hl ih =>
  rw[List.map_append,List.sum_append,<- ih];simp only[bk,bw,List.sum_cons,List.sum_nil,om];rw[Cl.K ⟨hi,hl⟩]
theorem AD.len{ss:bO}{c:Nat}{vs:aG}(h:AD aU lab ss c vs):vs.length=ss.length:=by
 induction h with
 | nil=>rfl
 | snoc _ _ _ ih=>simp[ih]
theorem AD.get{ss:bO}{c:Nat}{vs:aG}(h:AD aU lab ss c vs):∀(k s:Nat),ss[k]?=some s->∃i,Cl aU s i/\vs[k]?=some (A2.oe (Bq aU s lab i))/\qB (zl aU s i)<=c:=by
 induction h with
 | nil=>intro k s hk;simp at hk
 | @snoc ss c s0 i vs h hi hl ih =>
  intro k s hk;have hv:=h.len;rcases eY k ss.length with h1|h1
  ·rw[gF h1] at hk;obtain⟨i',q1,q2,q3⟩:=ih k s hk;exact⟨i',q1,by rw[gF (by omega)];exact q2,by omega⟩
  ·rw[fM h1] at hk
   match hj:k - ss.length,hk with
   | 0,hk =>
    cases hk;exact⟨i,⟨hi,hl⟩,by rw[fM (by omega),hv,hj];rfl,by omega⟩
   | j+1,hk=>simp at hk
theorem UH.of{s i:Nat}{v:V}(h:UH aU lab s v)(hc:Cl aU s i)(h6:qB (zl aU s i)<=600):v=.bx [A2.oe (Bq aU s lab i),.bP]:=by
 rcases h with⟨j,q1,q2,_,rfl⟩|⟨j,q1,_⟩
 ·rw[hc.one ⟨q1,q2⟩]
 ·have:=hc.cnt (j:=j);omega
end
section
variable{f:A2.F}{l l':List A2.cX}{v v':V}
end
end
section
variable{aU:Nat->Nat->Nat}{s0:Nat}
theorem zm4{w:Nat}{ws:bO}(h:w∈ws):∃i,kH w 0 ws=some i:=by
 cases hx:kH w 0 ws with
 | some i=>exact⟨i,rfl⟩
 | none=>exact absurd h (og.1 hx)
theorem zf6{w:Nat}{ws:bO}(h:w∈ws):w7 ws w=ws:=by
 obtain⟨i,hi⟩:=zm4 h;unfold w7;rw[hi]
theorem zhF{w:Nat}{ws:bO}(h:w ∉ ws):w7 ws w=ws++[w]:=by
 unfold w7;rw[og.2 h]
theorem zm5{w x:Nat}{ws:bO}:x∈w7 ws w ↔ x∈ws\/x=w:=by
 rcases Classical.em (w∈ws) with h|h
 ·rw[zf6 h];exact⟨.inl,λh'=>h'.elim id λe=>e ▸ h⟩
 ·rw[zhF h];simp
def Ke(g:Nat->Nat)(ld:bO)(ws:bO):bO:=ld.foldl (λws y=>w7 ws (g y)) ws
theorem uM{g:Nat->Nat}{x:Nat}:∀{ld ws:bO},x∈Ke g ld ws ↔ x∈ws\/∃y∈ld,x=g y
 | [],ws=>by simp[Ke]
 | y::ld,ws=>by
  show x∈Ke g ld (w7 ws (g y)) ↔ _;rw[uM (ld:=ld),zm5];simp only[dM,exists_eq_or_imp,or_assoc]
theorem zm6{g:Nat->Nat}{ld ws:bO}(hs:ld.Pairwise (· < ·))(hc:∀y,y<256->∃l∈ld,l<=y/\g y=g l):∀Y,Y<=256->jO ws g Y=Ke g (ld.filter (λl=>decide (l<Y))) ws
 | 0,_=>by rw[List.filter_eq_nil_iff.2 (λx _=>by simp)];rfl
 | Y+1,h=>by
  have ih:=zm6 (ws:=ws) hs hc Y (by omega)
  show w7 (jO ws g Y) (g Y)=_;rw[ih];rcases Classical.em (Y∈ld) with hm|hm
  ·have:ld.filter (λl=>decide (l<Y+1))=ld.filter (λl=>decide (l<Y))++[Y]:=by
    clear ih hc
    induction ld with
    | nil=>cases hm
    | cons a ld ih =>
     obtain⟨h1,h2⟩:=List.pairwise_cons.1 hs;rcases dM.1 hm with rfl|hm
     ·have h3:ld.filter (λl=>decide (l<Y+1))=[]:=List.filter_eq_nil_iff.2 λx hx=>by have:=h1 x hx;simp;omega
      have h4:ld.filter (λl=>decide (l<Y))=[]:=List.filter_eq_nil_iff.2 λx hx=>by have:=h1 x hx;simp;omega
      simp[h3,h4]
     ·have ha:=h1 Y hm;have e1:decide (a<Y+1)=true:=by simp;omega
      have e2:decide (a<Y)=true:=by simp;omega
      simp only[List.filter_cons,e1,e2,aI,ih h2 hm,br]
   rw[this];simp[Ke,List.foldl_append]
  ·have:ld.filter (λl=>decide (l<Y+1))=ld.filter (λl=>decide (l<Y)):=List.filter_congr λx hx=>by
    have:x≠Y:=λe=>hm (e ▸ hx);simp;omega
   rw[this];refine zf6 (uM.2 (.inr ?_));obtain⟨l,h1,h2,h3⟩:=hc Y (by omega)
   have:l≠Y:=λe=>hm (e ▸ h1);exact⟨l,List.mem_filter.2 ⟨h1,by simp;omega⟩,h3⟩
theorem zm7{g:Nat->Nat}{ld ws:bO}(hs:ld.Pairwise (· < ·))(Br:∀l∈ld,l<256)(hc:∀y,y<256->∃l∈ld,l<=y/\g y=g l):jO ws g 256=Ke g ld ws:=by
 rw[zm6 hs hc 256 (dB _)];rw[List.filter_eq_self.2 λl hl=>by simp[Br l hl]]
inductive NT
 |e
 |n (l:NT) (x:Nat) (r:NT)
def NT.has:NT->Nat->Bool
 | .e,_=>false
 | .n l x r,w=>bif Nat.beq w x then true else bif Nat.blt w x then l.has w else r.has w
def NT.put:NT->Nat->NT
 | .e,w=>.n .e w .e
 | .n l x r,w=>bif Nat.blt w x then .n (l.put w) x r else .n l x (r.put w)
inductive NT.Ok:NT->(Nat->Prop)->Prop
 | e:NT.Ok .e (λ_=>False)
 | n {l r:NT} {p q:Nat->Prop} {x:Nat} (hl:l.Ok p) (hr:r.Ok q) (h1:∀w,p w->w<x) (h2:∀w,q w->x<w):NT.Ok (.n l x r) (λw=>p w\/w=x\/q w)
theorem NT.Ok.has{t:NT}{p:Nat->Prop}(h:t.Ok p):∀w,t.has w=true ↔ p w:=by
 induction h with
 | e=>intro w;simp[NT.has]
 | @n l r p q x hl hr h1 h2 ihl Ow =>
  intro w;simp only[NT.has];cases hb:Nat.beq w x with
  | true =>
   have:=fo hb;simp[this]
  | false =>
   have cK:w≠x:=λe=>by rw[e,iV] at hb;cases hb
   cases iM:Nat.blt w x with
   | true =>
    have bW:w<x:=rA iM;simp only[oo,rB,ihl];exact⟨.inl,λh=>h.elim id λh=>h.elim (λe=>absurd e cK) λh=>by have:=h2 w h;omega⟩
   | false =>
    have uR:¬w<x:=λh=>by have:Nat.blt w x=true:=G1 h;rw[this] at iM;cases iM
    simp only[rB,Ow];exact⟨λh=>.inr (.inr h),λh=>h.elim (λh=>by have:=h1 w h;omega) λh=>h.elim (λe=>absurd e cK) id⟩
theorem NT.Ok.put{t:NT}{p:Nat->Prop}(h:t.Ok p):∀{w},¬p w->∃q,(t.put w).Ok q/\∀x,q x ↔ p x\/x=w:=by
 induction h with
 | e=>intro w _;exact⟨_,.n .e .e (λ_ h=>h.elim) (λ_ h=>h.elim),λx=>by simp⟩
 | @n l r p q x hl hr h1 h2 ihl Ow =>
  intro w hw;have cK:w≠x:=λe=>hw (.inr (.inl e));simp only[NT.put];cases iM:Nat.blt w x with
  | true =>
   have bW:w<x:=rA iM;obtain⟨p',k1,k2⟩:=ihl (w:=w) λh=>hw (.inl h);refine⟨_,.n k1 hr (λy hy=>((k2 y).1 hy).elim (h1 y) λe=>e ▸ bW) h2,λy=>?_⟩;rw[k2];constructor
   ·rintro((h|h)|h|h)
    ·exact .inl (.inl h)
    ·exact .inr h
    ·exact .inl (.inr (.inl h))
    ·exact .inl (.inr (.inr h))
   ·rintro((h|h|h)|h)
    ·exact .inl (.inl h)
    ·exact .inr (.inl h)
    ·exact .inr (.inr h)
    ·exact .inl (.inr h)
  | false =>
   have uR:x<w:=by
    have:¬w<x:=λh=>by have:Nat.blt w x=true:=G1 h;rw[this] at iM;cases iM
    omega
   obtain⟨p',k1,k2⟩:=Ow (w:=w) λh=>hw (.inr (.inr h));refine⟨_,.n hl k1 h1 (λy hy=>((k2 y).1 hy).elim (h2 y) λe=>e ▸ uR),λy=>?_⟩;rw[k2];constructor
   ·rintro(h|h|h|h)
    ·exact .inl (.inl h)
    ·exact .inl (.inr (.inl h))
    ·exact .inl (.inr (.inr h))
    ·exact .inr h
   ·rintro((h|h|h)|h)
    ·exact .inl h
    ·exact .inr (.inl h)
    ·exact .inr (.inr (.inl h))
    ·exact .inr (.inr (.inr h))
def RZ(t:NT)(nw:bO)(w:Nat):NT×bO:=bif t.has w then (t,nw) else (t.put w,w::nw)
def Kf(g:Nat->Nat):bO->NT->bO->NT×bO
 | [],t,nw=>(t,nw)
 | y::ld,t,nw=>match RZ t nw (g y) with|(t,nw)=>Kf g ld t nw
def IU(aU:Nat->Nat->Nat)(ld:bO):Nat->bO->bO->NT->Nat->oq
 | 0,_,_,_,_=>none
 | _k+1,[],[],t,i=>some (i,t.has 0)
 | k+1,[],nw,t,i=>IU aU ld k nw.reverse [] t i
 | k+1,w::td,nw,t,i=>match Kf (aU w) ld t nw with|(t,nw)=>IU aU ld k td nw t (i+1)
theorem zow{t:NT}{nw pre:bO}{w:Nat}{p:Nat->Prop}(h:t.Ok p)(hp:∀x,p x ↔ x∈pre++nw.reverse):∃q,(RZ t nw w).1.Ok q/\(∀x,q x ↔ x∈pre++(RZ t nw w).2.reverse)/\w7 (pre++nw.reverse) w=pre++(RZ t nw w).2.reverse:=by
 unfold RZ;cases hb:t.has w with
 | true =>
  exact⟨p,h,hp,zf6 ((hp w).1 ((h.has w).1 hb))⟩
 | false =>
  have hn:¬p w:=λhw=>by rw[(h.has w).2 hw] at hb;cases hb
  obtain⟨q,k1,k2⟩:=h.put hn;refine⟨q,k1,λx=>?_,?_⟩
  ·rw[k2,hp];simp[or_assoc]
  ·rw[zhF λhw=>hn ((hp w).2 hw)];simp
theorem zhG{g:Nat->Nat}{pre:bO}:∀{ld:bO}{t:NT}{nw:bO}{p:Nat->Prop},t.Ok p->(∀x,p x ↔ x∈pre++nw.reverse)->∃q,(Kf g ld t nw).1.Ok q/\(∀x,q x ↔ x∈pre++(Kf g ld t nw).2.reverse)/\Ke g ld (pre++nw.reverse)=pre++(Kf g ld t nw).2.reverse
 | [],t,nw,p,h,hp=>⟨p,h,hp,rfl⟩
 | y::ld,t,nw,p,h,hp=>by
  obtain⟨q,k1,k2,k3⟩:=zow (w:=g y) h hp;obtain⟨r,m1,m2,m3⟩:=zhG (g:=g) (ld:=ld) k1 k2;refine⟨r,m1,m2,?_⟩;show Ke g ld (w7 (pre++nw.reverse) (g y))=_;rw[k3];exact m3
theorem zf8{ld:bO}(hs:ld.Pairwise (· < ·))(Br:∀l∈ld,l<256)(hc:∀w y,y<256->∃l∈ld,l<=y/\aU w y=aU w l):∀(k:Nat)(td nw:bO)(t:NT)(i n:Nat)(b:Bool)(dn:bO)(p:Nat->Prop),t.Ok p->(∀x,p x ↔ x∈dn++td++nw.reverse)->dn.length=i->zl aU s0 i=dn++td++nw.reverse->IU aU ld k td nw t i=some (n,b)->(zl aU s0 n).length=n/\(b=true ↔ 0∈zl aU s0 n)
 | 0,_,_,_,_,_,_,_,_,_,_,_,_,h=>by cases h
 | k+1,[],[],t,i,n,b,dn,p,ht,hp,hd,mh,h=>by
  simp only[IU,bz,cq] at h;obtain⟨rfl,rfl⟩:=h;refine⟨by rw[mh];simp[hd],?_⟩
  rw[ht.has 0,hp 0,mh]
 | k+1,[],x::nw,t,i,n,b,dn,p,ht,hp,hd,mh,h=>by
  simp only[IU] at h;exact zf8 hs Br hc k _ [] t i n b dn p ht (by simpa using hp) hd (by simpa using mh) h
 | k+1,w::td,nw,t,i,n,b,dn,p,ht,hp,hd,mh,h=>by
  have e:dn++w::td++nw.reverse=(dn++[w]++td)++nw.reverse:=by simp
  rw[e] at mh;obtain⟨q,k1,k2,k3⟩:=zhG (g:=aU w) (ld:=ld) (pre:=dn++[w]++td) ht (λx=>by rw[hp x,e])
  have hw:(zl aU s0 i)[i]?=some w:=by
   rw[mh,bp,bp,<- hd,fM (dB _)];simp
  have R1:zl aU s0 (i+1)=dn++[w]++td++(Kf (aU w) ld t nw).2.reverse:=by
   simp only[zl,hw];rw[zm7 hs Br (hc w),mh];exact k3
  have hr:IU aU ld k td (Kf (aU w) ld t nw).2 (Kf (aU w) ld t nw).1 (i+1)=some (n,b):=by
   simp only[IU] at h;exact h
  exact zf8 hs Br hc k td _ _ (i+1) n b (dn++[w]) q k1 k2 (by simp[hd]) R1 hr
theorem Dq:∀{ws:bO},ws.Nodup->qB ws=ws.length+(if 0∈ws then 0 else 1)
 | [],_=>by simp[qB]
 | x::ws,h=>by
  obtain⟨h1,h2⟩:=List.nodup_cons.1 h;have ih:=Dq h2;unfold qB at ih ⊢
  by_cases e:x=0
  ·subst e;rw[if_neg h1] at ih;simp at ih ⊢;omega
  ·have e1:¬(0=x):=λh=>e h.symm
   by_cases hm:0∈ws<;>simp[hm,e,e1] at ih ⊢<;>omega
theorem zpI{ld:bO}{k n:Nat}{b:Bool}(hs:ld.Pairwise (· < ·))(Br:∀l∈ld,l<256)(hc:∀w y,y<256->∃l∈ld,l<=y/\aU w y=aU w l)(h:IU aU ld k [s0] [] (NT.e.put s0) 0=some (n,b)):(zl aU s0 n).length=n/\qB (zl aU s0 n)=n+(if b then 0 else 1):=by
 obtain⟨h1,h2⟩:=zf8 (s0:=s0) hs Br hc k [s0] [] _ 0 n b [] (λw=>False\/w=s0\/False) (.n .e .e (λ_ h=>h.elim) (λ_ h=>h.elim)) (λx=>by simp) rfl (by simp[zl]) h
 refine⟨h1,?_⟩;rw[Dq (yb n),h1];cases b with
 | true=>rw[if_pos (h2.1 rfl)];rfl
 | false=>rw[if_neg λh=>by have:=h2.2 h;cases this];rfl
end
end Go.Proofs.YthohlnmcjkjeiaaGreatDoor
