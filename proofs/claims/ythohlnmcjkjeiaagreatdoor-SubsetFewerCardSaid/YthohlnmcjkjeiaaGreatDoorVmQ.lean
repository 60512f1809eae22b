/- Seat 8, subset: a set that is new, walked. Conditions: none but those named. -/
import Derived.Test.YthohlnmcjkjeiaaGreatDoorVmP
namespace Go.Proofs.YthohlnmcjkjeiaaGreatDoor
open Go Go.Vm
open Go.Proofs.Tryz
set_option maxRecDepth 100000
section
variable{gl:Gl}
theorem iP{cx:Cx}{takes:cg}{o:Oper}{env:aD}{v:V}{c:ew}{s:St}(h:cx.op takes o env c.H c.lk c.df=some (.val v,s)):cx.eX takes o env v c=true:=by
 simp only[Cx.eX,Cx.ee,h,V.dh]
theorem O5{a b:Bool}(h:b=true):(a || b)=true:=by rw[h,Bool.or_true]
theorem zm7{P:aQ}{t:aB}{x y:aW}{b:Nat}(h:8 * b<2 ^ 60)(h1:0<b):qL P .sub t x y (some (.int .i64 ((8 * b:Nat):Int))) (some (.int .i64 8))=some (.int .i64 ((8 * b - 8:Nat):Int)):=XZ (a:=8 * b) (b:=8) h (by omega)
theorem mj{cx:Cx}{n:Nat}{Q:Ex->St->Prop}{k:List It}{BH:aD}{B0:List aY}{e0:aO}{Hh:aO}{P:aD->List aY->Prop}(h:∀env B lk,P env B->go cx n Q k .normal ⟨env,⟨B,e0⟩,lk,[]⟩)(h0:P BH B0):go cx n Q k .normal ⟨BH,⟨B0,e0⟩,Hh,[]⟩:=h _ _ _ h0
def m5(z:Bool)(n e:Nat)(xs:aD):V:=match z with|true=>.sl n xs (.yes e)|false=>zl n e xs
def HG(z:Bool)(n:Nat)(xs:aD):V:=match z with|true=>.sl n xs .lock|false=>oC n xs
def E2(z:Bool)(b off:Nat)(xs:aD):aO:=match z with|true=>[(b,off)]|false=>kE b off xs
section
variable{P:aQ}{t n:aB}{B:List aY}{off bm:Nat}{cs:aD}{ty e:aB}{xs ys:aD}{env:aD}{df:bP}{es:aO}{z:Bool}{v:V}
theorem zrd(ha:qz P t=some false)(hb:nth B bm=some (.cells cs ty))(hn:nth cs off=some (m5 z n e xs)) :
  vU P t env ⟨B,es⟩ [] df (some (.ptr bm off))=some (.val (m5 z n e xs),⟨env,⟨B.set bm (.cells (cs.set off (HG z n xs)) ty),es⟩,E2 z bm off xs,df⟩):=by
 cases z with
 | false=>exact Sh ha hb hn
 | true =>
  simp only[m5] at hn;simp only[vU,ha,show Hp.get ⟨B,es⟩ bm=_ from hb,hn,m5,HG,E2];rfl
theorem zre(hs:z4 P t=some 1)(bR:bm<B.length)(ho:off<cs.length)(h1:dz v=true)(h2:v.laid=[v]) :
  qr P t ⟨B.set bm (.cells (cs.set off (HG z n xs)) ty),es⟩ (E2 z bm off xs) df (some (v,env)) (some (.ptr bm off))=some (.skip,⟨env,⟨B.set bm (.cells (cs.set off v) ty),vk es bm v⟩,E2 z bm off xs,df⟩):=by
 have hm:wz (E2 z bm off xs) bm off 1 ((cs.set off (HG z n xs)).drop off)=true:=by
  cases z with
  | false=>exact Qt ho
  | true =>
   have h3:(cs.set off (V.sl n xs .lock)).drop off=.sl n xs .lock::cs.drop (off+1):=by
    rw[GO (by rw[bD];exact ho)]
    simp[List.drop_set]
   simp only[HG,E2,h3];simp[wz,locked]
 rw[zy hs (show Hp.get ⟨_,es⟩ bm=some (.cells (cs.set off (HG z n xs)) ty) by show nth _ _=_;simp[zg,bR]) h1 (by rw[h2];rfl) (by rw[bD];omega) hm]
 simp only[Hp.set,List.set_set,h2,Vm.storeCells,gz]
theorem zrJ{Cd:Nat}(h:mW P t e n Cd)(hy:ys≠[])(hr:kx (xs.length+ys.length) Cd=true){H:Hp}:j9 P H t (m5 z n e xs) (.sl n ys .no)=some (zl n e (xs++ys)):=by
 cases z with
 | false=>exact jD h hy hr
 | true =>
  cases xs with
  | cons x xs=>exact jD (xs:=x::xs) h hy hr
  | nil =>
   have hi:=h.i;cases Aj:P.info? e with
   | none=>rw[Aj] at hi;cases hi
   | some ti =>
    rw[Aj] at hi;simp only[aT] at hi;cases hz:ti.zero with
    | none=>rw[hz] at hi;cases hi
    | some z =>
     rw[hz] at hi;simp only[aS,bq,cq] at hi;have Be:Nat.beq n 0=false:=by
      have:=h.n0.1;cases n with
      | zero=>exact absurd rfl this
      | succ n=>rfl
     obtain⟨y,ys,rfl⟩:∃y l,ys=y::l:=by
      cases ys with
      | nil=>exact absurd rfl hy
      | cons y l=>exact⟨y,l,rfl⟩
     simp only[m5,j9,h.u,h.s,Aj,hz,hi.1,wA,Option.bind_eq_bind,aT,lK,mo,fR,bw,aF];simp only[zl,aZ];rw[hi.2,Be];simp only[List.length_nil,nY,aX] at hr;simp[hr]
def zrK(env:aD)(t:Nat)(v:V):Option (V×aD):=qF env t (some v)
open Classical in
theorem zfj{t:Nat}:qF env t (some (m5 z n e xs))=if nth env t=some (m5 z n e xs) then some (m5 z n e xs,env.set t (aV (m5 z n e xs))) else zrK env t (m5 z n e xs):=by
 split
 ·rename_i h;cases z with
  | false=>rw[<- h,<- zL];exact vW h
  | true=>rfl
 ·rfl
theorem tC:aV (aV (m5 z n e xs))=aV (m5 z n e xs):=by cases z<;>cases xs<;>rfl
theorem zm8{x:V}:m5 z n e (x::xs)=zl n e (x::xs):=by cases z<;>rfl
theorem zoW{x:V}:m5 z n e (xs++[x])=zl n e (xs++[x]):=by cases z<;>cases xs<;>rfl
theorem zen{H:Hp}(hu:P.underlying t=some (.slice e)):qX P H t (aV (m5 z n e xs))=some ((xs.length:Nat):Int):=by
 cases z with
 | false=>exact Uq hu
 | true=>simp[m5,aV,qX,hu]
end
theorem ziT{cx:Cx}{takes:cg}{rs:List Rec}{r1 R:Rec}{c0 c1 nw d c2 e:ew}{k:List ew->Option (Ex×St)}(j:Nat)(_hj:rs[j]?=some r1)(e1:c1=nw)(hp:R.hp=true)(ho:∀q∈rs,q=r1\/(q.hp=false/\(q.free=true\/bit R.m q.idx=true)))(h1:r1.hp=true)
  (hs:vN (Nat.land R.m (eJ rs)) d.D=true) (hr:cx.ee takes R.o R.env d (Nat.lor d.D (Nat.pow 2 R.idx))=some (R.v,c2)) (L8:bit nw.D r1.idx=true) (oe:bit c2.D r1.idx=false)
  (hq:cx.ee takes r1.o r1.env c2 0=some (r1.v,e)) (hf:ya (Nat.lor c2.D (Nat.pow 2 r1.idx)) [nw,c2,c0,d]=some nw) (he:v9 e nw=true) :
  cx.fN takes rs R c0 c1 [d] k=k [nw,c2,c0,d]:=ziy e1 hp ho h1 hs hr L8 oe hq hf he
theorem vZ{n e:Nat}{xs:aD}:(zl n e xs).top=aI xs:=by
 cases xs<;>rfl
theorem Nr:mW prog 27 3 1 8:=⟨by kernel_rfl,by kernel_rfl,by kernel_rfl,by decide,by kernel_rfl,by kernel_rfl,by kernel_rfl⟩
theorem GC:zB prog 66 1=some 1:=by kernel_rfl
def Ns(B:List aY)(_a1 a2 a3 a4 mp m c w:Nat)(sum:Int)(ws:bM)(wait:aD)(aL:V)(dS:aD)(lab:Int)(t2 t3 t4:aB):List aY :=
 ((((B.set mp (.map (vh m 0 (ws++[w])))).set a2 (.cells [.int .i64 (if w=0 then sum else sum+1)] t2)).set a3 (.cells [zl 1 205 (wait++[cG m c])] t3)).set a4 (.cells [aL,zl 1 3 (dS++[.int .i64 lab])] t4))
theorem zm9{B ls:List aY}{es rH:aO}(he:∀e∈rH,e.2<=B.length):∃iC,zW B.length es 0 ⟨B++ls,rH⟩=⟨B,iC⟩:=by
 unfold zW;have h1:(Nat.ble 0 B.length && rH.all λe=>Nat.ble B.length e.1 || Nat.ble e.2 B.length)=true:=by
  rw[d_];exact⟨K3 (ec _),Cs.2 λe h=>by rw[p7];exact .inr (K3 (he e h))⟩
 rw[if_pos h1,List.take_left];exact⟨_,rfl⟩
theorem zk9(hg:GS gl){z:Bool}{n a1 a2 a3 a4 a5 bm mp m w c:Nat}{sum:Int}{ws:bM}{wait:aD}{aL:V}{dS:aD}{mc:aD}{t1 t2 t3 t4 t5 tM:aB}{f:A2.F}(hn:m+400<=n)(tW:wait.length<2 ^ 40)(hlb:dS.length<2 ^ 40)(Dr:0<m)(uR:m<2 ^ 36)(hw:w<2 ^ (8 * m))(DD:∀x∈ws,x<2 ^ (8 * m))(aq5:-1<=sum/\sum<2 ^ 40)(oN:f.s.2.length<2 ^ 40)(aaN:aI dS=0){B:List aY}{es:aO}
  (h1:nth B a1=some (.cells [.map mp] t1)) (h2:nth B a2=some (.cells [.int .i64 sum] t2)) (h3:nth B a3=some (.cells [m5 z 1 205 wait] t3)) (h4:nth B a4=some (.cells [aL,zl 1 3 dS] t4)) (h5:nth B a5=some (.cells [.ptr bm 0] t5)) (hM:nth B bm=some (.cells mc tM)) (DO:nth mc 0=some (A2.qv f.s))
  (hm:nth B mp=some (.map (vh m 0 ws))) (hc:nth B c=some (.cells (dL m w) 5)) (sA:[a1,a2,a3,a4,a5,bm,mp,c].Nodup) (hx:ku w 0 ws=none) (Nt:aI wait<=B.length) :
  ∃iC,zj prog gl (n+1) 111 [cG m c,.ptr a1 0,.ptr a2 0,.ptr a3 0,.ptr a4 0,.ptr a5 0] ⟨B,es⟩=some (.ret (.int .i64 (ws.length:Nat)),⟨Ns B a1 a2 a3 a4 mp m c w sum ws wait aL dS (wl f.s.2.length (wk m w) (-1)) t2 t3 t4,iC⟩):=by
 suffices bL:(go ⟨prog,gl,zj prog gl n,eu⟩ n (Fx prog f111.results.toList λx H1=>x=.int .i64 (ws.length:Nat)/\∃rH,H1=⟨Ns B a1 a2 a3 a4 mp m c w sum ws wait aL dS (wl f.s.2.length (wk m w) (-1)) t2 t3 t4++[.cells (dL m 0) 5],rH⟩/\∀e∈rH,e.2<=B.length) [.c (f111.body.getD .skip)] .normal ⟨[cG m c,.ptr a1 0,.ptr a2 0,.ptr a3 0,.ptr a4 0,.ptr a5 0]++List.replicate 43 (.br []),⟨B,[]⟩,[],[]⟩) by
  obtain⟨x,H1,h0,rfl,rH,rfl,AP⟩:=zQ (gl:=gl) (f:=111) (bs:=B) (es:=es) (args:=[cG m c,.ptr a1 0,.ptr a2 0,.ptr a3 0,.ptr a4 0,.ptr a5 0]) (n:=n) (hg.hk _ _ (by decide)) (λH=>hg.fA _ _ _ _ (by decide)) func111 rfl (by rw[hg.uq];exact bL)
  have nk:(Ns B a1 a2 a3 a4 mp m c w sum ws wait aL dS (wl f.s.2.length (wk m w) (-1)) t2 t3 t4).length=B.length:=by simp[Ns]
  obtain⟨iC,he⟩:=zm9 (B:=Ns B a1 a2 a3 a4 mp m c w sum ws wait aL dS (wl f.s.2.length (wk m w) (-1)) t2 t3 t4) (ls:=[.cells (dL m 0) 5]) (es:=es) (rH:=rH) (by rw[nk];exact AP)
  rw[nk] at he;exact⟨iC,by rw[h0,show(V.int .i64 (ws.length:Nat)).top=0 from rfl,he]⟩
 have l1:zk prog ⟨B,[]⟩ gl.g 207 (.ptr a1 0)=some (.map mp):=zt GB h1 rfl;have iT:=xL (H:=⟨B,[]⟩) (m:=m) (w:=w) (c:=c) hc;have q_:=zek (H:=⟨B,[]⟩) (d:=mp) hw DD hm;rw[hx] at q_;have ni:∀c,aV (cG m c)=cG m c:=λ_=>rfl;have PT:qX prog ⟨B,[]⟩ 207 (.map mp)=some ((ws.length:Nat):Int):=by
  rw[zj8 (H:=⟨B,[]⟩) (d:=mp) hm,zej]
 have aq6:mp<B.length:=by rw[zg] at hm;exact(cZ.1 hm).1
 have gG:c<B.length:=by rw[zg] at hc;exact(cZ.1 hc).1
 have rq:mp≠c:=by
  simp only[List.nodup_cons,dG,not_or] at sA;exact sA.2.2.2.2.2.2.1.1
 simp only[f111,fS,zh];refine zi ?_;simp only[BA,aj,aq,bS,bT,List.replicate];refine zi ?_
 simp only[BA,ak,aq,zd,ze,bS,bT,l1,vx,ni,vY (cx:=⟨prog,gl.g,zj prog gl n,eu⟩) (a:=205) (b:=9) (show eu (vi 205)=true from rfl) rfl,iT,zcF,q_,kY,dZ,Option.getD_none,Option.isSome_none];refine zi ?_
 simp only[BA,ak,aq,zd,ze,bS,bT,iH,oI];refine .inl ?_;refine zi ?_
 simp only[BA,ak,aq,zd,ze,bS,bT,l1,vx,PT];refine zi ?_
 simp only[BA,ak,aq,zd,ze,bS,bT,l1,vx,ni,vY (cx:=⟨prog,gl.g,zj prog gl n,eu⟩) (a:=205) (b:=9) (show eu (vi 205)=true from rfl) rfl,iT];have Np:=zgu (k:=0) hw DD hx;rw[nY] at Np
 rw[zb5 (b:=mp) (kv:=.str (rE m w)) (xv:=.int .i64 (ws.length:Nat)) rfl rfl rfl zm0 (show Hp.get ⟨B,[]⟩ mp=_ from hm) Np (by simp[V.top,aI])]
 obtain⟨B1,AZ⟩:∃B1,B1=B.set mp (.map (vh m 0 (ws++[w]))):=⟨_,rfl⟩;have RB:Hp.set ⟨B,[]⟩ mp (.map (vh m 0 (ws++[w])))=⟨B1,[]⟩:=by rw[AZ];rfl
 rw[RB];simp only[bu,aq]
 have nu:nth B1 c=some (.cells (dL m w) 5):=by rw[AZ,zg,su rq,<- zg,hc]
 obtain⟨B2,Ht⟩:∃B2,B2=B1++[aY.cells (dL m 0) 5]:=⟨_,rfl⟩;have aaO:c<B1.length:=by rw[zg] at nu;exact(cZ.1 nu).1
 have sy:nth B2 c=some (.cells (dL m w) 5):=by rw[Ht,zg,gb aaO,<- zg,nu]
 have ES:nth B2 B1.length=some (.cells (dL m 0) 5):=by rw[Ht,zg,fI (dA _)];simp
 have Fi:=xL (H:=⟨B1,[]⟩) nu;have GY:=xL (H:=⟨B2,[]⟩) sy;have hvz:=xL (H:=⟨B2,[]⟩) ES;obtain⟨n',rfl⟩:∃n',n=n'+1:=⟨n - 1,by omega⟩
 have Ae:Cx.bB ⟨prog,gl.g,zj prog gl (n'+1),eu⟩ 108 [.int .i64 ((8 * m - 8:Nat):Int)] ⟨B1,[]⟩=some (.val (cG m B1.length),⟨B2,[]⟩):=by
  refine zu func108 rfl ?_;have:=xw hg (n:=n') (k:=8 * m - 8) (by omega) (bs:=B1) (es:=[])
  rw[show(8 * m - 8) / 8+1=m by omega,<- Ht] at this
  exact this
 refine wY (tk:=[]) (by kernel_rfl) ?_
 apply Exists.intro;apply And.intro;refine qy (m:=0) (v:=cG m c) (by kernel_rfl) rfl (by simp only[BA,ak,zd,ni];rfl) (by kernel_rfl) (by kernel_rfl) (by kernel_rfl) ?_
 dsimp only[aq]
 refine kj (m:=1) (v:=.str (rE m w)) (by kernel_rfl) rfl (by simp only[BA,ak,zd,ze,bS,bT,ni,vY (cx:=⟨prog,gl.g,zj prog gl (n'+1),eu⟩) (a:=205) (b:=9) (show eu (vi 205)=true from rfl) rfl,Fi];rfl) (by kernel_rfl) (by kernel_rfl) (by kernel_rfl) (by kernel_rfl) ?_
 dsimp only[aq]
 refine qy (m:=0) (v:=cG m c) (by kernel_rfl) rfl (by simp only[BA,ak,zd,bS,bT,ni];rfl) (by kernel_rfl) (by kernel_rfl) (by kernel_rfl) ?_
 dsimp only[aq]
 refine kj (m:=4) (v:=.int .i64 (m:Nat)) (by kernel_rfl) rfl (by simp only[BA,ak,zd,ze,bS,bT,cG];rfl) (by kernel_rfl) (by kernel_rfl) (by kernel_rfl) (by kernel_rfl) ?_
 dsimp only[aq]
 refine qy (m:=12) (v:=.int .i64 ((8 * m:Nat):Int)) (by kernel_rfl) rfl (by simp only[BA,ak,aj,zd,ze,bS,bT,zfg (show 8 * m<2 ^ 60 by omega)];rfl) (by kernel_rfl) (by kernel_rfl) (by kernel_rfl) ?_
 dsimp only[aq]
 refine qy (m:=28) (v:=.int .i64 ((8 * m - 8:Nat):Int)) (by kernel_rfl) rfl (by simp only[BA,ak,aj,zd,ze,bS,bT,zm7 (show 8 * m<2 ^ 60 by omega) Dr];rfl) (by kernel_rfl) (by kernel_rfl) (by kernel_rfl) ?_
 dsimp only[aq]
 refine yo (m:=60) (v:=cG m B1.length) (cs':=[⟨64,⟨B2,[]⟩,[],[]⟩,⟨0,⟨B1,[]⟩,[],[]⟩]) (by kernel_rfl) rfl (by simp only[BA,av,ak,aA,zd,ze,bS,bT,Ae];rfl) (by kernel_rfl) (by kernel_rfl) (by kernel_rfl) (λK=>?_) ?_
 rotate_left
 dsimp only[aq]
 refine kj (m:=124) (v:=.str (rE m 0)) (by kernel_rfl) rfl (by simp only[BA,ak,zd,ze,bS,bT,ni,vY (cx:=⟨prog,gl.g,zj prog gl (n'+1),eu⟩) (a:=205) (b:=9) (show eu (vi 205)=true from rfl) rfl,hvz];rfl) (by kernel_rfl) (by kernel_rfl) (by kernel_rfl) (by kernel_rfl) ?_
 dsimp only[aq]
 refine qy (m:=255) (v:=.bool (!(n6 (rE m w) (rE m 0)))) (by kernel_rfl) rfl (by simp only[BA,ak,zd,ze,bS,bT,zlX];rfl) (by kernel_rfl) (by kernel_rfl) (by kernel_rfl) wZ
 ·have heq:n6 (rE m w) (rE m 0)=(w == 0):=zjC hw (Nat.pow_pos (by decide))
  have bR:∀d x,nth B d=some x->d≠mp->nth B2 d=some x:=λd x hd cH=>by
   have sP:d<B.length:=by rw[zg] at hd;exact(cZ.1 hd).1
   rw[Ht,zg,gb (by rw[AZ,bD];exact sP),AZ,su (Ne.symm cH),<- zg,hd]
  simp only[List.nodup_cons,dG,A8,AM,not_or,List.nodup_nil,BY,uK] at sA;obtain⟨⟨d12,d13,d14,d15,d1b,d1m,d1c⟩,⟨d23,d24,d25,d2b,d2m,d2c⟩,⟨d34,d35,d3b,d3m,d3c⟩,⟨d45,d4b,d4m,d4c⟩,⟨d5b,d5m,d5c⟩,⟨dbm,dbc⟩,dmc⟩:=sA;have g2:=bR a2 _ h2 d2m;have g3:=bR a3 _ h3 d3m;have g4:=bR a4 _ h4 d4m;have g5:=bR a5 _ h5 d5m;have gM:=bR bm _ hM dbm
  have l2:zk prog ⟨B2,[]⟩ gl.g 3 (.ptr a2 0)=some (.int .i64 sum):=zt iS g2 rfl;have Bi:IntKind.i64.wrap (sum+1)=sum+1:=kT (by omega) (by omega)
  have CZ:∀env,qr prog 3 ⟨B2,[]⟩ [] [] (some (.int .i64 (sum+1),env)) (some (.ptr a2 0))=some (.skip,⟨env,⟨B2.set a2 (.cells [.int .i64 (sum+1)] t2),[]⟩,[],[]⟩):=λenv=>by
   rw[zy uA (show Hp.get ⟨B2,[]⟩ a2=_ from g2) rfl rfl (by simp) rfl,jR (by simp[V.top])]
   rfl
  simp only[BA,ak,aq,zd,ze,bS,bT,heq]
  let PP:aD->List aY->Prop:=λenv B3=>env.length=49/\nth env 0=some (cG m c)/\nth env 3=some (.ptr a3 0)/\nth env 4=some (.ptr a4 0)/\nth env 5=some (.ptr a5 0)/\nth env 8=some (.int .i64 (ws.length:Nat)) /\
   B3.length=B2.length/\nth B3 a3=some (.cells [m5 z 1 205 wait] t3)/\nth B3 a4=some (.cells [aL,zl 1 3 dS] t4)/\nth B3 a5=some (.cells [.ptr bm 0] t5)/\nth B3 bm=some (.cells mc tM)/\nth B3 c=some (.cells (dL m w) 5)/\B3=B2.set a2 (.cells [.int .i64 (if w=0 then sum else sum+1)] t2)
  have KK:∀x d y,nth B2 d=some y->d≠a2->nth (B2.set a2 x) d=some y:=λx d y h1 h2=>by
   rw[zg,su (Ne.symm h2),<- zg,h1]
  have aaP:(w=0\/w≠0):=Decidable.em _;rcases aaP with AS|AS
  rotate_left
  refine .inl ⟨by simp[AS],?_⟩
  refine zi ?_;simp only[BA,ak,aj,aq,zd,ze,bS,bT,l2,kg,Bi,CZ]
  refine mj (P:=PP) ?_ ⟨rfl,rfl,rfl,rfl,rfl,rfl,by simp,KK _ _ _ g3 (Ne.symm d23),KK _ _ _ g4 (Ne.symm d24),KK _ _ _ g5 (Ne.symm d25),KK _ _ _ gM (Ne.symm d2b),KK _ _ _ sy (Ne.symm d2c),by rw[if_neg AS]⟩
  rotate_left
  refine .inr ⟨by simp[AS],?_⟩
  refine mj (P:=PP) ?_ ⟨rfl,rfl,rfl,rfl,rfl,rfl,rfl,g3,g4,g5,gM,sy,by rw[if_pos AS];exact(jW g2).symm⟩
  all_goals
   rintro env B3 lk ⟨hlen,e0,e3,e4,e5,e8,QO,k3,k4,k5,kM,kc,Dx⟩;have ha3:a3<B3.length:=by rw[zg] at k3;exact(cZ.1 k3).1
   have mX:∀env,vU prog 201 env ⟨B3,[]⟩ [] [] (some (.ptr a3 0))=some (.val (m5 z 1 205 wait),⟨env,⟨B3.set a3 (.cells ([m5 z 1 205 wait].set 0 (HG z 1 wait)) t3),[]⟩,E2 z a3 0 wait,[]⟩):=λenv=>zrd ig k3 rfl;have lU:=C'.Cc (v:=cG m c) rfl rfl
   have fy:∀H,j9 prog H 201 (m5 z 1 205 wait) (.sl 1 [cG m c] .no)=some (zl 1 205 (wait++[cG m c])):=λH=>zrJ C' (by simp) (dD (by simp;omega) (by simp;omega))
   have BR:∀env,qr prog 201 ⟨B3.set a3 (.cells ([m5 z 1 205 wait].set 0 (HG z 1 wait)) t3),[]⟩ (E2 z a3 0 wait) [] (some (zl 1 205 (wait++[cG m c]),env)) (some (.ptr a3 0))=some (.skip,⟨env,⟨B3.set a3 (.cells [zl 1 205 (wait++[cG m c])] t3),vk [] a3 (zl 1 205 (wait++[cG m c]))⟩,E2 z a3 0 wait,[]⟩):=λenv=>zre C'.st ha3 (by simp) Qu (by rw[vu])
   try simp only[zh]
   refine ww (tk:=[36]) (by kernel_rfl) ?_
   simp only[BA,Nat.reduceEqDiff,ak,aq,za,bD,Nat.reduceLT,bw,e0,e3,hlen,ni,zfj,mX,lU,xR,fy,BR,jT (cx:=⟨prog,gl.g,zj prog gl (n'+1),eu⟩) (show p_ prog eu 201=false by kernel_rfl)]
   obtain⟨B4,Ki⟩:∃B4,B4=B3.set a3 (.cells [zl 1 205 (wait++[cG m c])] t3):=⟨_,rfl⟩;obtain⟨e1,he1⟩:∃e1,e1=vk [] a3 (zl 1 205 (wait++[cG m c])):=⟨_,rfl⟩;rw[<- Ki,<- he1];have Vr:∀d y,nth B3 d=some y->d≠a3->nth B4 d=some y:=λd y h1 h2=>by
    rw[Ki,zg,su (Ne.symm h2),<- zg,h1]
   have k44:=Vr _ _ k4 (Ne.symm d34);have k45:=Vr _ _ k5 (Ne.symm d35);have k4M:=Vr _ _ kM (Ne.symm d3b);have k4c:=Vr _ _ kc (Ne.symm d3c)
   let PE:aD->List aY->Prop:=λenv Bx=>Bx=B4/\env.length=49/\nth env 0=some (cG m c)/\nth env 4=some (.ptr a4 0)/\nth env 5=some (.ptr a5 0)/\nth env 8=some (.int .i64 (ws.length:Nat))
   refine mj (P:=PE) ?_ ⟨rfl,by simp[hlen],by simp[za,e0],by simp[za,e4],by simp[za,e5],by simp[za,e8]⟩
   clear mX BR fy lU k3 k4 k5 kM kc e0 e3 e4 e5 e8 hlen;rintro env Bx lk ⟨rfl,hlen,e0,e4,e5,e8⟩;have ha4:a4<Bx.length:=by rw[zg] at k44;exact(cZ.1 k44).1
   obtain⟨lab,AB⟩:∃l,l=wl f.s.2.length (wk m w) (-1):=⟨_,rfl⟩;obtain⟨BL,hBL⟩:∃BL,BL=Bx.set a4 (.cells ([aL,zl 1 3 dS].set 1 (oC 1 dS)) t4):=⟨_,rfl⟩;have hPL:∀d y,nth Bx d=some y->d≠a4->nth BL d=some y:=λd y h1 h2=>by
    rw[hBL,zg,su (Ne.symm h2),<- zg,h1]
   have mX:∀env,vU prog 27 env ⟨Bx,e1⟩ [] [] (some (.ptr a4 1))=some (.val (zl 1 3 dS),⟨env,⟨BL,e1⟩,kE a4 1 dS,[]⟩):=λenv=>by rw[hBL];exact Sh BQ k44 rfl
   have l5:zk prog ⟨Bx,e1⟩ gl.g 141 (.ptr a5 0)=some (.ptr bm 0):=zt eS k45 rfl;have l5L:zk prog ⟨BL,e1⟩ gl.g 141 (.ptr a5 0)=some (.ptr bm 0):=zt eS (hPL _ _ k45 (Ne.symm d45)) rfl;obtain⟨n2,rfl⟩:∃n2,n'=n2+1+1:=⟨n' - 2,by omega⟩
   have Bc:∀H:List aY,nth H bm=some (.cells mc tM)->nth H c=some (.cells (dL m w) 5)->Cx.bB ⟨prog,gl.g,zj prog gl (n2+3),eu⟩ 112 [.ptr bm 0,cG m c] ⟨H,e1⟩=some (.val (.int .i64 lab),⟨H,e1⟩):=λH q1 q2=>by
    rw[AB];exact zu func112 rfl (zk2 hg (n:=n2) uR (by omega) (by omega) oN q1 DO q2)
   have aaT:=Bc _ k4M k4c;have aaU:=Bc _ (hPL _ _ k4M (Ne.symm d4b)) (hPL _ _ k4c (Ne.symm d4c));have lU:=Nr.Cc (v:=.int .i64 lab) rfl rfl;have fy:∀H,j9 prog H 27 (zl 1 3 dS) (.sl 1 [.int .i64 lab] .no)=some (zl 1 3 (dS++[.int .i64 lab])):=λH=>jD Nr (by simp) (dD (by simp;omega) (by simp;omega))
   have eZ:∀env,qr prog 27 ⟨BL,e1⟩ (kE a4 1 dS) [] (some (zl 1 3 (dS++[.int .i64 lab]),env)) (some (.ptr a4 1))=some (.skip,⟨env,⟨Bx.set a4 (.cells [aL,zl 1 3 (dS++[.int .i64 lab])] t4),vk e1 a4 (zl 1 3 (dS++[.int .i64 lab]))⟩,kE a4 1 dS,[]⟩):=λenv=>by
    rw[hBL];exact Vj Nr.st ha4 (by simp)
   refine wY (tk:=[41]) (by kernel_rfl) ?_
   apply Exists.intro;apply And.intro;refine qy (m:=0) (v:=.ptr a4 1) (by kernel_rfl) rfl (by simp only[BA,ak,ah,Nat.reduceAdd,e4,GC];rfl) (by kernel_rfl) (by kernel_rfl) (by kernel_rfl) ?_
   dsimp only[aq]
   refine yo (m:=1) (v:=zl 1 3 dS) (cs':=[⟨2,⟨BL,e1⟩,kE a4 1 dS,[]⟩,⟨0,⟨Bx,e1⟩,[],[]⟩]) (by kernel_rfl) rfl (by simp only[BA,ak,Nat.reduceAdd,za,Nat.reduceLT,hlen,mX];rfl) (by kernel_rfl) (by kernel_rfl) (by kernel_rfl) (λK=>?_) ?_
   rotate_left
   dsimp only[aq]
   refine kj (m:=0) (v:=.ptr bm 0) (by kernel_rfl) rfl (by simp only[BA,Nat.reduceEqDiff,ak,Nat.reduceAdd,za,bD,Nat.reduceLT,bw,e5,hlen,l5L];rfl) (by kernel_rfl) (by kernel_rfl) (by kernel_rfl) (wc λq hq=>by
    obtain rfl:=oG.1 hq;split
    ·exact iP (by simp only[BA,Nat.reduceEqDiff,ak,Nat.reduceAdd,za,bD,Nat.reduceLT,bw,e5,hlen,l5];rfl)
    ·rfl) ?_
   dsimp only[aq]
   refine qy (m:=0) (v:=cG m c) (by kernel_rfl) rfl (by simp only[BA,Nat.reduceEqDiff,ak,Nat.reduceAdd,za,bD,Nat.reduceLT,bw,e0,hlen,ni];rfl) (by kernel_rfl) (by kernel_rfl) (by kernel_rfl) ?_
   dsimp only[aq]
   refine yo (m:=12) (v:=.int .i64 lab) (cs':=[⟨18,⟨BL,e1⟩,kE a4 1 dS,[]⟩,⟨16,⟨Bx,e1⟩,[],[]⟩,⟨2,⟨BL,e1⟩,kE a4 1 dS,[]⟩,⟨0,⟨Bx,e1⟩,[],[]⟩]) (by kernel_rfl) rfl (by simp only[BA,Nat.reduceEqDiff,av,ak,aA,Nat.reduceAdd,za,bD,Nat.reduceLT,bw,hlen,ni,aaU];rfl) (by kernel_rfl) (by kernel_rfl) (by kernel_rfl) (λK=>?_) ?_
   rotate_left
   dsimp only[aq]
   refine qy (m:=28) (v:=.sl 1 [.int .i64 lab] (.yes 3)) (by kernel_rfl) rfl (by simp only[BA,Nat.reduceEqDiff,ak,Nat.reduceAdd,za,bD,Nat.reduceLT,bw,hlen,lU];rfl) (by kernel_rfl) (by kernel_rfl) (by kernel_rfl) ?_
   dsimp only[aq]
   refine kj (m:=63) (v:=zl 1 3 (dS++[.int .i64 lab])) (by kernel_rfl) rfl (by simp only[BA,Nat.reduceEqDiff,ak,Nat.reduceAdd,za,bD,Nat.reduceLT,bw,hlen,xR,fy,jT (cx:=⟨prog,gl.g,zj prog gl (n2+3),eu⟩) (show p_ prog eu 27=false by kernel_rfl)];rfl) (by kernel_rfl) (by kernel_rfl) (by kernel_rfl) (by kernel_rfl) ?_
   dsimp only[aq]
   refine qy (m:=127) (v:=.ptr a4 1) (by kernel_rfl) rfl (by simp only[BA,Nat.reduceEqDiff,ak,ah,Nat.reduceAdd,za,bD,Nat.reduceLT,bw,e4,hlen,GC];rfl) (by kernel_rfl) (by kernel_rfl) (by kernel_rfl) ?_
   dsimp only[aq]
   refine vg (m:=255) (cs':=[⟨274,⟨Bx.set a4 (.cells [aL,zl 1 3 (dS++[.int .i64 lab])] t4),vk e1 a4 (zl 1 3 (dS++[.int .i64 lab]))⟩,kE a4 1 dS,[]⟩,⟨18,⟨BL,e1⟩,kE a4 1 dS,[]⟩,⟨16,⟨Bx,e1⟩,[],[]⟩,⟨2,⟨BL,e1⟩,kE a4 1 dS,[]⟩,⟨0,⟨Bx,e1⟩,[],[]⟩]) (by kernel_rfl) rfl (by simp only[BA,Nat.reduceEqDiff,ak,Nat.reduceAdd,za,bD,Nat.reduceLT,bw,hlen,eZ];rfl) (by kernel_rfl) (by kernel_rfl) (λK=>?_) wZ
   ·refine j5 ?_ ?_ ?_ ?_
    ·kernel_rfl
    ·rfl
    ·intro c hc;simp only[dG,A8,AM] at hc;rcases hc with rfl|rfl|rfl<;>kernel_rfl
    ·kernel_rfl
   rotate_left
   ·refine j5 ?_ ?_ ?_ ?_
    ·kernel_rfl
    ·rfl
    ·intro c hc;simp at hc
    ·kernel_rfl
   ·refine ziT (e:=⟨0,⟨BL,e1⟩,kE a4 1 dS,[]⟩) 2 rfl ?_ ?_ ?_ ?_ ?_ ?_ ?_ ?_ ?_ ?_ ?_
    ·kernel_rfl
    ·rfl
    ·intro q hq;simp only[dG,A8,AM] at hq;rcases hq with rfl|rfl|rfl|rfl
     ·exact .inr ⟨rfl,.inl rfl⟩
     ·exact .inr ⟨rfl,.inr (by kernel_rfl)⟩
     ·exact .inl rfl
     ·exact .inr ⟨rfl,.inl rfl⟩
    ·rfl
    ·kernel_rfl
    ·simp only[Cx.ee,jr];simp only[BA,Nat.reduceEqDiff,av,ak,aA,Nat.reduceAdd,za,bD,Nat.reduceLT,bw,hlen,ni,aaT];rfl
    ·kernel_rfl
    ·kernel_rfl
    ·simp only[Cx.ee,jr];simp only[BA,ak,Nat.reduceAdd,za,Nat.reduceLT,hlen,mX]
    ·kernel_rfl
    ·exact zdQ
   simp only[aq];simp only[zh]
   refine zi ?_;simp only[BA,Nat.reduceEqDiff,ak,aq,Nat.reduceAdd,za,bD,Nat.reduceLT,bw,e8,hlen,go_ret,zq,Fx]
   refine⟨[.int .i64 (ws.length:Nat)],?_,rfl,vk e1 a4 (zl 1 3 (dS++[.int .i64 lab])),?_,?_⟩
   ·simp only[zx,za,bD,hlen];rfl
   ·have sL:B1.length=B.length:=by rw[AZ,bD]
    have ha:∀d x,nth B d=some x->d<B.length:=λd x h=>by rw[zg] at h;exact(cZ.1 h).1
    have q2:=ha _ _ h2;have q3:=ha _ _ h3;have q4:=ha _ _ h4;rw[Ki,Dx,Ht,GP _ _ (by omega),GP _ _ (by rw[bD];omega),GP _ _ (by rw[bD,bD];omega),AZ,<- AB]
    rfl
   ·have IG:(zl 1 3 (dS++[V.int .i64 lab])).top=0:=by rw[vZ];exact gC aaN rfl
    have he:vk e1 a4 (zl 1 3 (dS++[.int .i64 lab]))=e1:=by rw[vk,IG,if_pos (by omega)]
    rw[he,he1];intro e Ll;unfold vk at Ll;split at Ll
    ·cases Ll
    ·rw[oG.1 Ll];show(zl 1 205 (wait++[cG m c])).top<=_;rw[vZ];refine qK λv hv=>?_;rcases sw.1 hv with hv|hv
     ·exact cN (zn hv) Nt
     ·rw[oG.1 hv];simp only[cG,V.top];omega
 ·refine j5 ?_ ?_ ?_ ?_
  ·kernel_rfl
  ·rfl
  ·intro c hc;cases hc
  ·unfold Cx.fM;refine wc λq hq=>?_;simp only[dG,A8,AM] at hq;rcases hq with rfl|rfl|rfl|rfl|rfl|rfl
   ·kernel_rfl
   ·kernel_rfl
   ·kernel_rfl
   ·kernel_rfl
   ·split
    ·rfl
    ·split
     next h=>cases h
     ·refine O5 ?_;exact iP (by simp only[BA,ak,zd,ze,bS,bT,jr,ni,vY (cx:=⟨prog,gl.g,zj prog gl (n'+1),eu⟩) (a:=205) (b:=9) (show eu (vi 205)=true from rfl) rfl,GY];rfl)
   ·kernel_rfl
end
def yh(ws:bM)(w:Nat):bM:=match ku w 0 ws with|some _=>ws|none=>ws++[w]
def jF(ws:bM)(g:Nat->Nat):Nat->bM
 | 0=>ws
 | y+1=>yh (jF ws g y) (g y)
def zm(aL:Nat->Nat->Nat)(s0:Nat):Nat->bM
 | 0=>[s0]
 | i+1=>match (zm aL s0 i)[i]? with
  | some w=>jF (zm aL s0 i) (aL w) 256
  | none=>zm aL s0 i
def qY(ws:bM):Nat:=1+(ws.filter λw=>!(w == 0)).length
theorem zcH{w:Nat}:∀{ws:bM}{k i:Nat},ku w k ws=some i->k<=i/\ws[i - k]?=some w
 | [],k,i,h=>by simp[ku] at h
 | x::ws,k,i,h=>by
  simp only[ku] at h;split at h
  next e=>cases h;refine⟨dA _,?_⟩;rw[Cu,e];rfl
  ·obtain⟨h1,h2⟩:=zcH h;refine⟨by omega,?_⟩
   rw[show i - k=(i - (k+1))+1 by omega]
   exact h2
theorem w_{w:Nat}:∀{ws:bM}{k:Nat},ku w k ws=none ↔ w ∉ ws
 | [],k=>by simp[ku]
 | x::ws,k=>by
  simp only[ku,dG,not_or];split
  next e=>simp[e]
  next e=>rw[w_];exact⟨λh=>⟨λe'=>e e'.symm,h⟩,λh=>h.2⟩
theorem Vs{w:Nat}{rs:bM}:∀{ws:bM}{k i:Nat},ku w k ws=some i->ku w k (ws++rs)=some i
 | [],k,i,h=>by simp[ku] at h
 | x::ws,k,i,h=>by
  simp only[ku,bh] at h ⊢;split
  next e=>rw[if_pos e] at h;exact h
  next e=>rw[if_neg e] at h;exact Vs h
theorem zeo{w:Nat}:∀{ws:bM}{k:Nat},ku w k ws=none->ku w k (ws++[w])=some (k+ws.length)
 | [],k,_=>by simp[ku]
 | x::ws,k,h=>by
  simp only[ku,bh] at h ⊢;split
  next e=>rw[if_pos e] at h;cases h
  next e=>rw[if_neg e] at h;rw[zeo h];simp;omega
theorem zhZ{ws:bM}{w:Nat}:∃rs,yh ws w=ws++rs:=by
 unfold yh;split
 ·exact⟨[],by simp⟩
 ·exact⟨_,rfl⟩
theorem zna{ws:bM}{w:Nat}:∃i,ku w 0 (yh ws w)=some i:=by
 unfold yh;split
 next h=>exact⟨_,h⟩
 next h=>exact⟨_,zeo h⟩
theorem Vt{ws:bM}{g:Nat->Nat}{y:Nat}:∀d,∃rs,jF ws g (y+d)=jF ws g y++rs
 | 0=>⟨[],by simp⟩
 | d+1=>by
  obtain⟨r1,h1⟩:=Vt (ws:=ws) (g:=g) (y:=y) d;obtain⟨r2,h2⟩:=zhZ (ws:=jF ws g (y+d)) (w:=g (y+d));exact⟨r1++r2,by rw[<- p8];simp only[jF];rw[h2,h1,a_]⟩
theorem zfk{ws:bM}{g:Nat->Nat}(y:Nat):∃rs,jF ws g y=ws++rs:=by
 have:=Vt (ws:=ws) (g:=g) (y:=0) y;simpa[jF] using this
theorem znb{ws:bM}{g:Nat->Nat}{y b:Nat}(h:b<y):∃i,ku (g b) 0 (jF ws g (b+1))=some i/\ku (g b) 0 (jF ws g y)=some i:=by
 obtain⟨i,hi⟩:=zna (ws:=jF ws g b) (w:=g b);obtain⟨rs,h2⟩:=Vt (ws:=ws) (g:=g) (y:=b+1) (y - (b+1));rw[show b+1+(y - (b+1))=y by omega] at h2
 exact⟨i,hi,by rw[h2];exact Vs hi⟩
theorem zfl{aL:Nat->Nat->Nat}{s0 i:Nat}:∀d,∃rs,zm aL s0 (i+d)=zm aL s0 i++rs
 | 0=>⟨[],by simp⟩
 | d+1=>by
  obtain⟨r1,h1⟩:=zfl (aL:=aL) (s0:=s0) (i:=i) d;rw[<- p8];simp only[zm];split
  ·obtain⟨r2,h2⟩:=zfk (ws:=zm aL s0 (i+d)) (g:=aL _) 256;exact⟨r1++r2,by rw[h2,h1,a_]⟩
  ·exact⟨r1,h1⟩
theorem xy{aL:Nat->Nat->Nat}{s0 i j:Nat}(h:i<=j):∃rs,zm aL s0 j=zm aL s0 i++rs:=by
 have:=zfl (aL:=aL) (s0:=s0) (i:=i) (j - i)
 rwa [show i+(j - i)=j by omega] at this
theorem zep{ws rs:bM}:qY ws<=qY (ws++rs):=by simp[qY]
theorem Vu{ws:bM}(h:ws.Nodup):ws.length<=qY ws:=by
 have:∀l:bM,l.Nodup->l.length<=(l.filter λw=>!(w == 0)).length+(if 0∈l then 1 else 0):=by
  intro l
  induction l with
  | nil=>intro _;simp
  | cons x l ih =>
   intro h;obtain⟨h1,h2⟩:=List.nodup_cons.1 h;have:=ih h2
   by_cases e:x=0
   ·subst e;rw[if_neg h1] at this;simp at this ⊢;omega
   ·have e1:¬(0=x):=λh=>e h.symm;simp[e,e1] at this ⊢;omega
 have:=this ws h;unfold qY;split at this<;>omega
theorem ziV{ws:bM}{w:Nat}(h:ws.Nodup):(yh ws w).Nodup:=by
 unfold yh;split
 ·exact h
 ·rename_i e;refine List.nodup_append.2 ⟨h,by simp,?_⟩
  intro a ha b hb;rw[oG.1 hb];intro e';subst e';exact w_.1 e ha
theorem xM{ws:bM}{g:Nat->Nat}(h:ws.Nodup):∀y,(jF ws g y).Nodup
 | 0=>h
 | y+1=>ziV (xM h y)
theorem yV{aL:Nat->Nat->Nat}{s0:Nat}:∀i,(zm aL s0 i).Nodup
 | 0=>by simp[zm]
 | i+1=>by
  simp only[zm];split
  ·exact xM (yV i) _
  ·exact yV i
section
variable{gl:Gl}
def dV(bs:List aY)(bm m:Nat)(lab:Nat->Int)(N:aD)(ws:bM)(z:Bool)(wait:aD)(rest:List aY):List aY :=
 bs++(.cells [.ptr bm 0] 141::.cells [.aG,.aG] 66::.cells [zl 1 27 N,zl 1 3 (ws.map λw=>A2.ie (lab w))] 66::.map (vh m 0 ws)::.cells [.map (bs.length+3)] 207::.cells [.int .i64 (qY ws:Nat)] 3::.cells [m5 z 1 205 wait] 201::rest)
section
variable{bs:List aY}{bm m:Nat}{lab:Nat->Int}{N N':aD}{ws:bM}{z z':Bool}{wait:aD}{rest:List aY}{x:aY}{i:Nat}
theorem O6:(dV bs bm m lab N ws z wait rest).length=bs.length+7+rest.length:=by simp[dV];omega
theorem zgv{d:Nat}(h:d<bs.length):nth (dV bs bm m lab N ws z wait rest) d=nth bs d:=by
 rw[dV,zg,zg,gb h]
theorem wu{k:Nat}:nth (dV bs bm m lab N ws z wait rest) (bs.length+k)=nth (.cells [.ptr bm 0] 141::.cells [.aG,.aG] 66::.cells [zl 1 27 N,zl 1 3 (ws.map λw=>A2.ie (lab w))] 66::.map (vh m 0 ws)::.cells [.map (bs.length+3)] 207::.cells [.int .i64 (qY ws:Nat)] 3::.cells [m5 z 1 205 wait] 201::rest) k:=by
 rw[dV,zg,zg,fI (by omega)]
 congr 1
 omega
theorem KO:nth (dV bs bm m lab N ws z wait rest) bs.length=some (.cells [.ptr bm 0] 141):=wu (k:=0)
theorem BS:nth (dV bs bm m lab N ws z wait rest) (bs.length+7+i)=nth rest i:=by
 rw[show bs.length+7+i=bs.length+(i+1+1+1+1+1+1+1) by omega,wu];rfl
theorem BT:dV bs bm m lab N ws z wait rest++[x]=dV bs bm m lab N ws z wait (rest++[x]):=by simp[dV]
theorem zoX{xs:List aY}:dV bs bm m lab N ws z wait rest++xs=dV bs bm m lab N ws z wait (rest++xs):=by simp[dV]
theorem znc:(dV bs bm m lab N ws z wait rest).set (bs.length+7+i) x=dV bs bm m lab N ws z wait (rest.set i x):=by
 rw[dV,Aa _ _ (by omega),show bs.length+7+i - bs.length=i+1+1+1+1+1+1+1 by omega];rfl
theorem yi{l:List aY}{k:Nat}:(bs++l).set (bs.length+k) x=bs++l.set k x:=by
 rw[Aa _ _ (by omega)]
 congr 2
 omega
theorem znd{KP:aD}:(dV bs bm m lab N ws z wait rest).set (bs.length+6) (.cells [m5 z' 1 205 KP] 201)=dV bs bm m lab N ws z' KP rest:=yi
theorem zne:(dV bs bm m lab N ws z wait rest).set (bs.length+2) (.cells [zl 1 27 N',zl 1 3 (ws.map λw=>A2.ie (lab w))] 66)=dV bs bm m lab N' ws z wait rest:=yi
end
theorem zla{ws:bM}{w:Nat}:qY (ws++[w])=if w=0 then qY ws else qY ws+1:=by
 unfold qY
 by_cases h:w=0
 ·simp[h]
 ·simp[h];omega
theorem zoY{bs:List aY}{bm m c w:Nat}{lab:Nat->Int}{N wait:aD}{ws:bM}{z:Bool}{rest:List aY} :
  Ns (dV bs bm m lab N ws z wait rest) (bs.length+4) (bs.length+5) (bs.length+6) (bs.length+2) (bs.length+3) m c w (qY ws:Nat) ws wait (zl 1 27 N) (ws.map λw=>A2.ie (lab w)) (lab w) 3 201 66=dV bs bm m lab N (ws++[w]) z (wait++[cG m c]) rest:=by
 have hs:(if w=0 then ((qY ws:Nat):Int) else ((qY ws:Nat):Int)+1)=((qY (ws++[w]):Nat):Int):=by
  rw[zla];split<;>simp
 rw[Ns,hs,dV,yi,yi,yi,yi,dV];simp[A2.ie,zoW]
def KQ(ws:bM)(w:Nat)(wait:aD)(v:V):aD:=match ku w 0 ws with|some _=>wait|none=>wait++[v]
theorem zlb(hg:GS gl){z:Bool}{n bm m w c:Nat}{ws:bM}{wait N:aD}{mc:aD}{tM:aB}{f:A2.F}(hn:m+400<=n)(tW:wait.length<2 ^ 39)(hlb:ws.length<2 ^ 39)(Dr:0<m)(uR:m<2 ^ 36)(hw:w<2 ^ (8 * m))(DD:∀x∈ws,x<2 ^ (8 * m))(oN:f.s.2.length<2 ^ 40){bs rest:List aY}{es:aO}
  (hM:nth bs bm=some (.cells mc tM)) (DO:nth mc 0=some (A2.qv f.s)) (hc:nth rest c=some (.cells (dL m w) 5)) (Nt:aI wait<=bs.length+7+rest.length) :
  ∃iC j,zj prog gl (n+1) 111 [cG m (bs.length+7+c),.ptr (bs.length+4) 0,.ptr (bs.length+5) 0,.ptr (bs.length+6) 0,.ptr (bs.length+2) 0,.ptr bs.length 0] ⟨dV bs bm m (λw=>wl f.s.2.length (wk m w) (-1)) N ws z wait rest,es⟩=some (.ret (.int .i64 (j:Nat)),⟨dV bs bm m (λw=>wl f.s.2.length (wk m w) (-1)) N (yh ws w) z (KQ ws w wait (cG m (bs.length+7+c))) rest,iC⟩)/\ku w 0 (yh ws w)=some j:=by
 have B_:bm<bs.length:=by rw[zg] at hM;exact(cZ.1 hM).1
 have hcB:nth (dV bs bm m (λw=>wl f.s.2.length (wk m w) (-1)) N ws z wait rest) (bs.length+7+c)=some (.cells (dL m w) 5):=BS.trans hc;cases hx:ku w 0 ws with
 | some i =>
  refine⟨es,i,?_,?_⟩
  ·rw[yh,KQ,hx];exact zk8 hg hw DD (wu (k:=4)) (wu (k:=3)) hcB hx
  ·rw[yh,hx];exact hx
 | none =>
  have hcw:qY ws<2 ^ 40:=by
   have:=List.length_filter_le (λw=>!(w == 0)) ws;unfold qY;omega
  obtain⟨iC,h⟩:=zk9 hg (B:=dV bs bm m (λw=>wl f.s.2.length (wk m w) (-1)) N ws z wait rest) (es:=es) hn (by omega) (dS:=ws.map λw=>A2.ie (wl f.s.2.length (wk m w) (-1))) (by rw[gk];omega) Dr uR hw DD (sum:=(qY ws:Nat)) ⟨by omega,by omega⟩ oN (A2.lI (λ_=>rfl) _)
   (wu (k:=4)) (wu (k:=5)) (wu (k:=6)) (wu (k:=2)) KO ((zgv B_).trans hM) DO (wu (k:=3)) hcB
   (by simp only[List.nodup_cons,dG,A8,AM,not_or,List.nodup_nil,BY,uK];omega) hx (by rw[O6];exact Nt)
  refine⟨iC,ws.length,?_,?_⟩
  ·rw[h,zoY (lab:=λw=>wl f.s.2.length (wk m w) (-1)),yh,KQ,hx]
  ·rw[yh,hx];have:=zeo (k:=0) hx;rw[nY] at this;exact this
end
theorem Sv{w:Nat->Nat}:∀{Y y c:Nat},(fK w Y).2.1[y]?=some c->(fK w Y).1[c]?=some (w y)
 | 0,y,c,h=>by simp[fK] at h
 | Y+1,y,c,h=>by
  have hl:=OY (w:=w) Y;simp only[fK] at h ⊢;split at h
  ·rename_i i hi;rcases eM y Y with hy|hy
   ·rw[gb (by omega)] at h
    exact Sv h
   ·rw[fI (by omega)] at h
    have e:y - (fK w Y).2.1.length=0:=by
     have:=(cZ.1 h).1;simp at this;omega
    rw[e] at h;simp at h;subst h;obtain rfl:y=Y:=by omega
    have:=(zcH hi).2;simpa using this
  ·rename_i hi;rcases eM y Y with hy|hy
   ·rw[gb (by omega)] at h
    have:=Sv h;rw[gb (cZ.1 this).1];exact this
   ·rw[fI (by omega)] at h
    have e:y - (fK w Y).2.1.length=0:=by
     have:=(cZ.1 h).1;simp at this;omega
    rw[e] at h;simp at h;subst h;obtain rfl:y=Y:=by omega
    simp
theorem zeq{w:Nat->Nat}:∀Y,(fK w Y).2.2.length=(fK w Y).1.length
 | 0=>rfl
 | Y+1=>by
  simp only[fK];split
  ·exact zeq Y
  ·simp[zeq Y]
def tE(f:A2.F)(y:Nat):Nat:=pF f.s.2 y f.s.2.length
def HH(f:A2.F):bM:=(fK (tE f) 256).2.1
def Sw(f:A2.F):Nat:=(fK (tE f) 256).2.2.length
theorem zkb{f:A2.F}:(HH f).length=256:=OY 256
theorem znf{f:A2.F}{y c:Nat}(h:(HH f)[y]?=some c):c<Sw f:=by
 have:=(cZ.1 (Sv h)).1;rw[Sw,zeq];exact this
theorem zoZ{f:A2.F}:0<Sw f:=by
 have h0:0<(HH f).length:=by rw[zkb];exact Nat.succ_pos _
 exact K7 (ec _) (znf (gj h0))
theorem zql{f:A2.F}:Sw f<=256:=by
 have:∀(w:Nat->Nat) Y,(fK w Y).2.2.length<=Y:=by
  intro w Y
  induction Y with
  | zero=>exact dA _
  | succ Y ih =>
   simp only[fK];split
   ·exact K8 ih
   ·simp;omega
 exact this _ _
theorem zer{ss:List A2.Q4}{y k:Nat}{s:A2.Q4}:∀{K:Nat},k<K->ss[k]?=some s->(pF ss y K).testBit k=EA s y
 | 0,h,_=>by omega
 | K+1,h,hs=>by
  have hle:∀{K k},K<=k->(pF ss y K).testBit k=false:=by
   intro K
   induction K with
   | zero=>intro k _;simp[pF]
   | succ K ih =>
    intro k hk;have e:=ih (k:=k) (by omega)
    simp only[pF];split
    ·split
     ·rw[ud,e,E_];simp;omega
     ·exact e
    ·exact e
  simp only[pF];rcases eM k K with hk|hk
  ·have ih:=zer (y:=y) hk hs;split
   ·split
    ·rw[ud,ih,E_];have:¬K=k:=by omega
     simp[this]
    ·exact ih
   ·exact ih
  ·obtain rfl:k=K:=by omega
   rw[hs];simp only;split
   next h1=>rw[ud,E_,h1];simp
   next h1=>rw[hle (dA _)];simpa using h1
def pq(f:A2.F)(nx:aO)(m w y:Nat):Nat:=Cj f nx y (wk m w) 0
theorem zng{f:A2.F}{nx:aO}{y z k q:Nat}(h:tE f y=tE f z):xd f nx y k q=xd f nx z k q:=by
 unfold xd;cases hs:f.s.2[k]? with
 | none=>rfl
 | some s =>
  cases hp:nx[k]? with
  | none=>rfl
  | some p =>
   have hk:=(cZ.1 hs).1;have h1:=zer (y:=y) hk hs;have h2:=zer (y:=z) hk hs;have h3:(pF f.s.2 y f.s.2.length).testBit k=(pF f.s.2 z f.s.2.length).testBit k:=congrArg (λx=>Nat.testBit x k) h;simp only;rw[<- h1,<- h2,h3]
theorem zo0{f:A2.F}{nx:aO}{m w y z c:Nat}(h1:(HH f)[y]?=some c)(h2:(HH f)[z]?=some c):pq f nx m w y=pq f nx m w z:=by
 have h:tE f y=tE f z:=Ct ((Sv h1).symm.trans (Sv h2));have:∀(l:bM)(q:Nat),Cj f nx y l q=Cj f nx z l q:=by
  intro l
  induction l with
  | nil=>intro q;rfl
  | cons k l ih =>
   intro q;show Cj f nx y l (xd f nx y k q)=Cj f nx z l (xd f nx z k q);rw[zng h];exact ih _
 exact this _ _
theorem ziW{f:A2.F}{nx:aO}{m w y:Nat}(h:∀p∈nx,p.2<2 ^ (8 * m)):pq f nx m w y<2 ^ (8 * m):=by
 have:∀(l:bM)(q:Nat),q<2 ^ (8 * m)->Cj f nx y l q<2 ^ (8 * m):=by
  intro l
  induction l with
  | nil=>intro q hq;exact hq
  | cons k l ih =>
   intro q hq;refine ih _ ?_;show xd f nx y k q<_;unfold xd;split
   ·rename_i s p hs hp;split
    ·exact JL hq (h p (nB hp))
    ·exact hq
   ·exact hq
 exact this _ _ (Nat.pow_pos (by decide))
theorem zo1{ws:bM}{w B:Nat}(h:∀x∈ws,x<B)(hw:w<B):∀x∈yh ws w,x<B:=by
 intro x hx;unfold yh at hx;split at hx
 ·exact h x hx
 ·rcases sw.1 hx with hx|hx
  ·exact h x hx
  ·rw[oG.1 hx];exact hw
theorem zgw{ws:bM}{g:Nat->Nat}{B:Nat}(h:∀x∈ws,x<B)(hg:∀y,g y<B):∀y,∀x∈jF ws g y,x<B
 | 0=>h
 | y+1=>zo1 (zgw h hg y) (hg y)
theorem zes{aL:Nat->Nat->Nat}{s0 B:Nat}(h:s0<B)(hn:∀w y,aL w y<B):∀i,∀x∈zm aL s0 i,x<B
 | 0=>by simp[zm,h]
 | i+1=>by
  simp only[zm];split
  ·exact zgw (zes h hn i) (hn _) 256
  ·exact zes h hn i
def yj(aL:Nat->Nat->Nat)(s0 j:Nat):List Int:=match (zm aL s0 j)[j]? with
 | some w=>(List.range 256).map λy=>(((ku (aL w y) 0 (zm aL s0 (j+1))).getD 0:Nat):Int)
 | none=>[]
inductive WF(m:Nat)(rest:List aY):bM->bM->Prop
 |nil:WF m rest [] []
 |cons {w c:Nat} {ws cs:bM} (h:nth rest c=some (.cells (dL m w) 5)) (t:WF m rest ws cs):WF m rest (w::ws) (c::cs)
theorem WF.mono{m:Nat}{r r':List aY}(hr:∀c w,nth r c=some (.cells (dL m w) 5)->nth r' c=some (.cells (dL m w) 5)){ws cs:bM}(h:WF m r ws cs):WF m r' ws cs:=by
 induction h with
 | nil=>exact .nil
 | cons h _ ih=>exact .cons (hr _ _ h) ih
theorem WF.snoc{m:Nat}{r:List aY}{w c:Nat}(hc:nth r c=some (.cells (dL m w) 5)){ws cs:bM}(h:WF m r ws cs):WF m r (ws++[w]) (cs++[c]):=by
 induction h with
 | nil=>exact .cons hc .nil
 | cons h _ ih=>exact .cons h ih
theorem WF.len{m:Nat}{r:List aY}{ws cs:bM}(h:WF m r ws cs):cs.length=ws.length:=by
 induction h with
 | nil=>rfl
 | cons _ _ ih=>simp[ih]
theorem WF.lt{m:Nat}{r:List aY}{ws cs:bM}(h:WF m r ws cs):∀c∈cs,c<r.length:=by
 induction h with
 | nil=>simp
 | cons h _ ih =>
  intro c hc;rcases dG.1 hc with rfl|hc
  ·rw[zg] at h;exact(cZ.1 h).1
  ·exact ih c hc
section
def fZ(b k:Nat):V:=.sr (b+k) 0 256 256
def A5(b:Nat)(NB:bM)(dS:List Int):V:=.agg [aV (zl 1 27 (NB.map (fZ b))),aV (zl 1 3 (dS.map A2.ie))]
inductive RW(aL:Nat->Nat->Nat)(s0:Nat)(B:List aY)(b:Nat):Nat->bM->Prop
 |nil:RW aL s0 B b 0 []
 |snoc {i k:Nat} {NB:bM} (h:RW aL s0 B b i NB) (hk:∀j∈NB,j<k) (hb:nth B (b+k)=some (.cells ((yj aL s0 i).map A2.ie) 3)):RW aL s0 B b (i+1) (NB++[k])
theorem RW.mono{aL:Nat->Nat->Nat}{s0 b b' i:Nat}{B B':List aY}{NB:bM}(h:RW aL s0 B b i NB):(∀k x,k∈NB->nth B (b+k)=some x->nth B' (b'+k)=some x)->RW aL s0 B' b' i NB:=by
 induction h with
 | nil=>intro _;exact .nil
 | snoc h hk hb ih=>intro hm;exact .snoc (ih λk x hk=>hm k x (A7 _ hk)) hk (hm _ _ (by simp) hb)
theorem RW.len{aL:Nat->Nat->Nat}{s0 b i:Nat}{B:List aY}{NB:bM}(h:RW aL s0 B b i NB):NB.length=i:=by
 induction h with
 | nil=>rfl
 | snoc _ _ _ ih=>simp[ih]
theorem RW.lt{aL:Nat->Nat->Nat}{s0 b i:Nat}{B:List aY}{NB:bM}(h:RW aL s0 B b i NB):∀k∈NB,b+k<B.length:=by
 induction h with
 | nil=>simp
 | snoc h hk hb ih =>
  intro k hk;rcases sw.1 hk with hk|hk
  ·exact ih k hk
  ·rw[oG.1 hk];rw[zg] at hb;exact(cZ.1 hb).1
theorem kH{rest:List aY}{k d:Nat}{x y:aY}(h1:nth rest k=some x):nth (rest.set k y) d=if d=k then some y else nth rest d:=by
 have hk:k<rest.length:=by rw[zg] at h1;exact(cZ.1 h1).1
 rw[zg,zg,tL]
 by_cases e:k=d
 ·subst e;simp[hk]
 ·rw[if_neg e,if_neg (λe'=>e e'.symm)]
theorem vK{rest xs:List aY}{k:Nat}{x:aY}(h:nth rest k=some x):nth (rest++xs) k=some x:=by
 rw[zg] at h ⊢;rw[gb (cZ.1 h).1,h]
structure m6(m i kr c0 nc w:Nat)(aL:Nat->Nat->Nat)(s0:Nat)(cl ws NB:bM)(y yr:Nat)(rest:List aY)(W:bM)(R T:List Int):Prop where
 wf:WF m rest ((jF ws (aL w) y).drop (i+1)) W
 sV:nth rest c0=some (.cells (dL m w) 5)
 hR:nth rest kr=some (.cells (R.map A2.ie) 3)
 Rl:R.length=256
 Rv:∀b,b<yr->∃j:Nat,ku (aL w b) 0 (jF ws (aL w) y)=some j/\R[b]?=some (j:Int)
 hT:nth rest (kr+1)=some (.cells (T.map A2.ie) 3)
 Tl:T.length=nc
 Tv:∀(c:Nat)(v:Int),T[c]?=some v->(v = -1/\∀b,b<y->cl[b]?≠some c)\/∃b,b<y/\cl[b]?=some c/\∃j:Nat,v=j/\ku (aL w b) 0 (jF ws (aL w) y)=some j
 rw:RW aL s0 rest 0 i NB
 nb:∀k∈NB,k<kr
variable{m i kr c0 nc w:Nat}{aL:Nat->Nat->Nat}{s0:Nat}{cl ws NB:bM}{y yr:Nat}{rest:List aY}{W:bM}{R T:List Int}
theorem m6.app(h:m6 m i kr c0 nc w aL s0 cl ws NB y yr rest W R T)(xs:List aY):m6 m i kr c0 nc w aL s0 cl ws NB y yr (rest++xs) W R T :=
 {h with wf:=h.wf.mono λ_c _w e=>vK e,sV:=vK h.sV,hR:=vK h.hR,hT:=vK h.hT,rw:=h.rw.mono λ_k _x _ e=>vK e }
def Jw(ws:bM)(w:Nat)(W:bM)(c:Nat):bM:=match ku w 0 ws with|some _=>W|none=>W++[c]
theorem zh0{ws:bM}{x w j:Nat}(h:ku x 0 ws=some j):ku x 0 (yh ws w)=some j:=by
 obtain⟨rs,e⟩:=zhZ (ws:=ws) (w:=w);rw[e];exact Vs h
theorem zet{k d:Nat}{L:List Int}{u:Nat}(h1:nth rest k=some (.cells (L.map A2.ie) 3))(h2:nth rest d=some (.cells (dL m u) 5)):d≠k:=λe=>by
 subst e;rw[h1] at h2;exact absurd (aY.cells.inj (Ct h2)).2 (by decide)
theorem WF.set{k:Nat}{L:List Int}{x:aY}{us cs:bM}(h:WF m rest us cs)(h1:nth rest k=some (.cells (L.map A2.ie) 3)):WF m (rest.set k x) us cs :=
 h.mono λc u e=>by rw[kH h1,if_neg (zet h1 e),e]
theorem m6.new{c cn j:Nat}(h:m6 m i kr c0 nc w aL s0 cl ws NB y yr rest W R T)(gG:cl[y]?=some c)(KR:nth rest cn=some (.cells (dL m (aL w y)) 5))(hi:i+1<=(jF ws (aL w) y).length)
  (hj:ku (aL w y) 0 (yh (jF ws (aL w) y) (aL w y))=some j):m6 m i kr c0 nc w aL s0 cl ws NB (y+1) yr (rest.set (kr+1) (.cells ((T.set c (j:Int)).map A2.ie) 3)) (Jw (jF ws (aL w) y) (aL w y) W cn) R (T.set c (j:Int)):=by
 refine { wf:=WF.set (L:=T) ?_ h.hT,sV:=?_,hR:=?_,Rl:=h.Rl,Rv:=?_,hT:=?_,Tl:=?_,Tv:=?_,rw:=?_,nb:=h.nb }
 ·cases hx:ku (aL w y) 0 (jF ws (aL w) y) with
  | some k=>simp only[jF,yh,Jw,hx];exact h.wf
  | none =>
   simp only[jF,yh,Jw,hx];rw[List.drop_append_of_le_length hi];exact h.wf.snoc KR
 ·rw[kH h.hT,if_neg (zet h.hT h.sV),h.sV]
 ·rw[kH h.hT,if_neg (by omega),h.hR]
 ·intro b hb;obtain⟨j',h1,h2⟩:=h.Rv b hb;exact⟨j',zh0 h1,h2⟩
 ·rw[kH h.hT,if_pos rfl]
 ·rw[bD,h.Tl]
 ·intro d v hv;rw[tL] at hv
  by_cases e:c=d
  ·subst e;rw[if_pos rfl] at hv;split at hv
   ·cases hv;exact .inr ⟨y,HW _,gG,j,rfl,hj⟩
   ·cases hv
  ·rw[if_neg e] at hv;rcases h.Tv d v hv with⟨h1,h2⟩|⟨b,h1,h2,j',h3,h4⟩
   ·refine .inl ⟨h1,λb hb=>?_⟩;rcases eM b y with cY|cY
    ·exact h2 b cY
    ·obtain rfl:b=y:=by omega
     rw[gG];intro e';exact e (Ct e')
   ·exact .inr ⟨b,by omega,h2,j',h3,zh0 h4⟩
 ·refine h.rw.mono λk x hk e=>?_;rw[kH h.hT,if_neg,e];have:=h.nb k hk;omega
theorem m6.old{c:Nat}{v:Int}(h:m6 m i kr c0 nc w aL s0 cl ws NB y yr rest W R T)(gG:cl[y]?=some c)(hv:T[c]?=some v)(h0:¬v<0)(O7:∀b,cl[b]?=some c->aL w b=aL w y) :
  jF ws (aL w) (y+1)=jF ws (aL w) y/\m6 m i kr c0 nc w aL s0 cl ws NB (y+1) yr rest W R T:=by
 rcases h.Tv c v hv with⟨rfl,_⟩|⟨b,h1,h2,j,h3,h4⟩
 ·exact absurd (by decide) h0
 ·have e:jF ws (aL w) (y+1)=jF ws (aL w) y:=by
   rw[O7 b h2] at h4;simp only[jF,yh,h4]
  refine⟨e,{ wf:=by rw[e];exact h.wf,sV:=h.sV,hR:=h.hR,Rl:=h.Rl,Rv:=by rw[e];exact h.Rv,hT:=h.hT,Tl:=h.Tl,Tv:=?_,rw:=h.rw,nb:=h.nb }⟩
  intro d u hu;rw[e];rcases h.Tv d u hu with⟨g1,g2⟩|⟨b',g1,g2,g3⟩
  ·refine .inl ⟨g1,λb' cY=>?_⟩;rcases eM b' y with Sy|Sy
   ·exact g2 b' Sy
   ·obtain rfl:b'=y:=by omega
    rw[gG];intro e';have:c=d:=Ct e';subst this;exact g2 b h1 h2
  ·exact .inr ⟨b',by omega,g2,g3⟩
theorem m6.val{c:Nat}{v:Int}(h:m6 m i kr c0 nc w aL s0 cl ws NB (y+1) yr rest W R T)(gG:cl[y]?=some c)(hv:T[c]?=some v)(O7:∀b,cl[b]?=some c->aL w b=aL w y):∃j:Nat,v=j/\ku (aL w y) 0 (jF ws (aL w) (y+1))=some j:=by
 rcases h.Tv c v hv with⟨_,h2⟩|⟨b,h1,h2,j,h3,h4⟩
 ·exact absurd gG (h2 y (HW _))
 ·rw[O7 b h2] at h4;exact⟨j,h3,h4⟩
theorem m6.row{j:Nat}(h:m6 m i kr c0 nc w aL s0 cl ws NB (y+1) y rest W R T)(hy:y<256)(hj:ku (aL w y) 0 (jF ws (aL w) (y+1))=some j):m6 m i kr c0 nc w aL s0 cl ws NB (y+1) (y+1) (rest.set kr (.cells ((R.set y (j:Int)).map A2.ie) 3)) W (R.set y (j:Int)) T:=by
 refine { wf:=WF.set (L:=R) h.wf h.hR,sV:=?_,hR:=?_,Rl:=?_,Rv:=?_,hT:=?_,Tl:=h.Tl,Tv:=h.Tv,rw:=?_,nb:=h.nb }
 ·rw[kH h.hR,if_neg (zet h.hR h.sV),h.sV]
 ·rw[kH h.hR,if_pos rfl]
 ·rw[bD,h.Rl]
 ·intro b hb;rcases eM b y with cY|cY
  ·obtain⟨j',h1,h2⟩:=h.Rv b cY;exact⟨j',h1,by rw[tL,if_neg (by omega)];exact h2⟩
  ·obtain rfl:b=y:=by omega
   exact⟨j,hj,by rw[tL,if_pos rfl,if_pos (by rw[h.Rl];exact hy)]⟩
 ·rw[kH h.hR,if_neg (by omega),h.hT]
 ·refine h.rw.mono λk x hk e=>?_;rw[kH h.hR,if_neg,e];have:=h.nb k hk;omega
theorem m6.done(h:m6 m i kr c0 nc w aL s0 cl (zm aL s0 i) NB 256 256 rest W R T)(hw:(zm aL s0 i)[i]?=some w):RW aL s0 rest 0 (i+1) (NB++[kr])/\WF m rest ((zm aL s0 (i+1)).drop (i+1)) W:=by
 have e:zm aL s0 (i+1)=jF (zm aL s0 i) (aL w) 256:=by simp only[zm,hw]
 refine⟨.snoc h.rw h.nb ?_,by rw[e];exact h.wf⟩
 rw[nY,h.hR]
 congr 3
 apply Fa;intro b;rw[yj,hw];simp only;rcases eM b 256 with hb|hb
 ·obtain⟨j,h1,h2⟩:=h.Rv b hb;rw[h2,iX,GQ hb];simp only[aS,e,h1,fS]
 ·rw[uI (by rw[h.Rl];exact hb),uI (by rw[gk,List.length_range];exact hb)]
end
section
set_option pp.deepTerms true
set_option pp.maxSteps 200000
variable{gl:Gl}
structure MM(f:A2.F)(m:Nat)(nx:aO)(bs:List aY)(bm:Nat):Prop where
 mm:m=(f.s.2.length+f.f.2.length) / 8+1
 hs:∀q∈f.s.2,C9 q
 ns:f.s.2.length<2 ^ 30
 nf:f.f.2.length<2 ^ 30
 nxl:nx.length=f.s.2.length
 M:nth bs bm=some (.cells (nj f (nx.map λp=>cG m p.1) (xe (tE f) 256) (uC (tE f) 256)) 204)
 X:∀p∈nx,nth bs p.1=some (.cells (dL m p.2) 5)/\p.2<2 ^ (8 * m)
theorem Sz:qP prog 66=some (.agg [.aG,.aG]):=by kernel_rfl
theorem aa5:qP prog 201=some .aG:=by kernel_rfl
theorem aa6:qP prog 207=some .mw:=by kernel_rfl
theorem SA:z4 prog 207=some 1:=by kernel_rfl
theorem pW:qz prog 66=some true:=by kernel_rfl
theorem mO:z4 prog 66=some 2:=by kernel_rfl
theorem Nu:zB prog 66 0=some 0:=by kernel_rfl
theorem in3:∃i,prog.info? 3=some i/\i.bytes=8:=⟨_,rfl,rfl⟩
theorem SB{b i l c:Nat}(h:i<l):zp prog 27 (.sr b 0 l c) ((i:Nat):Int)=some (.ptr b i):=by
 simp only[zp,ED,uA];rw[if_pos (by omega)]
 simp
theorem zrL{b i:Nat}{l:List Int}(h:i<l.length):wz [] b i 1 ((l.map A2.ie).drop i)=true:=yp λk hk=>by
 obtain rfl:k=0:=by omega
 exact⟨A2.ie l[i],by rw[nZ,iX,gj h];rfl,rfl⟩
theorem SC:∀{k:Nat},(List.replicate k [V.int .i64 0]).flatten=(List.replicate k (0:Int)).map A2.ie
 | 0=>rfl
 | k+1=>by rw[HR,List.flatten_cons,SC,HR];rfl
section
variable{cx:Cx}{takes:cg}{dst:fJ}{type:aB}{pos:String}{after:Array Edge}{guard:pI}{env:aD}{H:Hp}{lk:aO}{df:bP}
def Vv(P:aQ)(t:aB)(x:b_)(lo hi:Option b_)(m:b_):b_ :=
 match lo,hi,x,m with
 | some lo,some (some (.int k1 h)),some (.sl sz xs o),some (.int _ k)=>if h<=k/\k<=xs.length then yX P t (.sl sz xs o) lo (some (.int k1 h)) else none
 | _,_,_,_=>none
theorem zo3{t:aB}{x m:aW}{lo hi:Option aW}:cx.op takes ⟨dst,.slice t x lo hi (some m),type,pos,after,guard⟩ env H lk df=iz env H lk df (Vv cx.P t (ak env x) (cQ env lo) (cQ env hi) (ak env m)):=by
 simp only[Cx.op];refine vS ?_;simp only[je];unfold Vv;cases cQ env lo with
 | none=>rfl
 | some lo =>
  cases cQ env hi with
  | none=>rfl
  | some hi =>
   cases ak env x with
   | none=>cases hi with
    | none=>rfl
    | some v=>cases v<;>rfl
   | some v =>
    cases ak env m with
    | none=>cases hi with
     | none=>cases v<;>rfl
     | some u=>cases u<;>cases v<;>rfl
    | some w=>cases hi with
     | none=>cases w<;>cases v<;>rfl
     | some u=>cases u<;>cases w<;>cases v<;>rfl
def SD(P:aQ)(t:aB)(x:Option (V×aD))(lo:Option b_)(H:Hp)(lk:aO)(df:bP):Option (OR×St) :=
 match P.underlying t,x,lo with
 | some (.slice e'),some (.sl sz xs (.yes e),env),some (some (.int _ i))=>match z4 P e' with
  | some n=>match Nat.beq n sz && decide (0<=i) && Nat.ble i.toNat xs.length with
   | true=>some (.val (.sl sz (xs.drop i.toNat) (.yes e)),⟨env,H,lk,df⟩)
   | false=>none
  | none=>none
 | _,_,_=>none
theorem znh{t:aB}{x:aW}{lo:Option aW}(hf:xA takes x lo none=true):cx.op takes ⟨dst,.slice t x lo none none,type,pos,after,guard⟩ env H lk df=SD cx.P t (take env x) (cQ env lo) H lk df:=by
 simp only[Cx.op,hf,Ld,SD];cases cx.P.underlying t with
 | none=>rfl
 | some d =>
  cases d<;>try rfl
  cases take env x with
  | none=>rfl
  | some p =>
   obtain⟨v,e⟩:=p;cases v<;>try rfl
   rename_i sz xs o;cases o<;>try rfl
   cases cQ env lo with
   | none=>rfl
   | some l =>
    cases l with
    | none=>rfl
    | some l =>
     cases l<;>try rfl
     simp only;cases z4 cx.P _ with
     | none=>rfl
     | some n =>
      simp only;generalize (Nat.beq n sz && _ && _)=bb;cases bb<;>rfl
end
structure Nv(b most:Nat)(FN:V)(env:aD):Prop where
 len:env.length=107
 e2:nth env 2=some (.int .i64 (most:Nat))
 e3:nth env 3=some (.ptr b 0)
 e6:nth env 6=some (.ptr (b+1) 0)
 e9:nth env 9=some (.ptr (b+2) 0)
 iW:nth env 11=some (.ptr (b+5) 0)
 oq:nth env 12=some (.ptr (b+6) 0)
 E3:nth env 13=some FN
theorem zlc{z:Bool}{n e:Nat}{x:V}{xs:aD}:aV (m5 z n e (x::xs))=.sl n (x::xs) .no:=by cases z<;>rfl
theorem zo4{v:V}{wt:aD}:Vv prog 201 (some (.sl 1 (v::wt) .no)) (some (some (.int .i64 0))) (some (some (.int .i64 1))) (some (.int .i64 1))=some (.sl 1 [v] .no):=by
 have h1:(1:Int)<=1/\(1:Int)<=(((v::wt).length:Nat):Int):=by simp only[aX];omega
 simp only[Vv,h1,and_self,aF];simp[yX,tq,j8]
theorem zrf{m c:Nat}:zp prog 201 (.sl 1 [cG m c] .no) 0=some (.vp [cG m c]):=by
 simp[zp,tq,cG,V.cells,nth]
theorem ziX{z:Bool}{v:V}{wt env:aD}{H:Hp}{lk:aO}{df:bP}:SD prog 201 (some (m5 z 1 205 (v::wt),env)) (some (some (.int .i64 1))) H lk df=some (.val (m5 true 1 205 wt),⟨env,H,lk,df⟩):=by
 rw[zm8];have hb:Nat.ble 1 (wt.length+1)=true:=K3 (by omega)
 simp[SD,zl,tq,m5,hb]
theorem zld{cx:Cx}{takes:cg}{dst:fJ}{type:aB}{pos:String}{after:Array Edge}{guard:pI}{env:aD}{H:Hp}{lk:aO}{df:bP}{t:aB}{k:Nat}{lo:aW}(hf:takes.any (Nat.beq (1048576+k))=true):cx.op takes ⟨dst,.slice t (.tmp k) (some lo) none none,type,pos,after,guard⟩ env H lk df=SD cx.P t (take env (.tmp k)) (cQ env (some lo)) H lk df:=znh hf
theorem aa7:prog.underlying 78=some (.slice 5):=by kernel_rfl
theorem zh1{H:Hp}{b o l c:Nat}:qX prog H 27 (.sr b o l c)=some (l:Int):=by simp only[qX,ED]
theorem Nw:mW prog 28 27 1 24:=⟨by kernel_rfl,by kernel_rfl,by kernel_rfl,by decide,by kernel_rfl,by kernel_rfl,by kernel_rfl⟩
theorem zqm{ws W:bM}{x c:Nat}{v:V}{f:Nat->V}(h:f c=v):KQ ws x (W.map f) v=(Jw ws x W c).map f:=by
 cases hx:ku x 0 ws with
 | some k=>simp only[KQ,Jw,hx]
 | none=>simp only[KQ,Jw,hx,List.map_append,bg,bp,h]
theorem vM{cx:Cx}{n:Nat}{Q:Ex->St->Prop}{k:List It}{BH:aD}{H0:Hp}{Hh:aO}{P:aD->Hp->Prop}(h:∀env H lk,P env H->go cx n Q k .normal ⟨env,H,lk,[]⟩)(h0:P BH H0):go cx n Q k .normal ⟨BH,H0,Hh,[]⟩:=h _ _ _ h0
def zpv(bs:List aY)(aL:Nat->Nat->Nat)(s0:Nat)(lab:Nat->Int)(most:Int)(v:V)(H:Hp):Prop :=
 (∃i NB bl es,0<i/\(zm aL s0 i).length=i/\(qY (zm aL s0 i):Int)<=most/\v=.br [A5 (bs.length+7) NB ((zm aL s0 i).map lab),.int .i64 (qY (zm aL s0 i):Nat),.bool true]/\H=⟨bs++bl,es⟩/\RW aL s0 (bs++bl) (bs.length+7) i NB) \/
 (∃i dS bl es z,most<(qY (zm aL s0 i):Int)/\v=.br [A5 (bs.length+7) [] dS,.int .i64 z,.bool false]/\H=⟨bs++bl,es⟩)
theorem zev{B:Nat}:∀{l:List Int}{q:Nat},(∀z∈l,z.toNat<B)->q<2 ^ B->wU l q<2 ^ B
 | [],q,_,hq=>hq
 | z::l,q,h,hq=>zev (l:=l) (λz hz=>h z (dU _ hz)) (JL hq (HP (by decide) (h z (eK ..))))
theorem zew{B:Nat}{rows:List A2.bW}(h:∀row∈rows,∀z∈row.2,z.toNat<B):∀{l:List Int}{q:Nat},q<2 ^ B->qc rows l q<2 ^ B
 | [],q,hq=>hq
 | r::l,q,hq=>by
  refine zew (l:=l) h ?_;refine zev (λz hz=>?_) hq;cases hr:rows[r.toNat]? with
  | none=>rw[hr] at hz;simp at hz
  | some row=>rw[hr] at hz;exact h row (nB hr) z hz
set_option maxHeartbeats 1000000 in
theorem zex(hg:GS gl){n bm m most:Nat}{f:A2.F}{nx:aO}{act:A2.bW}{bs:List aY}{es:aO}(hn:m+1000<=n)(uR:m<2 ^ 36)(ahz:most<=600)(hM:MM f m nx bs bm)
  (ha:∀r∈act.2,0<=r/\r.toNat<f.f.2.length) (hr:∀row∈f.f.2,row.2.length<n - 2/\row.2.length<2 ^ 60/\∀z∈row.2,0<=z/\z.toNat<f.s.2.length+f.f.2.length) (han:act.2.length<n - 2) (sQ:act.2.length<2 ^ 60) :
  ∃v H',zj prog gl (n+1) 74 [.ptr bm 0,A2.iv act,.int .i64 (most:Nat)] ⟨bs,es⟩=some (.ret v,H')/\zpv bs (pq f nx m) (qc f.f.2 act.2 0) (λw=>wl f.s.2.length (wk m w) (-1)) most v H':=by
 obtain⟨aL,uF⟩:∃x,x=pq f nx m:=⟨_,rfl⟩;obtain⟨s0,Em⟩:∃x,x=qc f.f.2 act.2 0:=⟨_,rfl⟩;obtain⟨lab,AB⟩:∃x:Nat->Int,x=λw=>wl f.s.2.length (wk m w) (-1):=⟨_,rfl⟩;rw[<- uF,<- Em,<- AB]
 suffices bL:(go ⟨prog,gl,zj prog gl n,eu⟩ n (Fx prog f74.results.toList λv H1=>zpv bs aL s0 lab most v H1) [.c (f74.body.getD .skip)] .normal ⟨[.ptr bm 0,A2.iv act,.int .i64 (most:Nat)]++List.replicate 104 (.br []),⟨bs,[]⟩,[],[]⟩) by
  obtain⟨v,H1,h0,hp⟩:=zQ (gl:=gl) (f:=74) (bs:=bs) (es:=es) (args:=[.ptr bm 0,A2.iv act,.int .i64 (most:Nat)]) (n:=n) (hg.hk _ _ (by decide)) (λH=>hg.fA _ _ _ _ (by decide)) func74 rfl (by rw[hg.uq];exact bL)
  rcases hp with⟨i,NB,bl,rH,q1,q2,q3,rfl,rfl,q6⟩|⟨i,dS,bl,rH,z,q1,rfl,rfl⟩
  ·obtain⟨k,hk⟩:∃k,k∈NB:=by
    cases NB with
    | nil=>have:=q6.len;simp at this;omega
    | cons k l=>exact⟨k,eK ..⟩
   have SE:zW bs.length es (V.br [A5 (bs.length+7) NB ((zm aL s0 i).map lab),.int .i64 (qY (zm aL s0 i):Nat),.bool true]).top ⟨bs++bl,rH⟩=⟨bs++bl,rH++es⟩:=by
    refine yL ?_;have h1:(fZ (bs.length+7) k).top<=aI (NB.map (fZ (bs.length+7))):=zn (mg.2 ⟨k,hk,rfl⟩);have h2:(aV (zl 1 27 (NB.map (fZ (bs.length+7))))).top=aI (NB.map (fZ (bs.length+7))):=by rw[jl,vZ]
    simp only[fZ,V.top] at h1;simp only[A5,V.top,aI,h2];omega
   exact⟨_,_,h0,.inl ⟨i,NB,bl,_,q1,q2,q3,rfl,SE,q6⟩⟩
  ·have hf:∃bl' iC,zW bs.length es (V.br [A5 (bs.length+7) [] dS,.int .i64 z,.bool false]).top ⟨bs++bl,rH⟩=⟨bs++bl',iC⟩:=by
    unfold zW;split
    ·exact⟨[],_,by rw[List.take_left,m7]⟩
    ·exact⟨bl,_,rfl⟩
   obtain⟨bl',iC,hf⟩:=hf;exact⟨_,_,h0,.inr ⟨i,dS,bl',iC,z,q1,rfl,hf⟩⟩
 have B_:bm<bs.length:=by have:=hM.M;rw[zg] at this;exact(cZ.1 this).1
 simp only[f74,fS,zh];refine zi ?_
 simp only[qx,aH,zh,wH,qO,z7,zL,qG,aj,jI,qd,aM,aq,aS,zc,aU,aX,List.length_nil,nY,a_,bh,aZ,zd,bS,bT,List.replicate,z8 (v:=.ptr bm 0) rfl,show V.laid (.ptr bm 0)=[.ptr bm 0] from rfl,Sz,zJ (show dz (V.agg [.aG,.aG])=true from rfl),V.cells]
 refine zi ?_
 simp only[qx,aH,zh,qO,aM,aq,zc,aU,aX,List.length_nil,nY,Nat.reduceAdd,a_,bh,aZ,bS,bT,Sz,zJ (show dz (V.agg [.aG,.aG])=true from rfl),V.cells]
 refine zi ?_;simp only[BA,ak,aq,zc,Nat.reduceAdd,zd,ze,bS,bT,zei,aa6,zJ (show dz V.mw=true from rfl),V.cells,zcG]
 have M3:∀env,qr prog 207 ⟨bs++[.cells [.ptr bm 0] 141,.cells [.aG,.aG] 66,.cells [.aG,.aG] 66,.map [],.cells [.mw] 207],[]⟩ [] [] (some (.map (bs.length+3),env)) (some (.ptr (bs.length+4) 0))=some (.skip,⟨env,⟨bs++[.cells [.ptr bm 0] 141,.cells [.aG,.aG] 66,.cells [.aG,.aG] 66,.map [],.cells [.map (bs.length+3)] 207],[]⟩,[],[]⟩):=λenv=>by
  rw[zy SA (cs:=[.mw]) (ty:=207) (Go.Vm.get_at.trans rfl) rfl rfl (by simp) rfl,jR (by simp[V.top])]
  simp only[Hp.set,yi];rfl
 simp only[M3,bu,aq]
 refine zi ?_;simp only[BA,ak,aj,aq,zc,Nat.reduceAdd,zd,ze,bS,bT,U_,zJ (show dz (V.int .i64 0)=true from rfl),V.cells]
 have CZ:∀env,qr prog 3 ⟨bs++[.cells [.ptr bm 0] 141,.cells [.aG,.aG] 66,.cells [.aG,.aG] 66,.map [],.cells [.map (bs.length+3)] 207,.cells [.int .i64 0] 3],[]⟩ [] [] (some (.int .i64 1,env)) (some (.ptr (bs.length+5) 0))=some (.skip,⟨env,⟨bs++[.cells [.ptr bm 0] 141,.cells [.aG,.aG] 66,.cells [.aG,.aG] 66,.map [],.cells [.map (bs.length+3)] 207,.cells [.int .i64 1] 3],[]⟩,[],[]⟩):=λenv=>by
  rw[zy uA (cs:=[.int .i64 0]) (ty:=3) (Go.Vm.get_at.trans rfl) rfl rfl (by simp) rfl,jR (by simp[V.top])]
  simp only[Hp.set,yi];rfl
 simp only[CZ,bu,aq]
 refine zi ?_;simp only[BA,aq,zc,Nat.reduceAdd,bS,bT,aa5,zJ (show dz V.aG=true from rfl),V.cells];refine zi ?_
 simp only[BA,av,ak,aq,zd,ze,bS,bT,U9];have F6:bs++[aY.cells [.ptr bm 0] 141,.cells [.aG,.aG] 66,.cells [.aG,.aG] 66,.map [],.cells [.map (bs.length+3)] 207,.cells [.int .i64 1] 3,.cells [.aG] 201]=dV bs bm m lab [] [] false [] []:=rfl
 rw[F6];have ni:∀c,aV (cG m c)=cG m c:=λ_=>rfl;obtain⟨FN,Vw⟩:∃F,F=V.fn (.func 111) [] [.ptr (bs.length+4) 0,.ptr (bs.length+5) 0,.ptr (bs.length+6) 0,.ptr (bs.length+2) 0,.ptr bs.length 0]:=⟨_,rfl⟩;have SF:aV FN=FN:=by rw[Vw];rfl
 have aa_:∀env t,qF env t (some FN)=some (FN,env):=λ_ _=>by rw[Vw];rfl
 have SG:∀v H,Cx.mz ⟨prog,gl.g,zj prog gl n,eu⟩ FN [v] H=Cx.bB ⟨prog,gl.g,zj prog gl n,eu⟩ 111 [aV v,.ptr (bs.length+4) 0,.ptr (bs.length+5) 0,.ptr (bs.length+6) 0,.ptr (bs.length+2) 0,.ptr bs.length 0] H:=λv H=>by rw[Vw,zef rfl];rfl
 rw[<- Vw];simp only[aa_,qd,aM,aq,bS,bT]
 have SH:f.s.2.length<2 ^ 40:=Nat.lt_trans hM.ns (by decide)
 have SI:s0<2 ^ (8 * m):=by
  rw[Em]
  exact zew (λrow cj z hz=>by
   have:=((hr row cj).2.2 z hz).2;have:=hM.mm
   omega) (Nat.pow_pos (by decide))
 have aa':0<m:=by have:=hM.mm;omega
 have Vx:∀N ws z wait rest,nth (dV bs bm m lab N ws z wait rest) bm=some (.cells (nj f (nx.map λp=>cG m p.1) (xe (tE f) 256) (uC (tE f) 256)) 204):=λ_ _ _ _ _=>(zgv B_).trans hM.M;have Jx:∀N ws z wait rest es,zk prog ⟨dV bs bm m lab N ws z wait rest,es⟩ gl.g 141 (.ptr bs.length 0)=some (.ptr bm 0):=λ_ _ _ _ _ _=>zt eS (show Hp.get _ _=_ from KO) rfl
 obtain⟨b7,HI⟩:∃b7,b7=bs.length+7:=⟨_,rfl⟩;obtain⟨n1,rfl⟩:∃n1,n=n1+1+1+1+1:=⟨n - 4,by omega⟩
 have GD:Cx.bB ⟨prog,gl.g,zj prog gl (n1+4),eu⟩ 113 [.ptr bm 0,A2.iv act] ⟨dV bs bm m lab [] [] false [] [],[]⟩=some (.val (cG m (bs.length+7+0)),⟨dV bs bm m lab [] [] false [] [.cells (dL m s0) 5],[]⟩):=by
  refine zu func113 rfl ?_;have:=zk5 hg (n:=n1+2) (es:=[]) (act:=act) (Nat.lt_trans hM.ns (by decide)) (Nat.lt_trans hM.nf (by decide)) hM.mm ha (λrow cj=>⟨by have:=(hr row cj).1;omega,(hr row cj).2⟩) (by omega) sQ (Vx [] [] false [] []) rfl rfl
  rw[BT,O6,<- Em] at this;exact this
 have GF:∀{ws:bM}{w c:Nat}{z:Bool}{wait N:aD}{rest:List aY}{es:aO},wait.length<2 ^ 39->ws.length<2 ^ 39->w<2 ^ (8 * m)->(∀x∈ws,x<2 ^ (8 * m))->nth rest c=some (.cells (dL m w) 5)->aI wait<=bs.length+7+rest.length ->
   ∃iC j,Cx.bB ⟨prog,gl.g,zj prog gl (n1+4),eu⟩ 111 [cG m (bs.length+7+c),.ptr (bs.length+4) 0,.ptr (bs.length+5) 0,.ptr (bs.length+6) 0,.ptr (bs.length+2) 0,.ptr bs.length 0] ⟨dV bs bm m lab N ws z wait rest,es⟩=some (.val (.int .i64 (j:Nat)),⟨dV bs bm m lab N (yh ws w) z (KQ ws w wait (cG m (bs.length+7+c))) rest,iC⟩)/\ku w 0 (yh ws w)=some j:=by
  intro ws w c z wait N rest es q1 q2 q3 q4 q5 q6;obtain⟨iC,j,h1,h2⟩:=zlb hg (z:=z) (n:=n1+3) (es:=es) (N:=N) (by omega) q1 q2 aa' uR q3 q4 SH hM.M rfl q5 q6
  rw[<- AB] at h1;exact⟨iC,j,zu func111 rfl h1,h2⟩
 obtain⟨rH,j1,hf1,hj1⟩:=GF (ws:=[]) (z:=false) (wait:=[]) (N:=[]) (es:=[]) (c:=0) (rest:=[.cells (dL m s0) 5]) (by simp) (by simp) SI (by simp) rfl (by simp[aI])
 refine zi ?_;simp only[BA,av,ak,aq,aA,Nat.reduceAdd,zd,ze,bS,bT,SF,Jx,A2.bC,GD,yM,wL,ni,SG,hf1]
 refine qj (λk s=>∃i env W z wait rest es NB lk,k+i=700/\s=⟨env,⟨dV bs bm m lab (NB.map (fZ b7)) (zm aL s0 i) z wait rest,es⟩,lk,[]⟩/\Nv bs.length most FN env/\wait=W.map (λc=>cG m (b7+c))/\WF m rest ((zm aL s0 i).drop i) W/\i<=(zm aL s0 i).length/\(qY (zm aL s0 i)<=most\/i=0)/\RW aL s0 rest 0 i NB) 700 (by omega) ?_ ?_
 ·refine⟨0,_,[0],_,_,_,_,[],_,rfl,rfl,⟨rfl,rfl,rfl,rfl,rfl,rfl,rfl,rfl⟩,by rw[HI];rfl,.cons rfl .nil,ec _,.inr rfl,.nil⟩
 clear hf1 hj1 rH j1 GD;rintro k s ⟨i,env,W,z,wait,rest,es,NB,Hh,hki,rfl,he,KS,hW,hi,rq,hR⟩;have hlen:=he.len;have Vq:wait.length=(zm aL s0 i).length - i:=by rw[KS,gk,hW.len,List.length_drop]
 have sA:=yV (aL:=aL) (s0:=s0) i;have gG:=Vu sA;have Jy:∀N ws z wait rest es,zk prog ⟨dV bs bm m lab N ws z wait rest,es⟩ gl.g 201 (.ptr (bs.length+6) 0)=some (m5 z 1 205 wait):=λ_ _ _ _ _ _=>zt ig (show Hp.get _ _=_ from wu (k:=6)) rfl
 have l3:∀N ws z wait rest es,zk prog ⟨dV bs bm m lab N ws z wait rest,es⟩ gl.g 3 (.ptr (bs.length+5) 0)=some (.int .i64 (qY ws:Nat)):=λ_ _ _ _ _ _=>zt iS (show Hp.get _ _=_ from wu (k:=5)) rfl;simp only[zh];refine zi ?_
 by_cases G0:i<(zm aL s0 i).length/\qY (zm aL s0 i)<=most
 ·obtain⟨Vy,aba⟩:=G0;have hd:decide ((0:Int)<((wait.length:Nat):Int))=true:=by simp;omega
  have AR:decide (((qY (zm aL s0 i):Nat):Int)<=((most:Nat):Int))=true:=by simp;omega
  simp only[BA,Nat.reduceEqDiff,ak,aj,aq,za,bD,Nat.reduceLT,bw,zd,ze,jZ,qg,jm,cA,wJ,hlen,he.oq,he.iW,he.e2,Jy,l3,tC,zen tn,w6,Of,gt_iff_lt,hd,AR];refine .inl ?_
  obtain⟨w,Vz⟩:∃w,(zm aL s0 i)[i]?=some w:=⟨_,gj Vy⟩;have eY:(zm aL s0 i).drop i=w::(zm aL s0 i).drop (i+1):=by
   obtain⟨h1,h2⟩:=cZ.1 Vz;rw[GO h1,h2]
  rw[eY] at hW;obtain⟨c0,W',rfl,sV,LX⟩:∃c0 W',W=c0::W'/\nth rest c0=some (.cells (dL m w) 5)/\WF m rest ((zm aL s0 i).drop (i+1)) W':=by
   cases hW with
   | cons h t=>exact⟨_,_,rfl,h,t⟩
  obtain⟨wt,tW⟩:∃wt,wt=W'.map λc=>cG m (b7+c):=⟨_,rfl⟩;obtain rfl:wait=cG m (b7+c0)::wt:=by rw[KS,tW];rfl
  refine zi ?_;simp only[BA,Nat.reduceEqDiff,ak,aj,aq,aE,za,bD,Nat.reduceLT,bw,hlen,he.oq,Jy,zo3,cQ,zlc,zo4,zrf,zpt,ni];have I2:∀N ws z wait rest,bs.length+6<(dV bs bm m lab N ws z wait rest).length:=λ_ _ _ _ _=>by rw[O6];omega
  have SJ:∀N ws z wait rest es env,vU prog 201 env ⟨dV bs bm m lab N ws z wait rest,es⟩ [] [] (some (.ptr (bs.length+6) 0))=some (.val (m5 z 1 205 wait),⟨env,⟨(dV bs bm m lab N ws z wait rest).set (bs.length+6) (.cells ([m5 z 1 205 wait].set 0 (HG z 1 wait)) 201),es⟩,E2 z (bs.length+6) 0 wait,[]⟩):=λ_ _ _ _ _ _ _=>zrd ig (wu (k:=6)) rfl
  have SK:∀N ws z wait rest es env,qr prog 201 ⟨(dV bs bm m lab N ws z wait rest).set (bs.length+6) (.cells ([m5 z 1 205 wait].set 0 (HG z 1 wait)) 201),es⟩ (E2 z (bs.length+6) 0 wait) [] (some (m5 true 1 205 wt,env)) (some (.ptr (bs.length+6) 0))=some (.skip,⟨env,⟨dV bs bm m lab N ws true wt rest,vk es (bs.length+6) (m5 true 1 205 wt)⟩,E2 z (bs.length+6) 0 wait,[]⟩):=λ_ _ _ _ _ _ _=>by
   rw[zre C'.st (I2 _ _ _ _ _) (by simp) rfl rfl]
   rw[show([m5 _ 1 205 _]:aD).set 0 (m5 true 1 205 wt)=[m5 true 1 205 wt] from rfl,znd]
  refine ww (tk:=[39,1048615]) (by kernel_rfl) ?_
  simp only[qx,aH,zh,zU,Nat.reduceEqDiff,ak,zL,aj,aM,bu,aq,ql,aF,za,bD,Nat.reduceLT,aF,bw,hlen,he.oq,ni,zfj,SJ,xn (takes:=[39,1048615]) (d:=39) rfl,zld (takes:=[39,1048615]) (k:=39) rfl,cQ,ziX,SK]
  obtain⟨i3,hi3,abb⟩:=in3;have Ds:∀(k:Nat)(N:aD)(ws:bM)(z:Bool)(wait:aD)(rest:List aY)(es:aO)(tk:cg)(dst:fJ)(ty:aB)(pos:String)(af:Array Edge)(env:aD)(lo:aW),0<k->k<=256->ak env lo=some (.int .i64 (k:Nat)) ->
    Cx.op ⟨prog,gl.g,zj prog gl (n1+4),eu⟩ tk ⟨dst,.makeSlice 27 lo lo,ty,pos,af,none⟩ env ⟨dV bs bm m lab N ws z wait rest,es⟩ [] []=some (.val (.sr (b7+rest.length) 0 k k),⟨env,⟨dV bs bm m lab N ws z wait (rest++[.cells ((List.replicate k (0:Int)).map A2.ie) 3]),es⟩,[],[]⟩):=by
   intro k N ws z wait rest es tk dst ty pos af env lo FZ Eb iy;rw[XM (k:=k) ED uA U_ rfl hi3 (by decide) rfl rfl iy iy (by rw[abb];exact dD (by omega) (by omega)) (by omega)]
   show some (OR.val (V.sr (dV bs bm m lab N ws z wait rest).length 0 k k),St.mk env ⟨dV bs bm m lab N ws z wait rest++[.cells (List.replicate k [V.int .i64 0]).flatten 3],es⟩ [] [])=_;rw[O6,BT,SC,HI]
  have KT:∀b o l c env t,qF env t (some (.sr b o l c))=some (.sr b o l c,env):=λ_ _ _ _ _ _=>rfl;have pX:∀b o l c,aV (.sr b o l c)=.sr b o l c:=λ_ _ _ _=>rfl
  refine vM (P:=λenv H=>∃es,H=⟨dV bs bm m lab (NB.map (fZ b7)) (zm aL s0 i) true wt rest,es⟩/\Nv bs.length most FN env/\nth env 14=some (cG m (b7+c0))) ?_ ⟨_,rfl,⟨by simp[hlen],by simp[za,he.e2],by simp[za,he.e3],by simp[za,he.e6],by simp[za,he.e9],by simp[za,he.iW],by simp[za,he.oq],by simp[za,he.E3]⟩,by simp[za,hlen]⟩
  clear he hlen es env;rintro env H lk ⟨es,rfl,he,th⟩;have hlen:=he.len;refine zi ?_;rw[qx,Ds 256 _ _ _ _ _ _ _ _ _ _ _ _ _ (by decide) (by decide) rfl]
  obtain⟨R0,hR0⟩:∃R0:List Int,R0=List.replicate 256 0:=⟨_,rfl⟩;rw[<- hR0];simp only[BA,aq,za,Nat.reduceLT,hlen,KT];obtain⟨KU,tG⟩:∃r,r=rest++[aY.cells (R0.map A2.ie) 3]:=⟨_,rfl⟩;rw[<- tG]
  have hLD:∀N ws z wait rest es,zk prog ⟨dV bs bm m lab N ws z wait rest,es⟩ gl.g 78 (.ptr bm 261)=some (uC (tE f) 256):=λ_ _ _ _ _ _=>zt DS (show Hp.get _ _=_ from Vx _ _ _ _ _) (zm5 (Vn (dA _)));obtain⟨nc,Ae,hnp,abc⟩:∃nc,nc=Sw f/\0<nc/\nc<=256:=⟨_,rfl,zoZ,zql⟩;have abd:∀H,qX prog H 78 (aV (uC (tE f) 256))=some ((nc:Nat):Int):=λH=>by
   rw[uC,Uq aa7,gk,Ae];rfl
  have abe:aV (aV (uC (tE f) 256))=aV (uC (tE f) 256):=qS;have SL:aa (V.ptr bm 0)=some (.ptr bm 0):=rfl;refine zi ?_;simp only[BA,Nat.reduceEqDiff,ak,aq,aa,ah,za,bD,Nat.reduceLT,bw,hlen,he.e3,Jx,DN,hLD,abe,abd]
  rw[Ds nc _ _ _ _ _ _ _ _ _ _ _ _ _ hnp abc (by simp[ak,za,hlen,aV])]
  simp only[BA,Nat.reduceEqDiff,aq,za,bD,Nat.reduceLT,bw,hlen,KT];obtain⟨T0,hT0⟩:∃T0:List Int,T0=List.replicate (nc) 0:=⟨_,rfl⟩;rw[<- hT0];obtain⟨x_,nS⟩:∃r,r=KU++[aY.cells (T0.map A2.ie) 3]:=⟨_,rfl⟩;rw[<- nS]
  obtain⟨kr,Lr⟩:∃k,k=rest.length:=⟨_,rfl⟩;have tU:KU.length=kr+1:=by rw[tG,Lr];simp
  rw[<- Lr,tU];have SM:nth x_ (kr+1)=some (.cells (T0.map A2.ie) 3):=by
   rw[nS,zg,fI (by omega),tU];simp
  have SN:nth x_ kr=some (.cells (R0.map A2.ie) 3):=by
   rw[nS,zg,gb (by omega),tG,fI (by omega),Lr];simp
  have LV:∀d,d<kr->nth x_ d=nth rest d:=λd hd=>by
   rw[nS,zg,zg,gb (by omega),tG,gb (by omega)]
  clear tG nS;have SO:∀{N:aD}{ws:bM}{z:Bool}{wait:aD}{rest:List aY}{es:aO}{k j:Nat}{L:List Int}{v:Int},nth rest k=some (.cells (L.map A2.ie) 3)->L[j]?=some v->zk prog ⟨dV bs bm m lab N ws z wait rest,es⟩ gl.g 3 (.ptr (b7+k) j)=some (.int .i64 v):=by
   intro N ws z wait rest es k j L v h1 h2;have r8:Hp.get ⟨dV bs bm m lab N ws z wait rest,es⟩ (b7+k)=some (.cells (L.map A2.ie) 3):=by
    show nth _ _=_;rw[HI,BS,h1]
   exact zt iS r8 (show nth (L.map A2.ie) j=_ by rw[zg,iX,h2];rfl)
  have Nx:∀{N:aD}{ws:bM}{z:Bool}{wait:aD}{rest:List aY}{es:aO}{k j:Nat}{L:List Int}{v:Int}{env:aD},nth rest k=some (.cells (L.map A2.ie) 3)->j<L.length->qr prog 3 ⟨dV bs bm m lab N ws z wait rest,es⟩ [] [] (some (.int .i64 v,env)) (some (.ptr (b7+k) j))=some (.skip,⟨env,⟨dV bs bm m lab N ws z wait (rest.set k (.cells ((L.set j v).map A2.ie) 3)),es⟩,[],[]⟩):=by
   intro N ws z wait rest es k j L v env h1 h2;have r8:Hp.get ⟨dV bs bm m lab N ws z wait rest,es⟩ (b7+k)=some (.cells (L.map A2.ie) 3):=by
    show nth _ _=_;rw[HI,BS,h1]
   rw[zy uA r8 rfl rfl (by rw[gk];omega) (zrL h2),jR (by simp[V.top])]
   show some (OR.skip,St.mk env ⟨(dV bs bm m lab N ws z wait rest).set (b7+k) _,es⟩ [] [])=_;rw[HI,znc];simp only[V.laid,Vm.storeCells,List.map_set];rfl
  have sj:∀{rest:List aY}{k d:Nat}{x y:aY},nth rest k=some x->nth (rest.set k y) d=if d=k then some y else nth rest d:=by
   intro rest k d x y h1;have hk:k<rest.length:=by rw[zg] at h1;exact(cZ.1 h1).1
   rw[zg,zg,tL]
   by_cases e:k=d
   ·subst e;simp[hk]
   ·rw[if_neg e,if_neg (λe'=>e e'.symm)]
  refine vM (P:=λenv H=>∃es,H=⟨dV bs bm m lab (NB.map (fZ b7)) (zm aL s0 i) true wt x_,es⟩/\Nv bs.length most FN env/\nth env 14=some (cG m (b7+c0))/\nth env 15=some (.sr (b7+kr) 0 256 256)/\nth env 16=some (.sr (b7+(kr+1)) 0 (nc) (nc))) ?_ ⟨_,rfl,⟨by simp[hlen],by simp[za,he.e2],by simp[za,he.e3],by simp[za,he.e6],by simp[za,he.e9],by simp[za,he.iW],by simp[za,he.oq],by simp[za,he.E3]⟩,by simp[za,th],by simp[za,hlen],by simp[za,hlen]⟩
  clear he hlen es env th;rintro env H lk ⟨es,rfl,he,th,uz,y_⟩;have hlen:=he.len;refine zi ?_;simp only[BA,ak,aj,aq,za,Nat.reduceLT,hlen,y_,pX,zh1]
  refine qj (λk2 s=>∃(j:Nat)(env:aD)(pY:List aY)(T:List Int),k2+j=nc/\s=⟨env,⟨dV bs bm m lab (NB.map (fZ b7)) (zm aL s0 i) true wt pY,es⟩,[],[]⟩/\Nv bs.length most FN env/\nth env 14=some (cG m (b7+c0))/\nth env 15=some (.sr (b7+kr) 0 256 256)/\nth env 16=some (.sr (b7+(kr+1)) 0 (nc) (nc))/\nth env 48=some (.sr (b7+(kr+1)) 0 (nc) (nc))/\nth env 49=some (.int .i64 (nc:Nat))/\nth env 50=some (.int .i64 (j:Nat))/\nth pY (kr+1)=some (.cells (T.map A2.ie) 3)/\(∀d,d<kr+1->nth pY d=nth x_ d)/\T.length=nc/\∀c,c<j->T[c]?=some (-1)) (nc) (by omega) ?_ ?_
  ·refine⟨0,_,x_,T0,rfl,rfl,⟨by simp[hlen],by simp[za,he.e2],by simp[za,he.e3],by simp[za,he.e6],by simp[za,he.e9],by simp[za,he.iW],by simp[za,he.oq],by simp[za,he.E3]⟩,by simp[za,th],by simp[za,uz],by simp[za,y_],by simp[za,hlen],by simp[za,hlen],by simp[za,hlen],SM,λ_ _=>rfl,by rw[hT0,List.length_replicate],λc hc=>by omega⟩
  clear he hlen env th uz y_;rintro k2 s ⟨j,env,pY,T,fA,rfl,he,th,uz,y_,KV,Jz,E4,hT,VB,hTl,hTn⟩;have hlen:=he.len;simp only[zh];refine zi ?_;simp only[BA,ak,aq,za,Nat.reduceLT,hlen,Jz,E4,qT]
  by_cases hj:j<nc
  ·refine .inl ⟨by simp;omega,?_⟩
   refine zi ?_;simp only[BA,Nat.reduceEqDiff,ak,aq,za,bD,Nat.reduceLT,bw,hlen,E4];refine zi ?_
   simp only[BA,Nat.reduceEqDiff,ak,aj,aq,aE,za,bD,Nat.reduceLT,bw,hlen,y_,pX,SB hj,Nx hT (show j<T.length by omega)]
   refine zi ?_;simp only[BA,Nat.reduceEqDiff,ak,aj,aq,za,bD,Nat.reduceLT,bw,hlen,E4,z6 (show j<2 ^ 60 by omega),zq,aN]
   refine⟨nc - 1 - j,by omega,j+1,_,_,T.set j (-1),by omega,rfl,⟨by simp[hlen],by simp[za,he.e2],by simp[za,he.e3],by simp[za,he.e6],by simp[za,he.e9],by simp[za,he.iW],by simp[za,he.oq],by simp[za,he.E3]⟩,by simp[za,th],by simp[za,uz],by simp[za,y_],by simp[za,KV],by simp[za,Jz],by simp[za,hlen],by rw[sj hT,if_pos rfl],λd hd=>by rw[sj hT,if_neg (by omega)];exact VB d hd,by rw[bD];exact hTl,λc hc=>?_⟩
   rw[tL]
   by_cases e:j=c
   ·subst e;simp[show j<T.length by omega]
   ·rw[if_neg e];exact hTn c (by omega)
  ·obtain rfl:nc=j:=by omega
   refine .inr ⟨by simp,?_⟩
   simp only[qm,zN,zD,zq,bI,zh,lK,aF]
   have SP:∀k∈NB,k<kr:=λk hk=>by have:=hR.lt k hk;omega
   have Ny:∀d,d<kr->nth pY d=nth rest d:=λd hd=>(VB d (by omega)).trans (LV d hd)
   have bR:∀{c u},nth rest c=some (.cells (dL m u) 5)->nth pY c=some (.cells (dL m u) 5):=λ{c u} h=>by
    have:c<kr:=by rw[Lr];rw[zg] at h;exact(cZ.1 h).1
    rw[Ny c this,h]
   have hI0:m6 m i kr c0 nc w aL s0 (HH f) (zm aL s0 i) NB 0 0 pY W' R0 T :=
    {wf:=LX.mono λc u h=>bR h,sV:=bR sV,hR:=(VB kr (by omega)).trans SN,Rl:=by rw[hR0,List.length_replicate],Rv:=λb hb=>by omega,hT:=hT,Tl:=hTl
     Tv:=λc v hv=>.inl ⟨by
      have hc:c<T.length:=(cZ.1 hv).1;rw[hTn c (by omega)] at hv
      exact(Ct hv).symm,λb hb=>by omega⟩
     rw:=hR.mono λk x hk h=>by rw[nY] at h ⊢;rw[Ny k (SP k hk),h]
     nb:=SP }
   refine zi ?_;simp only[BA,Nat.reduceEqDiff,ak,aj,aq,za,bD,Nat.reduceLT,bw,hlen,uz,pX,zh1]
   refine qj (λk3 s=>∃(y:Nat)(env:aD)(ga:List aY)(W2:bM)(R2 T2:List Int)(es:aO),k3+y=256/\s=⟨env,⟨dV bs bm m lab (NB.map (fZ b7)) (jF (zm aL s0 i) (aL w) y) true (W2.map λc=>cG m (b7+c)) ga,es⟩,[],[]⟩/\Nv bs.length most FN env/\nth env 14=some (cG m (b7+c0))/\nth env 15=some (.sr (b7+kr) 0 256 256)/\nth env 16=some (.sr (b7+(kr+1)) 0 nc nc)/\nth env 58=some (.int .i64 ((256:Nat):Int))/\nth env 59=some (.int .i64 (y:Nat))/\qY (jF (zm aL s0 i) (aL w) y)<=most/\m6 m i kr c0 nc w aL s0 (HH f) (zm aL s0 i) NB y y ga W2 R2 T2) 256 (by omega) ?_ ?_
   ·exact⟨0,_,pY,W',R0,T,_,rfl,by rw[tW];rfl,⟨by simp[hlen],by simp[za,he.e2],by simp[za,he.e3],by simp[za,he.e6],by simp[za,he.e9],by simp[za,he.iW],by simp[za,he.oq],by simp[za,he.E3]⟩,by simp[za,th],by simp[za,uz],by simp[za,y_],by simp[za,hlen],by simp[za,hlen],aba,hI0⟩
   clear he hlen env th uz y_ KV Jz E4 hI0 hT VB Ny hTl hTn bR T pY SM SN LV hT0 sV LX;rintro k3 s ⟨y,env,ga,W2,R2,T2,es,C1,rfl,he,th,uz,y_,uD,Nz,nV,hI⟩;have hlen:=he.len;simp only[zh];refine zi ?_
   simp only[BA,ak,aq,za,Nat.reduceLT,hlen,uD,Nz,qT]
   by_cases hy:y<256
   ·refine .inl ⟨by simp;omega,?_⟩
    obtain⟨c,hc⟩:∃c,(HH f)[y]?=some c:=⟨_,gj (by rw[zkb];exact hy)⟩
    have KR:c<nc:=by rw[Ae];exact znf hc
    obtain⟨v,hv⟩:∃v,T2[c]?=some v:=⟨_,gj (by rw[hI.Tl];exact KR)⟩
    have O7:∀b,(HH f)[b]?=some c->aL w b=aL w y:=λb hb=>by rw[uF];exact zo0 hb hc
    have FQ:∀N ws z wait rest es,zk prog ⟨dV bs bm m lab N ws z wait rest,es⟩ gl.g 3 (.ptr bm (5+y))=some (.int .i64 (c:Nat)):=λN ws z wait rest es=>by
     refine zt iS (cs:=nj f (nx.map λp:Nat×Nat=>cG m p.1) (xe (tE f) 256) (uC (tE f) 256)) (ty:=204) (show Hp.get ⟨dV bs bm m lab N ws z wait rest,es⟩ bm=_ from Vx _ _ _ _ _) ?_;rw[zg,zka (by rw[Vn (dA _)];exact hy)]
     rw[xe,gb (by rw[gk];exact(cZ.1 hc).1),iX]
     rw[show(fK (tE f) 256).2.1[y]?=some c from hc];rfl
    refine zi ?_;simp only[BA,Nat.reduceEqDiff,ak,aq,za,bD,Nat.reduceLT,bw,hlen,Nz];refine zi ?_
    simp only[BA,Nat.reduceEqDiff,ak,aq,aa,ah,aE,za,bD,Nat.reduceLT,bw,hlen,he.e3,Jx,Az,ziR hy,FQ];refine zi ?_
    simp only[BA,Nat.reduceEqDiff,ak,aj,aq,aE,za,bD,Nat.reduceLT,bw,hlen,y_,pX,SB KR,SO hI.hT hv,qT]
    let PP:aD->Hp->Prop:=λenv H=>∃(pZ:List aY)(W3:bM)(T3:List Int)(es:aO),H=⟨dV bs bm m lab (NB.map (fZ b7)) (jF (zm aL s0 i) (aL w) (y+1)) true (W3.map λc=>cG m (b7+c)) pZ,es⟩/\Nv bs.length most FN env/\nth env 14=some (cG m (b7+c0))/\nth env 15=some (.sr (b7+kr) 0 256 256)/\nth env 16=some (.sr (b7+(kr+1)) 0 nc nc)/\nth env 18=some (.int .i64 (y:Nat))/\nth env 19=some (.int .i64 (c:Nat))/\nth env 58=some (.int .i64 ((256:Nat):Int))/\nth env 59=some (.int .i64 (y:Nat))/\qY (jF (zm aL s0 i) (aL w) (y+1))<=most/\m6 m i kr c0 nc w aL s0 (HH f) (zm aL s0 i) NB (y+1) y pZ W3 R2 T3
    have abi:aL w y<2 ^ (8 * m):=by rw[uF];exact ziW λp hp=>(hM.X p hp).2
    have abj:∀x∈jF (zm aL s0 i) (aL w) y,x<2 ^ (8 * m):=zgw (zes SI (λw y=>by rw[uF];exact ziW λp hp=>(hM.X p hp).2) i) (λy=>by rw[uF];exact ziW λp hp=>(hM.X p hp).2) y
    have NA:v<0\/¬v<0:=Decidable.em _;rcases NA with NA|NA
    rotate_left
    obtain⟨M4,hI1⟩:=hI.old hc hv NA O7;refine .inr ⟨by simpa using NA,?_⟩
    try simp only[bz]
    refine vM (P:=PP) ?_ ⟨ga,W2,T2,_,by rw[M4],⟨by simp[hlen],by simp[za,he.e2],by simp[za,he.e3],by simp[za,he.e6],by simp[za,he.e9],by simp[za,he.iW],by simp[za,he.oq],by simp[za,he.E3]⟩,by simp[za,th],by simp[za,uz],by simp[za,y_],by simp[za,hlen],by simp[za,hlen],by simp[za,uD],by simp[za,Nz],by rw[M4];exact nV,hI1⟩
    rotate_left
    refine .inl ⟨by simpa using NA,?_⟩
    obtain⟨X4,hX4⟩:∃X4:List aY,X4=[.cells [.ptr bm 0] 141,.cells [.int .u8 (y:Nat)] 5,.cells (dL m (aL w y)) 5,.cells [cG m (b7+ga.length+2)] 205]:=⟨_,rfl⟩;have VC:=hI.app X4;obtain⟨pZ,Da⟩:∃r,r=ga++X4:=⟨_,rfl⟩;rw[<- Da] at VC;have SQ:nth pZ (ga.length+2)=some (.cells (dL m (aL w y)) 5):=by
     rw[Da,hX4,zg,fI (by omega),NM];rfl
    have NC:∀es,Cx.bB ⟨prog,gl.g,zj prog gl (n1+4),eu⟩ 114 [.ptr bm 0,cG m (b7+c0),.int .u8 (y:Nat)] ⟨dV bs bm m lab (NB.map (fZ b7)) (jF (zm aL s0 i) (aL w) y) true (W2.map λc=>cG m (b7+c)) ga,es⟩=some (.val (cG m (b7+(ga.length+2))),⟨dV bs bm m lab (NB.map (fZ b7)) (jF (zm aL s0 i) (aL w) y) true (W2.map λc=>cG m (b7+c)) pZ,es⟩):=λes=>by
     refine zu func114 rfl ?_
     have:=zk3 hg (n:=n1) (bm:=bm) (b:=b7+c0) (m:=m) (w:=w) (y:=y) (f:=f) (nx:=nx) (es:=es) uR (by omega) (by omega) hy hM.hs (Nat.lt_trans hM.ns (by decide)) (Nat.lt_trans hM.nf (by decide)) hM.mm hM.nxl (Vx (NB.map (fZ b7)) (jF (zm aL s0 i) (aL w) y) true (W2.map λc=>cG m (b7+c)) ga) rfl rfl rfl (λp hp=>by
      obtain⟨h1,h2⟩:=hM.X p hp;refine⟨?_,h2⟩;have bR:p.1<bs.length:=by rw[zg] at h1;exact(cZ.1 h1).1
      rw[zgv bR,h1]) (by rw[HI,BS,hI.sV])
     rw[this,zoX,O6,Da,hX4,uF,HI,p8];rfl
    obtain⟨Ew,j6,MC,hj6⟩:=GF (ws:=jF (zm aL s0 i) (aL w) y) (w:=aL w y) (c:=ga.length+2) (z:=true) (wait:=W2.map λc=>cG m (b7+c)) (N:=NB.map (fZ b7)) (rest:=pZ) (es:=es) (by
     rw[gk,hI.wf.len,List.length_drop];have:=Vu (xM (g:=aL w) sA y);omega) (by
     have:=Vu (xM (g:=aL w) sA y);omega) abi abj SQ (qK λv hv=>by
      obtain⟨d,hd,rfl⟩:=mg.1 hv;have:=VC.wf.lt d hd
      simp only[cG,V.top];omega)
    have hwN:KQ (jF (zm aL s0 i) (aL w) y) (aL w y) (W2.map λc=>cG m (b7+c)) (cG m (bs.length+7+(ga.length+2)))=(Jw (jF (zm aL s0 i) (aL w) y) (aL w y) W2 (ga.length+2)).map λc=>cG m (b7+c):=by
     rw[HI];exact zqm rfl
    rw[hwN,<- HI] at MC;have gv:i+1<=(jF (zm aL s0 i) (aL w) y).length:=by
     obtain⟨rs,e⟩:=zfk (ws:=zm aL s0 i) (g:=aL w) y;rw[e,aU];omega
    have hI6:=VC.new hc SQ gv hj6;have hcT:c<T2.length:=by rw[hI.Tl];exact KR
    refine zi ?_;simp only[BA,Nat.reduceEqDiff,av,ak,aq,aE,aA,Nat.reduceAdd,za,bD,Nat.reduceLT,bw,hlen,y_,th,he.e3,he.E3,pX,ni,SF,Jx,vT (a:=3) (b:=5) (hm:=rfl),show eu (vi 3)=false from rfl,ziS hy,NC,yM,wL,SG,MC,SB KR,Nx VC.hT hcT]
    have abk:yh (jF (zm aL s0 i) (aL w) y) (aL w y)=jF (zm aL s0 i) (aL w) (y+1):=rfl;rw[abk];have GG:zm aL s0 (i+1)=jF (zm aL s0 i) (aL w) 256:=by simp only[zm,Vz]
    refine zi ?_;simp only[BA,Nat.reduceEqDiff,ak,aq,za,bD,Nat.reduceLT,bw,hlen,he.iW,he.e2,l3,w6,gt_iff_lt];rcases Decidable.em (most<qY (jF (zm aL s0 i) (aL w) (y+1))) with Y9|Y9
    ·refine .inl ⟨by simp;omega,?_⟩
     have DU:∀N ws z wait rest es env,qr prog 66 ⟨dV bs bm m lab N ws z wait rest,es⟩ [] [] (some (.agg [.aG,.aG],env)) (some (.ptr (bs.length+1) 0))=some (.skip,⟨env,⟨dV bs bm m lab N ws z wait rest,es⟩,[],[]⟩):=λN ws z wait rest es env=>by
      have r8:Hp.get ⟨dV bs bm m lab N ws z wait rest,es⟩ (bs.length+1)=some (.cells [.aG,.aG] 66):=wu (k:=1);rw[zy mO r8 rfl rfl (by simp) rfl,jR (by simp[V.top,aI])]
      show some (OR.skip,St.mk env ⟨(dV bs bm m lab N ws z wait rest).set (bs.length+1) (.cells [.aG,.aG] 66),es⟩ [] [])=_;rw[jW r8]
     have JA:∀N ws z wait rest es,zk prog ⟨dV bs bm m lab N ws z wait rest,es⟩ (λ_ _=>none) 66 (.ptr (bs.length+1) 0)=some (.agg [.aG,.aG]):=λN ws z wait rest es=>by
      have r8:Hp.get ⟨dV bs bm m lab N ws z wait rest,es⟩ (bs.length+1)=some (.cells [.aG,.aG] 66):=wu (k:=1);rw[jU,r8,jx,qu,pW,mO];rfl
     have abl:∀env,ky prog 66 #[] env=some (.agg [.aG,.aG]):=λenv=>by kernel_rfl
     refine wY (tk:=[]) (by kernel_rfl) ?_
     apply Exists.intro;apply And.intro;refine qy (m:=0) (v:=.agg [.aG,.aG]) (by kernel_rfl) rfl (by simp only[BA,abl];rfl) (by kernel_rfl) (by kernel_rfl) (by kernel_rfl) ?_
     dsimp only[aq]
     refine kj (m:=0) (v:=.int .i64 (qY (jF (zm aL s0 i) (aL w) (y+1)):Nat)) (by kernel_rfl) rfl (by simp only[BA,Nat.reduceEqDiff,ak,za,bD,Nat.reduceLT,bw,hlen,he.iW,l3];rfl) (by kernel_rfl) (by kernel_rfl) (by kernel_rfl) (by kernel_rfl) ?_
     dsimp only[aq]
     refine vg (m:=1) (cs':=[⟨4,⟨dV bs bm m lab (NB.map (fZ b7)) (jF (zm aL s0 i) (aL w) (y+1)) true ((Jw (jF (zm aL s0 i) (aL w) y) (aL w y) W2 (ga.length+2)).map λc=>cG m (b7+c)) (pZ.set (kr+1) (aY.cells (List.map A2.ie (T2.set c (j6:Int))) 3)),Ew⟩,[],[]⟩,⟨0,⟨dV bs bm m lab (NB.map (fZ b7)) (jF (zm aL s0 i) (aL w) (y+1)) true ((Jw (jF (zm aL s0 i) (aL w) y) (aL w y) W2 (ga.length+2)).map λc=>cG m (b7+c)) (pZ.set (kr+1) (aY.cells (List.map A2.ie (T2.set c (j6:Int))) 3)),Ew⟩,[],[]⟩]) (by kernel_rfl) rfl (by simp only[BA,Nat.reduceEqDiff,ak,za,bD,Nat.reduceLT,bw,hlen,he.e6,DU];rfl) (by kernel_rfl) (by kernel_rfl) (λK=>?_) ?_
     rotate_left
     dsimp only[aq]
     refine qy (m:=7) (v:=.int .i64 (qY (jF (zm aL s0 i) (aL w) (y+1)):Nat)) (by kernel_rfl) rfl (by simp only[BA,Nat.reduceEqDiff,za,bD,Nat.reduceLT,bw,hlen];rfl) (by kernel_rfl) (by kernel_rfl) (by kernel_rfl) ?_
     dsimp only[aq]
     refine qy (m:=15) (v:=.bool false) (by kernel_rfl) rfl (by simp only[BA,aj];rfl) (by kernel_rfl) (by kernel_rfl) (by kernel_rfl) wZ
     ·simp only[aq];simp only[go_ret,zq,Fx,wh,wm,l8]
      refine⟨trivial,[.agg [.aG,.aG],.int .i64 (qY (jF (zm aL s0 i) (aL w) (y+1)):Nat),.bool false],?_,.inr ⟨i+1,[],_,_,_,?_,rfl,rfl⟩⟩
      ·simp only[zx,za,bD,hlen,Nat.reduceLT,Nat.reduceEqDiff,aF,bw,he.e6,JA,qW]
      ·rw[GG];obtain⟨rs,e⟩:=Vt (ws:=zm aL s0 i) (g:=aL w) (y:=y+1) (256 - (y+1));rw[show y+1+(256 - (y+1))=256 by omega] at e
       have:=zep (ws:=jF (zm aL s0 i) (aL w) (y+1)) (rs:=rs);rw[e];omega
     ·refine j5 ?_ ?_ ?_ ?_
      ·kernel_rfl
      ·rfl
      ·intro c hc;cases hc
      ·unfold Cx.fM;refine wc λq hq=>?_;simp only[dG,A8,AM] at hq;rcases hq with rfl|rfl
       ·split
        ·rfl
        ·split
         next h=>cases h
         ·refine O5 ?_;exact iP (by simp only[BA,Nat.reduceEqDiff,ak,za,bD,Nat.reduceLT,bw,jr,hlen,he.iW,l3];rfl)
       ·kernel_rfl
    refine .inr ⟨by simp;omega,?_⟩
    try simp only[bz]
    refine vM (P:=PP) ?_ ⟨_,_,_,_,rfl,⟨by simp[hlen],by simp[za,he.e2],by simp[za,he.e3],by simp[za,he.e6],by simp[za,he.e9],by simp[za,he.iW],by simp[za,he.oq],by simp[za,he.E3]⟩,by simp[za,th],by simp[za,uz],by simp[za,y_],by simp[za,hlen],by simp[za,hlen],by simp[za,uD],by simp[za,Nz],by omega,hI6⟩
    all_goals
     clear hI hv NA th uz y_ uD Nz hlen he nV;rintro env H lk ⟨pZ,W3,T3,es,rfl,he,th,uz,y_,e18,e19,uD,Nz,nV,hI⟩;have hlen:=he.len;obtain⟨v,hv⟩:∃v,T3[c]?=some v:=⟨_,gj (by rw[hI.Tl];exact KR)⟩
     obtain⟨j7,rfl,hj7⟩:=hI.val hc hv O7;have hyR:y<R2.length:=by rw[hI.Rl];exact hy
     refine zi ?_;simp only[BA,Nat.reduceEqDiff,ak,aq,aE,za,bD,Nat.reduceLT,bw,hlen,uz,y_,e18,e19,pX,SB KR,SB hy,SO hI.hT hv,Nx hI.hR hyR];refine zi ?_
     simp only[BA,Nat.reduceEqDiff,ak,aj,aq,za,bD,Nat.reduceLT,bw,Nz,hlen,z6 (show y<2 ^ 60 by omega),zq,aN]
     exact⟨255 - y,by omega,y+1,_,_,W3,_,T3,_,by omega,rfl,⟨by simp[hlen],by simp[za,he.e2],by simp[za,he.e3],by simp[za,he.e6],by simp[za,he.e9],by simp[za,he.iW],by simp[za,he.oq],by simp[za,he.E3]⟩,by simp[za,th],by simp[za,uz],by simp[za,y_],by simp[za,uD],by simp[za,hlen],nV,hI.row hy hj7⟩
   ·obtain rfl:256=y:=by have:=C1;omega
    refine .inr ⟨by simp,?_⟩
    simp only[qm,zN,zD,zq,bI,lK,aF]
    obtain⟨VD,hWF⟩:=hI.done Vz;have GG:zm aL s0 (i+1)=jF (zm aL s0 i) (aL w) 256:=by simp only[zm,Vz]
    rw[<- GG] at nV ⊢;have RD:(NB.map (fZ b7)).length=i:=by rw[gk,hR.len]
    have SS:∀N ws z wait rest,bs.length+2<(dV bs bm m lab N ws z wait rest).length:=λ_ _ _ _ _=>by rw[O6];omega
    have FX:∀env,vU prog 28 env ⟨dV bs bm m lab (NB.map (fZ b7)) (zm aL s0 (i+1)) true (W2.map λc=>cG m (b7+c)) ga,es⟩ [] [] (some (.ptr (bs.length+2) 0))=some (.val (zl 1 27 (NB.map (fZ b7))),⟨env,⟨(dV bs bm m lab (NB.map (fZ b7)) (zm aL s0 (i+1)) true (W2.map λc=>cG m (b7+c)) ga).set (bs.length+2) (.cells ([zl 1 27 (NB.map (fZ b7)),zl 1 3 ((zm aL s0 (i+1)).map λw=>A2.ie (lab w))].set 0 (oC 1 (NB.map (fZ b7)))) 66),es⟩,kE (bs.length+2) 0 (NB.map (fZ b7)),[]⟩):=λenv=>Sh oE (wu (k:=2)) rfl
    have lU:=Nw.Cc (v:=.sr (b7+kr) 0 256 256) rfl rfl;have fy:∀H,j9 prog H 28 (zl 1 27 (NB.map (fZ b7))) (.sl 1 [.sr (b7+kr) 0 256 256] .no)=some (zl 1 27 (NB.map (fZ b7)++[.sr (b7+kr) 0 256 256])):=λH=>jD Nw (by simp) (dD (by rw[RD];simp;omega) (by rw[RD];simp;omega))
    have SU:∀env,qr prog 28 ⟨(dV bs bm m lab (NB.map (fZ b7)) (zm aL s0 (i+1)) true (W2.map λc=>cG m (b7+c)) ga).set (bs.length+2) (.cells ([zl 1 27 (NB.map (fZ b7)),zl 1 3 ((zm aL s0 (i+1)).map λw=>A2.ie (lab w))].set 0 (oC 1 (NB.map (fZ b7)))) 66),es⟩ (kE (bs.length+2) 0 (NB.map (fZ b7))) [] (some (zl 1 27 (NB.map (fZ b7)++[.sr (b7+kr) 0 256 256]),env)) (some (.ptr (bs.length+2) 0))=some (.skip,⟨env,⟨dV bs bm m lab ((NB++[kr]).map (fZ b7)) (zm aL s0 (i+1)) true (W2.map λc=>cG m (b7+c)) ga,vk es (bs.length+2) (zl 1 27 (NB.map (fZ b7)++[.sr (b7+kr) 0 256 256]))⟩,kE (bs.length+2) 0 (NB.map (fZ b7)),[]⟩):=λenv=>by
     rw[Vj Nw.st (SS _ _ _ _ _) (by simp)]
     rw[show([zl 1 27 (NB.map (fZ b7)),zl 1 3 ((zm aL s0 (i+1)).map λw=>A2.ie (lab w))]:aD).set 0 (zl 1 27 (NB.map (fZ b7)++[.sr (b7+kr) 0 256 256]))=[zl 1 27 (NB.map (fZ b7)++[.sr (b7+kr) 0 256 256]),zl 1 3 ((zm aL s0 (i+1)).map λw=>A2.ie (lab w))] from rfl,zne,List.map_append];rfl
    refine ww (tk:=[97]) (by kernel_rfl) ?_
    simp only[BA,Nat.reduceEqDiff,ak,aq,ah,za,bD,Nat.reduceLT,bw,hlen,uz,he.e9,Nu,pX,FX,lU,xR,fy,SU,jT (cx:=⟨prog,gl.g,zj prog gl (n1+4),eu⟩) (show p_ prog eu 28=false by kernel_rfl),zq,aN]
    have gv:i+1<=(zm aL s0 (i+1)).length:=by
     obtain⟨rs,e⟩:=xy (aL:=aL) (s0:=s0) (Nat.le_succ i);rw[e,aU];omega
    exact⟨k - 1,by omega,i+1,_,W2,true,_,ga,_,NB++[kr],_,by omega,rfl,⟨by simp[hlen],by simp[za,he.e2],by simp[za,he.e3],by simp[za,he.e6],by simp[za,he.e9],by simp[za,he.iW],by simp[za,he.oq],by simp[za,he.E3]⟩,rfl,hWF,gv,.inl nV,VD⟩
 ·have l66:∀N ws z wait rest es,zk prog ⟨dV bs bm m lab N ws z wait rest,es⟩ gl.g 66 (.ptr (bs.length+2) 0)=some (.agg [zl 1 27 N,zl 1 3 (ws.map λw=>A2.ie (lab w))]):=λN ws z wait rest es=>by
   have r8:Hp.get ⟨dV bs bm m lab N ws z wait rest,es⟩ (bs.length+2)=some (.cells [zl 1 27 N,zl 1 3 (ws.map λw=>A2.ie (lab w))] 66):=wu (k:=2);rw[jU,r8,jx,qu,pW,mO];simp[wT]
  let PE:aD->Hp->Prop:=λenv H=>H=⟨dV bs bm m lab (NB.map (fZ b7)) (zm aL s0 i) z wait rest,es⟩/\Nv bs.length most FN env
  rcases eM i (zm aL s0 i).length with Vy|Vy
  have hd:decide ((0:Int)<((wait.length:Nat):Int))=true:=by simp;omega
  have AR:decide (((qY (zm aL s0 i):Nat):Int)<=((most:Nat):Int))=false:=by
   simp only[decide_eq_false_iff_not];intro h;exact G0 ⟨Vy,by omega⟩
  simp only[BA,Nat.reduceEqDiff,ak,aj,aq,za,bD,Nat.reduceLT,bw,zd,ze,jZ,qg,jm,cA,wJ,hlen,he.oq,he.iW,he.e2,Jy,l3,tC,zen tn,w6,Of,gt_iff_lt,hd,AR];refine .inr ?_
  simp only[qm,zN,zD,zq,bI,zh,lK,aF]
  refine vM (P:=PE) ?_ ⟨rfl,⟨by simp[hlen],by simp[za,he.e2],by simp[za,he.e3],by simp[za,he.e6],by simp[za,he.e9],by simp[za,he.iW],by simp[za,he.oq],by simp[za,he.E3]⟩⟩
  rotate_left
  have hd:decide ((0:Int)<((wait.length:Nat):Int))=false:=by
   rw[show wait.length=0 by omega];rfl
  simp only[BA,Nat.reduceEqDiff,ak,aj,aq,za,bD,Nat.reduceLT,bw,zd,ze,jZ,qg,jm,cB,wK,hlen,he.oq,he.iW,he.e2,Jy,l3,tC,zen tn,w6,Of,gt_iff_lt,hd];refine .inr ?_
  simp only[qm,zN,zD,zq,bI,zh,lK,aF]
  refine vM (P:=PE) ?_ ⟨rfl,⟨by simp[hlen],by simp[za,he.e2],by simp[za,he.e3],by simp[za,he.e6],by simp[za,he.e9],by simp[za,he.iW],by simp[za,he.oq],by simp[za,he.E3]⟩⟩
  all_goals
   clear hd he hlen;rintro env H lk ⟨rfl,he⟩;have hlen:=he.len;obtain⟨DV,SV⟩:∃D,D=[aV (zl 1 27 (NB.map (fZ b7))),aV (zl 1 3 ((zm aL s0 i).map λw=>A2.ie (lab w)))]:=⟨_,rfl⟩;obtain⟨DR,hDR⟩:∃D,D=[zl 1 27 (NB.map (fZ b7)),zl 1 3 ((zm aL s0 i).map λw=>A2.ie (lab w))]:=⟨_,rfl⟩;have SW:=l66 (NB.map (fZ b7)) (zm aL s0 i) z wait rest es;rw[<- hDR] at SW
   obtain⟨B',Hl⟩:∃B',B'=(dV bs bm m lab (NB.map (fZ b7)) (zm aL s0 i) z wait rest).set (bs.length+1) (.cells DV 66):=⟨_,rfl⟩;obtain⟨e',AV⟩:∃e',e'=vk es (bs.length+1) (.agg DR):=⟨_,rfl⟩;have HJ:DR.map aV=DV:=by rw[SV,hDR];rfl
   have HK:DV.length=2:=by rw[SV];rfl
   have hDk:dz (.agg DR)=true:=by rw[hDR];rfl
   have Vo:Hp.get ⟨dV bs bm m lab (NB.map (fZ b7)) (zm aL s0 i) z wait rest,es⟩ (bs.length+1)=some (.cells [.aG,.aG] 66):=wu (k:=1);have ND:nth (dV bs bm m lab (NB.map (fZ b7)) (zm aL s0 i) z wait rest) (bs.length+1)=some (.cells [.aG,.aG] 66):=Vo
   have abn:∀env,qr prog 66 ⟨dV bs bm m lab (NB.map (fZ b7)) (zm aL s0 i) z wait rest,es⟩ [] [] (some (.agg DR,env)) (some (.ptr (bs.length+1) 0))=some (.skip,⟨env,⟨B',e'⟩,[],[]⟩):=λenv=>by
    rw[zy mO Vo hDk (by show(DR.map aV).length=2;rw[HJ,HK]) (by simp) rfl]
    simp only[Hp.set,gz];rw[show V.laid (.agg DR)=DV from HJ];have:Vm.storeCells [.aG,.aG] 0 DV=DV:=by rw[SV];rfl
    rw[this,<- Hl,<- AV]
   have l3':zk prog ⟨B',e'⟩ gl.g 3 (.ptr (bs.length+5) 0)=some (.int .i64 (qY (zm aL s0 i):Nat)):=by
    have hg5:Hp.get ⟨B',e'⟩ (bs.length+5)=some (.cells [.int .i64 (qY (zm aL s0 i):Nat)] 3):=by
     show nth B' _=_;rw[Hl,kH ND,if_neg (by omega)]
     exact wu (k:=5)
    exact zt iS hg5 rfl
   have abp:zk prog ⟨B',e'⟩ (λ_ _=>none) 66 (.ptr (bs.length+1) 0)=some (.agg DV):=by
    have hg5:Hp.get ⟨B',e'⟩ (bs.length+1)=some (.cells DV 66):=by
     show nth B' _=_;rw[Hl,kH ND,if_pos rfl]
    rw[jU,hg5,jx,qu,pW,mO,SV];simp[wT]
   have O8:∀env t,qF env t (some (.agg DR))=some (.agg DR,env):=λ_ _=>rfl;refine wY (tk:=[]) (by kernel_rfl) ?_
   apply Exists.intro;apply And.intro;refine kj (m:=0) (v:=.agg DR) (by kernel_rfl) rfl (by simp only[BA,ak,he.e9,SW];rfl) (by kernel_rfl) (by kernel_rfl) (by kernel_rfl) (by kernel_rfl) ?_
   dsimp only[aq]
   refine kj (m:=0) (v:=.int .i64 (qY (zm aL s0 i):Nat)) (by kernel_rfl) rfl (by simp only[BA,Nat.reduceEqDiff,ak,za,Nat.reduceLT,bw,hlen,he.iW,l3];rfl) (by kernel_rfl) (by kernel_rfl) (by kernel_rfl) (by kernel_rfl) ?_
   dsimp only[aq]
   refine kj (m:=0) (v:=.int .i64 (qY (zm aL s0 i):Nat)) (by kernel_rfl) rfl (by simp only[BA,Nat.reduceEqDiff,ak,za,bD,Nat.reduceLT,bw,hlen,he.iW,l3];rfl) (by kernel_rfl) (by kernel_rfl) (by kernel_rfl) (by kernel_rfl) ?_
   dsimp only[aq]
   refine qy (m:=0) (v:=.int .i64 (most:Nat)) (by kernel_rfl) rfl (by simp only[BA,Nat.reduceEqDiff,ak,za,bD,Nat.reduceLT,bw,hlen,he.e2];rfl) (by kernel_rfl) (by kernel_rfl) (by kernel_rfl) ?_
   dsimp only[aq]
   refine qy (m:=12) (v:=.bool (decide (((qY (zm aL s0 i):Nat):Int)<=((most:Nat):Int)))) (by kernel_rfl) rfl (by simp only[BA,Nat.reduceEqDiff,ak,za,bD,Nat.reduceLT,bw,hlen,Of];rfl) (by kernel_rfl) (by kernel_rfl) (by kernel_rfl) ?_
   dsimp only[aq]
   refine vg (m:=1) (cs':=[⟨32,⟨B',e'⟩,[],[]⟩,⟨0,⟨dV bs bm m lab (NB.map (fZ b7)) (zm aL s0 i) z wait rest,es⟩,[],[]⟩]) (by kernel_rfl) rfl (by simp only[BA,Nat.reduceEqDiff,ak,za,bD,Nat.reduceLT,bw,hlen,he.e6,O8,abn];rfl) (by kernel_rfl) (by kernel_rfl) (λK=>?_) ?_
   rotate_left
   dsimp only[aq]
   refine qy (m:=35) (v:=.int .i64 (qY (zm aL s0 i):Nat)) (by kernel_rfl) rfl (by simp only[BA,Nat.reduceEqDiff,za,bD,Nat.reduceLT,bw,hlen];rfl) (by kernel_rfl) (by kernel_rfl) (by kernel_rfl) ?_
   dsimp only[aq]
   refine qy (m:=127) (v:=.bool (decide (((qY (zm aL s0 i):Nat):Int)<=((most:Nat):Int)))) (by kernel_rfl) rfl (by simp only[BA,Nat.reduceEqDiff,za,bD,Nat.reduceLT,bw,hlen];rfl) (by kernel_rfl) (by kernel_rfl) (by kernel_rfl) wZ
   ·simp only[aq];simp only[go_ret,zq,Fx]
    refine⟨trivial,[.agg DV,.int .i64 (qY (zm aL s0 i):Nat),.bool (decide (((qY (zm aL s0 i):Nat):Int)<=((most:Nat):Int)))],?_,?_⟩
    ·simp only[zx,za,bD,hlen,Nat.reduceLT,Nat.reduceEqDiff,aF,bw,he.e6,abp,qW]
    ·obtain⟨bl,iU⟩:∃bl,B'=bs++bl:=⟨_,by rw[Hl,dV,yi]⟩
     have abq:iY [.agg DV,.int .i64 (qY (zm aL s0 i):Nat),.bool (decide (((qY (zm aL s0 i):Nat):Int)<=((most:Nat):Int)))]=.br [.agg DV,.int .i64 (qY (zm aL s0 i):Nat),.bool (decide (((qY (zm aL s0 i):Nat):Int)<=((most:Nat):Int)))]:=rfl;have Dz:V.agg DV=A5 (bs.length+7) NB ((zm aL s0 i).map lab):=by
      rw[A5,SV,HI,List.map_map];rfl
     rw[abq,Dz];rcases eM most (qY (zm aL s0 i)) with nu|nu
     ·have h0:i=0:=by
       rcases rq with h|h
       ·omega
       ·exact h
      have hNB:NB=[]:=HO (by rw[hR.len,h0])
      rw[hNB,decide_eq_false (by omega)]
      exact .inr ⟨i,(zm aL s0 i).map lab,bl,e',(qY (zm aL s0 i):Nat),by omega,rfl,by rw[iU]⟩
     ·have ahF:0<(zm aL s0 i).length:=by
       obtain⟨rs,e⟩:=xy (aL:=aL) (s0:=s0) (ec i);rw[e];simp[zm]
      have abr:(zm aL s0 i).length=i:=by
       rcases eM i (zm aL s0 i).length with h|h
       ·exact absurd ⟨h,nu⟩ G0
       ·omega
      have VD:RW aL s0 B' (bs.length+7) i NB:=hR.mono λk x hk h=>by
       rw[nY] at h;rw[Hl,kH ND,if_neg (by omega),BS,h]
      rw[iU] at VD;rw[decide_eq_true (by omega)]
      exact .inl ⟨i,NB,bl,e',by omega,abr,by omega,rfl,by rw[iU],VD⟩
   ·refine j5 ?_ ?_ ?_ ?_
    ·kernel_rfl
    ·rfl
    ·intro c hc;cases hc
    ·unfold Cx.fM;refine wc λq hq=>?_;simp only[dG,A8,AM] at hq;rcases hq with rfl|rfl|rfl|rfl|rfl
     ·kernel_rfl
     ·kernel_rfl
     ·split
      ·rfl
      ·split
       next h=>cases h
       ·refine O5 ?_;exact iP (by simp only[BA,Nat.reduceEqDiff,ak,Nat.reduceAdd,za,bD,Nat.reduceLT,bw,jr,hlen,he.iW,l3'];rfl)
     ·split
      ·rfl
      ·split
       next h=>cases h
       ·refine O5 ?_;exact iP (by simp only[BA,Nat.reduceEqDiff,ak,za,Nat.reduceLT,bw,jr,hlen,he.iW,l3'];rfl)
     ·kernel_rfl
end
section
set_option pp.deepTerms true
set_option pp.maxSteps 200000
variable{gl:Gl}
def KX(f:A2.F)(_m b:Nat):aO:=(List.range f.n.2.length).map λj=>(b+j,(f.n.2[j]?.map xx).getD 0)
theorem zo5{f:A2.F}{m b:Nat}:yQ m b f.n.2.length=(KX f m b).map λp=>cG m p.1:=by
 rw[yQ,KX,List.map_map];rfl
structure E5(f:A2.F)(m n:Nat):Prop where
 mm:m=(f.s.2.length+f.f.2.length) / 8+1
 hs:∀q∈f.s.2,C9 q
 ns:f.s.2.length<n/\f.s.2.length<2 ^ 30
 nf:f.f.2.length<2 ^ 30
 nl:f.n.2.length=f.s.2.length
 nr:∀row∈f.n.2,row.2.length<n/\row.2.length<2 ^ 60/\∀z∈row.2,0<=z/\z.toNat<f.s.2.length+f.f.2.length
 fr:∀row∈f.f.2,row.2.length<n/\row.2.length<2 ^ 60/\∀z∈row.2,0<=z/\z.toNat<f.s.2.length+f.f.2.length
theorem zni{f:A2.F}{m n:Nat}(h:E5 f m n){row:A2.bW}(hr:row∈f.n.2):xx row<2 ^ (8 * m):=by
 refine zev (λz hz=>?_) (Nat.pow_pos (by decide))
 have:=((h.nr row hr).2.2 z hz).2;have:=h.mm;omega
theorem zpw{f:A2.F}{m n:Nat}(h:E5 f m n){bs dW:List aY}:MM f m (KX f m (bs.length+2)) (eL bs f (yQ m (bs.length+2) f.n.2.length) (xe (tE f) 256) (uC (tE f) 256) (yN m f.n.2++dW)) (bs.length+1) where
 mm:=h.mm
 hs:=h.hs
 ns:=h.ns.2
 nf:=h.nf
 nxl:=by rw[KX,gk,List.length_range,h.nl]
 M:=by rw[DQ,zo5]
 X:=λp hp=>by
  obtain⟨j,hj,rfl⟩:=mg.1 hp;have sO:j<f.n.2.length:=BX.1 hj;have cj:f.n.2[j]?=some f.n.2[j]:=gj sO;have h1:nth (yN m f.n.2++dW) j=some (.cells (dL m (xx f.n.2[j])) 5):=by
   rw[zg,gb (by simp[yN];exact sO),yN,iX,cj];rfl
  simp only[cj,aS,fS];exact⟨v_.trans h1,zni h (List.getElem_mem sO)⟩
def BuP(_f:A2.F)(aL:Nat->Nat->Nat)(s0:Nat)(lab:Nat->Int)(v:V)(B:List aY):Prop :=
 (∃i b NB,0<i/\(zm aL s0 i).length=i/\qY (zm aL s0 i)<=600/\v=.br [A5 b NB ((zm aL s0 i).map lab),.bN]/\RW aL s0 B b i NB) \/
 (∃i,600<qY (zm aL s0 i)/\v=.br [.agg [.aG,.aG],.dF 396 (.obj 2)])
theorem zkc{f:A2.F}{m b:Nat}:(KX f m b).map (·.2)=f.n.2.map xx:=by
 rw[KX,List.map_map];apply Fa;intro j;rw[iX,iX];rcases eM j f.n.2.length with h|h
 ·rw[GQ h,gj h];simp[gj h]
 ·rw[uI (by simpa using h),uI h];rfl
theorem z_:qz prog 37=some false:=by kernel_rfl
theorem fcl{f:A2.F}:V.laid (A2.fv f)=A2.fc f:=zm1 f
theorem KY:∀env,ky prog 66 #[] env=some (.agg [.aG,.aG]):=λenv=>by kernel_rfl
set_option maxHeartbeats 1000000 in
theorem zfm(hg:GS gl){n m:Nat}{f:A2.F}{act:A2.bW}{ck rk:Bool}(hn:m+1000<=n)(uR:m<2 ^ 36)(Cm:gl.hk 24 [A2.fv f]=some (.bool ck))(NF:gl.hk 72 [A2.fv f,A2.iv act]=some (.bool rk))(Ez:gl.g 0 0=some (.dF 396 (.obj 0)))(Cb:gl.g 2 0=some (.dF 396 (.obj 2)))
  (hF:ck=true->rk=true->E5 f m (n - 3)/\(∀r∈act.2,0<=r/\r.toNat<f.f.2.length)/\act.2.length<n - 3/\act.2.length<2 ^ 60) :
  ∃v H',zj prog gl (n+1+1) 28 [A2.fv f,A2.iv act] ⟨[],[]⟩=some (.ret v,H') /\
   if ck=true/\rk=true then ∃nx:aO,nx.map (·.2)=f.n.2.map xx/\BuP f (pq f nx m) (qc f.f.2 act.2 0) (λw=>wl f.s.2.length (wk m w) (-1)) v H'.az else v=.br [.agg [.aG,.aG],.dF 396 (.obj 0)]:=by
 suffices bL:(go ⟨prog,gl,zj prog gl (n+1),eu⟩ (n+1) (Fx prog f28.results.toList λv H1=>if ck=true/\rk=true then ∃nx:aO,nx.map (·.2)=f.n.2.map xx/\BuP f (pq f nx m) (qc f.f.2 act.2 0) (λw=>wl f.s.2.length (wk m w) (-1)) v H1.az else v=.br [.agg [.aG,.aG],.dF 396 (.obj 0)]) [.c (f28.body.getD .skip)] .normal ⟨[A2.fv f,A2.iv act]++List.replicate 31 (.br []),⟨[],[]⟩,[],[]⟩) by
  obtain⟨v,H1,h0,hp⟩:=zQ (gl:=gl) (f:=28) (bs:=[]) (es:=[]) (args:=[A2.fv f,A2.iv act]) (n:=n+1) (hg.hk _ _ (by decide)) (λH=>hg.fA _ _ _ _ (by decide)) func28 rfl (by rw[hg.uq];exact bL)
  refine⟨v,_,h0,?_⟩;split
  ·rename_i hc;rw[if_pos hc] at hp;obtain⟨nx,h1,hp⟩:=hp;refine⟨nx,h1,?_⟩;rcases hp with⟨i,b,NB,q1,q2,q3,rfl,q5⟩|hp
   ·refine .inl ⟨i,b,NB,q1,q2,q3,rfl,?_⟩;obtain⟨k,hk⟩:∃k,k∈NB:=by
     cases NB with
     | nil=>have:=q5.len;simp at this;omega
     | cons k l=>exact⟨k,eK ..⟩
    rw[show zW ([]:List aY).length [] _ H1=⟨H1.az,H1.bG++[]⟩ from yL (by
     have h1:(fZ b k).top<=aI (NB.map (fZ b)):=zn (mg.2 ⟨k,hk,rfl⟩);have h2:(aV (zl 1 27 (NB.map (fZ b)))).top=aI (NB.map (fZ b)):=by rw[jl,vZ]
     simp only[fZ,V.top] at h1;simp only[A5,V.top,aI,h2,List.length_nil]
     omega)]
    exact q5
   ·exact .inr hp
  next hc=>rw[if_neg hc] at hp;exact hp
 have J8:dz (A2.fv f)=true:=rfl;have G8:∀env t,qF env t (some (A2.fv f))=some (A2.fv f,env):=λ_ _=>rfl;have Aw:aV (A2.fv f)=A2.fv f:=rfl;have Hy:∀H,Cx.bB ⟨prog,gl.g,zj prog gl (n+1),eu⟩ 24 [A2.fv f] H=some (.val (.bool ck),H):=λH=>zu func24 rfl (xu Cm)
 have VE:∀H,Cx.bB ⟨prog,gl.g,zj prog gl (n+1),eu⟩ 72 [A2.fv f,A2.iv act] H=some (.val (.bool rk),H):=λH=>zu func72 rfl (xu NF);have EE:∀x e,zk prog ⟨[.cells (A2.fc f) 30,x],e⟩ gl.g 30 (.ptr 0 0)=some (A2.fv f):=λx e=>by
  rw[jU,show Hp.get ⟨[.cells (A2.fc f) 30,x],e⟩ 0=some (.cells (A2.fc f) 30) from rfl,jx,qu,Gv,Gw];simp[wT,A2.fv,A2.fc]
 have OV:∀H,zk prog H gl.g 37 (.eT 0 0)=some (.dF 396 (.obj 0)):=λH=>by simp[zk,z_,Ez]
 have VF:∀H,zk prog H gl.g 37 (.eT 2 0)=some (.dF 396 (.obj 2)):=λH=>by simp[zk,z_,Cb]
 have tH:∀k,aV (V.dF 396 (.obj k))=.dF 396 (.obj k):=λ_=>rfl;simp only[f28,fS,zh];refine zi ?_
 simp only[qx,aH,zh,wH,qO,z7,zL,qG,aj,qd,aM,aq,aS,zc,aX,List.length_nil,nY,bh,aZ,zd,bS,bT,List.replicate,G8,z8 J8,fcl,Sz,zJ (show dz (V.agg [.aG,.aG])=true from rfl),V.cells]
 refine zi ?_;have DU:∀B e env,nth B 1=some (.cells [.aG,.aG] 66)->qr prog 66 ⟨B,e⟩ [] [] (some (.agg [.aG,.aG],env)) (some (.ptr 1 0))=some (.skip,⟨env,⟨B,e⟩,[],[]⟩):=λB e env hB=>by
  have r8:Hp.get ⟨B,e⟩ 1=some (.cells [.aG,.aG] 66):=hB;rw[zy mO r8 rfl rfl (by simp) rfl,jR (by simp[V.top,aI])]
  show some (OR.skip,St.mk env ⟨B.set 1 (.cells [.aG,.aG] 66),e⟩ [] [])=_;rw[jW hB]
 have JA:∀B e,nth B 1=some (.cells [.aG,.aG] 66)->zk prog ⟨B,e⟩ (λ_ _=>none) 66 (.ptr 1 0)=some (.agg [.aG,.aG]):=λB e hB=>by
  have r8:Hp.get ⟨B,e⟩ 1=some (.cells [.aG,.aG] 66):=hB;rw[jU,r8,jx,qu,pW,mO];rfl
 let PE:aD->Hp->Prop:=λenv H=>env.length=33/\nth env 4=some (.ptr 1 0)/\nth H.az 1=some (.cells [.aG,.aG] 66)/\¬(ck=true/\rk=true)
 rcases Decidable.em (ck=true/\rk=true) with oQ|oQ
 rotate_left
 rcases Bool.eq_false_or_eq_true ck with nu|nu
 rotate_left
 subst nu;simp only[BA,av,ak,aj,aq,aA,zd,ze,bS,bT,jZ,qg,jm,cC,wK,oI,EE,Aw,Hy,iH,oI];refine .inl ?_;refine vM (P:=PE) ?_ ⟨rfl,rfl,rfl,oQ⟩
 rotate_left
 rotate_left
 subst nu;obtain rfl:rk=false:=by cases rk with
  | false=>rfl
  | true=>exact absurd ⟨rfl,rfl⟩ oQ
 simp only[BA,av,ak,aj,aq,aA,zd,ze,bS,bT,jZ,qg,jm,cE,wJ,oI,mo,EE,Aw,Hy,VE,iH,A2.bC,oI,mo];refine .inl ?_;refine vM (P:=PE) ?_ ⟨rfl,rfl,rfl,oQ⟩
 rotate_left
 rotate_left
 obtain⟨rfl,rfl⟩:=oQ;simp only[BA,av,ak,aj,aq,aA,zd,ze,bS,bT,jZ,qg,jm,cE,wJ,mo,EE,Aw,Hy,VE,iH,A2.bC,mo];refine .inr ?_;obtain⟨pe,NG,abt,NH⟩:=hF rfl rfl
 obtain⟨n',rfl⟩:∃n',n=n'+1:=⟨n - 1,by omega⟩
 obtain⟨dW,rH,Ds⟩:=zb8 hg (n:=n') (f:=f) (m:=m) (bs:=[.cells (A2.fc f) 30,.cells [.aG,.aG] 66]) (es:=[]) pe.ns.2 pe.nf (by rw[pe.nl];exact pe.ns.2) pe.mm (by rw[pe.nl];have:=pe.ns.1;omega) (by have:=pe.ns.1;omega) (by omega) (λrow cj=>⟨by have:=(pe.nr row cj).1;omega,(pe.nr row cj).2⟩) pe.hs
 have HM:=zpw pe (bs:=[.cells (A2.fc f) 30,.cells [.aG,.aG] 66]) (dW:=dW);obtain⟨HB,t_⟩:∃HB,HB=eL [.cells (A2.fc f) 30,.cells [.aG,.aG] 66] f (yQ m ([aY.cells (A2.fc f) 30,.cells [.aG,.aG] 66].length+2) f.n.2.length) (xe (tE f) 256) (uC (tE f) 256) (yN m f.n.2++dW):=⟨_,rfl⟩;have AZ:nth HB 1=some (.cells [.aG,.aG] 66):=by rw[t_];rfl
 rw[<- t_] at HM;have NI:Cx.bB ⟨prog,gl.g,zj prog gl (n'+1+1),eu⟩ 73 [A2.fv f] ⟨[.cells (A2.fc f) 30,.cells [.aG,.aG] 66],[]⟩=some (.val (.ptr 3 0),⟨HB,rH⟩):=by
  rw[t_];exact zu func73 rfl Ds
 have ar4:2<=HB.length:=by
  rw[zg] at AZ;have:=(cZ.1 AZ).1;omega
 obtain⟨u,Hb,hb,BU⟩:=zex hg (n:=n'+1) (bm:=3) (m:=m) (most:=600) (act:=act) (es:=rH) (by omega) uR (dA _) HM NG (λrow cj=>⟨by have:=(pe.fr row cj).1;omega,(pe.fr row cj).2⟩) (by omega) NH
 have cY:Cx.bB ⟨prog,gl.g,zj prog gl (n'+1+1),eu⟩ 74 [.ptr 3 0,A2.iv act,.int .i64 600] ⟨HB,rH⟩=some (.val u,Hb):=zu func74 rfl hb;have Db:=zkc (f:=f) (m:=m) (b:=[aY.cells (A2.fc f) 30,.cells [.aG,.aG] 66].length+2);generalize KX f m ([aY.cells (A2.fc f) 30,.cells [.aG,.aG] 66].length+2)=nx at BU HM Db
 obtain⟨DL,BL,og,dv,cn,ok,rfl,rfl,DW⟩:∃(DL:aD)(BL:List aY)(og:aO)(dv:V)(cn:Int)(ok:Bool),u=.br [dv,.int .i64 cn,.bool ok]/\Hb=⟨HB++BL,og⟩/\dv=.agg DL/\DL.map aV=DL/\DL.length=2/\(if ok=true then ∃i NB,0<i/\(zm (pq f nx m) (qc f.f.2 act.2 0) i).length=i/\qY (zm (pq f nx m) (qc f.f.2 act.2 0) i)<=600/\dv=A5 (HB.length+7) NB ((zm (pq f nx m) (qc f.f.2 act.2 0) i).map λw=>wl f.s.2.length (wk m w) (-1))/\RW (pq f nx m) (qc f.f.2 act.2 0) (HB++BL) (HB.length+7) i NB else ∃i,600<qY (zm (pq f nx m) (qc f.f.2 act.2 0) i)):=by
  rcases BU with⟨i,NB,bl,og,q1,q2,q3,rfl,rfl,q6⟩|⟨i,dS,bl,og,z,q1,rfl,rfl⟩
  ·exact⟨_,bl,og,_,_,true,rfl,rfl,rfl,by simp[qS],rfl,by rw[if_pos rfl];exact⟨i,NB,q1,q2,by omega,rfl,q6⟩⟩
  ·exact⟨_,bl,og,_,_,false,rfl,rfl,rfl,by simp[qS],rfl,by rw[if_neg (by simp)];exact⟨i,by omega⟩⟩
 obtain⟨rfl,HJ,HK,DW⟩:=DW;have O8:∀env t,qF env t (some (.agg DL))=some (.agg DL,env):=λ_ _=>rfl;refine zi ?_
 simp only[qx,zK,qw,qO,zU,kf,av,qp,ak,zL,aj,zr,aM,aq,zR,qQ,qW,ql,aT,aS,qM,aA,bg,bp,zc,aU,p8,Nat.reduceAdd,a_,zd,ze,bS,bT,EE,Aw,NI,A2.bC,cY,kY,dZ,Sz,zJ (show dz (V.agg [.aG,.aG])=true from rfl),V.cells,O8]
 obtain⟨B6,KZ⟩:∃B6,B6=HB++(BL++[aY.cells DL 66]):=⟨_,rfl⟩;obtain⟨e6,he6⟩:∃e6,e6=vk og (HB.length+BL.length) (.agg DL):=⟨_,rfl⟩;have NJ:∀env,qr prog 66 ⟨HB++(BL++[aY.cells [.aG,.aG] 66]),og⟩ [] [] (some (.agg DL,env)) (some (.ptr (HB.length+BL.length) 0))=some (.skip,⟨env,⟨B6,e6⟩,[],[]⟩):=λenv=>by
  have r8:Hp.get ⟨HB++(BL++[aY.cells [.aG,.aG] 66]),og⟩ (HB.length+BL.length)=some (.cells [.aG,.aG] 66):=by
   show nth _ _=_;rw[<- a_,<- aU,zg,fI (dA _),Cu];rfl
  rw[zy mO r8 rfl (by show(DL.map aV).length=2;rw[HJ,HK]) (by simp) rfl]
  have h1:(HB++(BL++[aY.cells [V.aG,.aG] 66])).set (HB.length+BL.length) (.cells DL 66)=B6:=by
   rw[<- a_,<- aU,Aa _ _ (dA _),Cu,KZ,a_];rfl
  have h2:Vm.storeCells [V.aG,.aG] 0 DL=DL:=by
   match DL,HK with
   | [a,b],_=>rfl
  rw[show V.laid (.agg DL)=DL from HJ,h2];show some (OR.skip,St.mk env (Hp.bQ ⟨(HB++(BL++[aY.cells [V.aG,.aG] 66])).set (HB.length+BL.length) (.cells DL 66),og⟩ _ _) [] [])=_;rw[h1,gz,he6]
 simp only[NJ,bu,aq]
 simp only[BA,aq,zd,ze,bS,bT];have JB:nth B6 1=some (.cells [.aG,.aG] 66):=by
  rw[KZ,zg,gb (by omega),<- zg,AZ]
 have hl6:zk prog ⟨B6,e6⟩ gl.g 66 (.ptr (HB.length+BL.length) 0)=some (.agg DL):=by
  have r8:Hp.get ⟨B6,e6⟩ (HB.length+BL.length)=some (.cells DL 66):=by
   show nth _ _=_;rw[KZ,<- a_,<- aU,zg,fI (dA _),Cu];rfl
  rw[jU,r8,jx,qu,pW,mO,wT,if_pos (by omega),mu,r9 (by omega)]
 refine zi ?_;cases ok with
 | false =>
  simp only[BA,ak,aq,zd,ze,bS,bT,iH,oI];refine .inl ?_;rw[if_neg (by simp)] at DW
  obtain⟨i9,DW⟩:=DW;refine vM (P:=λenv H=>env.length=33/\nth env 4=some (.ptr 1 0)/\nth H.az 1=some (.cells [.aG,.aG] 66)) ?_ ⟨rfl,rfl,JB⟩;rintro env ⟨B,e⟩ lk ⟨hlen,e4,hB⟩;refine wY (tk:=[]) (by kernel_rfl) ?_
  apply Exists.intro;apply And.intro;refine qy (m:=0) (v:=.agg [.aG,.aG]) (by kernel_rfl) rfl (by simp only[BA,KY];rfl) (by kernel_rfl) (by kernel_rfl) (by kernel_rfl) ?_
  dsimp only[aq]
  refine kj (m:=0) (v:=.dF 396 (.obj 2)) (by kernel_rfl) rfl (by simp only[BA,ak,VF,tH];rfl) (by kernel_rfl) (by kernel_rfl) (by kernel_rfl) (by kernel_rfl) ?_
  dsimp only[aq]
  refine vg (m:=1) (cs':=[⟨4,⟨B,e⟩,[],[]⟩,⟨0,⟨B,e⟩,[],[]⟩]) (by kernel_rfl) rfl (by simp only[BA,Nat.reduceEqDiff,ak,za,bD,Nat.reduceLT,bw,hlen,e4,DU _ _ _ hB];rfl) (by kernel_rfl) (by kernel_rfl) (λK=>?_) ?_
  rotate_left
  dsimp only[aq]
  refine qy (m:=7) (v:=.dF 396 (.obj 2)) (by kernel_rfl) rfl (by simp only[BA,Nat.reduceEqDiff,za,bD,Nat.reduceLT,bw,hlen];rfl) (by kernel_rfl) (by kernel_rfl) (by kernel_rfl) wZ
  ·simp only[aq];simp only[go_ret,zq,Fx,wh]
   refine⟨trivial,[.agg [.aG,.aG],.dF 396 (.obj 2)],?_,?_⟩
   ·simp only[zx,za,bD,hlen,Nat.reduceLT,Nat.reduceEqDiff,aF,bw,e4,JA _ _ hB,qW]
   ·exact⟨nx,Db,.inr ⟨i9,DW,rfl⟩⟩
  ·refine j5 ?_ ?_ ?_ ?_
   ·kernel_rfl
   ·rfl
   ·intro c hc;cases hc
   ·unfold Cx.fM;refine wc λq hq=>?_;simp only[dG,A8,AM] at hq;rcases hq with rfl|rfl
    ·split
     ·rfl
     ·split
      next h=>cases h
      ·refine O5 ?_;exact iP (by simp only[BA,ak,jr,VF,tH];rfl)
    ·kernel_rfl
 | true =>
  simp only[BA,ak,aq,zd,ze,bS,bT,iH,mo];refine .inr ?_;rw[if_pos rfl] at DW;obtain⟨i,NB,q1,q2,q3,q4,q5⟩:=DW;obtain⟨e7,he7⟩:∃e7,e7=vk e6 1 (.agg DL):=⟨_,rfl⟩
  have abw:∀env,qr prog 66 ⟨B6,e6⟩ [] [] (some (.agg DL,env)) (some (.ptr 1 0))=some (.skip,⟨env,⟨B6.set 1 (.cells DL 66),e7⟩,[],[]⟩):=λenv=>by
   have r8:Hp.get ⟨B6,e6⟩ 1=some (.cells [.aG,.aG] 66):=JB;rw[zy mO r8 rfl (by show(DL.map aV).length=2;rw[HJ,HK]) (by simp) rfl]
   have h2:Vm.storeCells [V.aG,.aG] 0 DL=DL:=by
    match DL,HK with
    | [a,b],_=>rfl
   rw[show V.laid (.agg DL)=DL from HJ,h2];show some (OR.skip,St.mk env (Hp.bQ ⟨B6.set 1 (.cells DL 66),e6⟩ _ _) [] [])=_;rw[gz,he7]
  have hl7:zk prog ⟨B6.set 1 (.cells DL 66),e7⟩ (λ_ _=>none) 66 (.ptr 1 0)=some (.agg DL):=by
   have r8:Hp.get ⟨B6.set 1 (.cells DL 66),e7⟩ 1=some (.cells DL 66):=by
    show nth _ _=_;rw[kH JB,if_pos rfl]
   rw[jU,r8,jx,qu,pW,mO,wT,if_pos (by omega),mu,r9 (by omega)]
  refine zi ?_;simp only[BA,ak,aj,aq,zd,ze,bS,bT,hl6,O8,abw];simp only[go_ret,zq,Fx]
  refine⟨trivial,[.agg DL,.bN],?_,?_⟩
  ·simp only[zx,zd,ze,hl7,qW]
  ·refine⟨nx,Db,.inl ⟨i,HB.length+7,NB,q1,q2,q3,?_,?_⟩⟩
   ·rw[<- q4];rfl
   ·refine q5.mono λk x hk h=>?_;show nth (B6.set 1 _) _=_;rw[kH JB,if_neg (by omega),KZ,<- a_]
    exact vK h
 all_goals
  rintro env ⟨B,e⟩ lk ⟨hlen,e4,hB,oQ⟩;refine wY (tk:=[]) (by kernel_rfl) ?_
  apply Exists.intro;apply And.intro;refine qy (m:=0) (v:=.agg [.aG,.aG]) (by kernel_rfl) rfl (by simp only[BA,KY];rfl) (by kernel_rfl) (by kernel_rfl) (by kernel_rfl) ?_
  dsimp only[aq]
  refine kj (m:=0) (v:=.dF 396 (.obj 0)) (by kernel_rfl) rfl (by simp only[BA,ak,OV,tH];rfl) (by kernel_rfl) (by kernel_rfl) (by kernel_rfl) (by kernel_rfl) ?_
  dsimp only[aq]
  refine vg (m:=1) (cs':=[⟨4,⟨B,e⟩,[],[]⟩,⟨0,⟨B,e⟩,[],[]⟩]) (by kernel_rfl) rfl (by simp only[BA,Nat.reduceEqDiff,ak,za,bD,Nat.reduceLT,bw,hlen,e4,DU _ _ _ hB];rfl) (by kernel_rfl) (by kernel_rfl) (λK=>?_) ?_
  rotate_left
  dsimp only[aq]
  refine qy (m:=7) (v:=.dF 396 (.obj 0)) (by kernel_rfl) rfl (by simp only[BA,Nat.reduceEqDiff,za,bD,Nat.reduceLT,bw,hlen];rfl) (by kernel_rfl) (by kernel_rfl) (by kernel_rfl) wZ
  ·simp only[aq];simp only[go_ret,zq,Fx,wh]
   refine⟨trivial,[.agg [.aG,.aG],.dF 396 (.obj 0)],?_,?_⟩
   ·simp only[zx,za,bD,hlen,Nat.reduceLT,Nat.reduceEqDiff,aF,bw,e4,JA _ _ hB,qW]
   ·split<;>first|rfl|(rename_i h;exact absurd h (by simp))
  ·refine j5 ?_ ?_ ?_ ?_
   ·kernel_rfl
   ·rfl
   ·intro c hc;cases hc
   ·unfold Cx.fM;refine wc λq hq=>?_;simp only[dG,A8,AM] at hq;rcases hq with rfl|rfl
    ·split
     ·rfl
     ·split
      next h=>cases h
      ·refine O5 ?_;exact iP (by simp only[BA,ak,jr,OV,tH];rfl)
    ·kernel_rfl
end
section
section
variable{aL:Nat->Nat->Nat}{s0:Nat}
theorem zbt{j:Nat}(h:(zm aL s0 j)[j]?=none):∀d,zm aL s0 (j+d)=zm aL s0 j
 | 0=>rfl
 | d+1=>by
  have ih:=zbt h d;rw[<- p8];have h1:(zm aL s0 j)[j+d]?=none:=by
   rw[List.getElem?_eq_none_iff] at h ⊢;omega
  simp only[zm,ih,h1]
theorem xz{i j:Nat}(h:(zm aL s0 i).length=i):∃rs,zm aL s0 i=zm aL s0 j++rs:=by
 rcases Nat.le_total j i with Im|Im
 ·exact xy Im
 ·have:=zbt (aL:=aL) (s0:=s0) (j:=i) (by rw[List.getElem?_eq_none_iff];omega) (j - i)
  rw[show i+(j - i)=j by omega] at this
  exact⟨[],by rw[this,m7]⟩
theorem zfn{i j:Nat}(h:(zm aL s0 i).length=i)(h':(zm aL s0 j).length=j):i=j:=by
 obtain⟨r1,e1⟩:=xz (j:=j) h;obtain⟨r2,e2⟩:=xz (j:=i) h';have l1:=congrArg List.length e1;have l2:=congrArg List.length e2;rw[aU] at l1 l2;omega
theorem yO{i j:Nat}(h:(zm aL s0 i).length=i)(hj:j<i):∃w,(zm aL s0 j)[j]?=some w:=by
 cases hx:(zm aL s0 j)[j]? with
 | some w=>exact⟨w,rfl⟩
 | none =>
  have:=zbt hx (i - j);rw[show j+(i - j)=i by omega] at this
  rw[List.getElem?_eq_none_iff] at hx;rw[this] at h;omega
theorem zey{j w:Nat}(h:(zm aL s0 j)[j]?=some w):(yj aL s0 j).length=256:=by
 simp only[yj,h,gk,List.length_range]
theorem RW.get{B:List aY}{b i:Nat}{NB:bM}(h:RW aL s0 B b i NB):∀j,j<i->∃k,NB[j]?=some k/\nth B (b+k)=some (.cells ((yj aL s0 j).map A2.ie) 3):=by
 induction h with
 | nil=>intro j hj;omega
 | @snoc i k NB h hk hb ih =>
  intro j hj;have hl:=h.len;rcases eM j i with sO|sO
  ·obtain⟨k',h1,h2⟩:=ih j sO;exact⟨k',by rw[gb (by omega),h1],h2⟩
  ·obtain rfl:j=i:=by omega
   exact⟨k,by rw[fI (by omega),hl,Cu];rfl,hb⟩
def wM(aL:Nat->Nat->Nat)(s0:Nat)(lab:Nat->Int)(i:Nat):A2.D:=((true,(List.range i).map λj=>(true,yj aL s0 j)),(true,(zm aL s0 i).map lab))
theorem zgx{n:Nat}{e:aB}{xs:aD}:aV (zl n e xs)=Sx.lv n true xs:=by cases xs<;>rfl
theorem VG{n:Nat}{nl:Bool}{xs:aD}(h:0<xs.length):Sx.lv n nl xs=.sl n xs .no:=by
 rcases Sx.bZ n nl xs with e|⟨e0,_⟩
 ·exact e
 ·rw[e0] at h;cases h
theorem zrg{l:List Int}(h:0<l.length):A2.iv (true,l)=.sl 1 (l.map A2.ie) .no:=VG (by rw[gk];exact h)
theorem ziY{lab:Nat->Int}{B:List aY}{es:aO}{b i:Nat}{NB:bM}(h:RW aL s0 B b i NB)(hi:0<i)(hc:(zm aL s0 i).length=i) :
  mG ⟨B,es⟩ (.br [A5 b NB ((zm aL s0 i).map lab),.bN]) (.br [A2.iL (wM aL s0 lab i),.bN]):=by
 have hl:=h.len;have cj:∀j,j<i->A2.iv (true,yj aL s0 j)=.sl 1 ((yj aL s0 j).map A2.ie) .no:=λj hj=>by
  obtain⟨w,hw⟩:=yO hc hj;exact zrg (by rw[zey hw];exact Nat.succ_pos _)
 have e1:aV (zl 1 27 (NB.map (fZ b)))=.sl 1 (NB.map (fZ b)) .no:=by rw[zgx,VG (by rw[gk,hl];exact hi)]
 have e2:A2.rv (wM aL s0 lab i).1=.sl 1 (((List.range i).map λj=>(true,yj aL s0 j)).map A2.iv) .no:=VG (by simpa[wM] using hi)
 have e3:aV (zl 1 3 (((zm aL s0 i).map lab).map A2.ie))=A2.iv (wM aL s0 lab i).2:=zgx;have f1:mG ⟨B,es⟩ (.sl 1 (NB.map (fZ b)) .no) (.sl 1 (((List.range i).map λj=>(true,yj aL s0 j)).map A2.iv) .no):=by
  refine .sl (by simp[hl]) (λj x hj=>?_) (λj y hj=>?_) (λj x y hj hy=>?_)
  ·rw[iX] at hj;obtain⟨k,_,rfl⟩:=mQ.1 hj;exact⟨rfl,rfl⟩
  ·rw[iX,iX] at hj;have Du:j<i:=by
    rcases eM j i with h1|h1
    ·exact h1
    ·rw[uI (by simpa using h1)] at hj;cases hj
   rw[GQ Du] at hj;simp only[aS,bq] at hj;rw[<- hj,cj j Du];exact⟨rfl,rfl⟩
  ·have Du:j<i:=by
    rcases eM j i with h1|h1
    ·exact h1
    ·rw[uI (by simpa[hl] using h1)] at hj;cases hj
   obtain⟨k,k1,k2⟩:=h.get j Du;rw[iX,k1] at hj;rw[iX,iX,GQ Du] at hy;simp only[aS,bq] at hj hy;rw[<- hj,<- hy,cj j Du];obtain⟨w,hw⟩:=yO hc Du;have ar8:((yj aL s0 j).map A2.ie).length=256:=by rw[gk,zey hw]
   have:=mG.sr (H:=⟨B,es⟩) (b:=b+k) (off:=0) (len:=256) (cap:=256) (cs:=(yj aL s0 j).map A2.ie) (t:=3) (by rw[zg] at k2;exact k2) (A2.lI (λ_=>rfl) _) (by omega)
   rw[mu,r9 (by omega)] at this
   exact this
 refine .br rfl λj x y hj hy=>?_
 match j,hj,hy with
 | 0,hj,hy =>
  cases hj;cases hy;refine .agg rfl (λj y hj=>?_) λj x y hj hy=>?_
  ·match j,hj with
   | 0,hj=>cases hj;rw[e2];rfl
   | 1,hj=>cases hj;rw[<- e3];cases ((zm aL s0 i).map lab).map A2.ie<;>rfl
   | j+2,hj=>simp at hj
  ·match j,hj,hy with
   | 0,hj,hy=>cases hj;cases hy;rw[e1,e2];exact f1
   | 1,hj,hy =>
    cases hj;cases hy;rw[e3];exact .same (A2.rI _)
   | j+2,hj,hy=>simp at hj
 | 1,hj,hy=>cases hj;cases hy;exact .same rfl
 | j+2,hj,hy=>simp at hj
end
theorem znj{f:A2.F}{nx GH:aO}(h:nx.map (·.2)=GH.map (·.2)){y k q:Nat}:xd f nx y k q=xd f GH y k q:=by
 have hk:(nx[k]?).map (·.2)=(GH[k]?).map (·.2):=by rw[<- iX,<- iX,h]
 unfold xd;cases hs:f.s.2[k]? with
 | none=>rfl
 | some s =>
  cases h1:nx[k]? with
  | none =>
   rw[h1] at hk;cases h2:GH[k]? with
   | none=>rfl
   | some p=>rw[h2] at hk;cases hk
  | some p =>
   rw[h1] at hk;cases h2:GH[k]? with
   | none=>rw[h2] at hk;cases hk
   | some p' =>
    rw[h2] at hk;have:p.2=p'.2:=Ct hk;simp only[this]
theorem zke{f:A2.F}{nx GH:aO}(h:nx.map (·.2)=GH.map (·.2)){m:Nat}:pq f nx m=pq f GH m:=by
 funext w y
 have:∀(l:bM)(q:Nat),Cj f nx y l q=Cj f GH y l q:=by
  intro l
  induction l with
  | nil=>intro q;rfl
  | cons k l ih =>
   intro q;show Cj f nx y l (xd f nx y k q)=Cj f GH y l (xd f GH y k q);rw[znj h];exact ih _
 exact this _ _
end
section
set_option pp.deepTerms true
set_option pp.maxSteps 200000
variable{gl:Gl}
inductive AW(aL:Nat->Nat->Nat)(lab:Nat->Int)(B:List aY):bM->Nat->aD->Prop
 |nil:AW aL lab B [] 0 []
 |snoc {ss:bM} {c s0 i b:Nat} {NB:bM} {vs:aD} (h:AW aL lab B ss c vs) (hi:0<i) (hl:(zm aL s0 i).length=i) (hr:RW aL s0 B b i NB) (iy:aI vs<=b):AW aL lab B (ss++[s0]) (c+qY (zm aL s0 i)) (vs++[A5 b NB ((zm aL s0 i).map lab)])
theorem AW.app{aL:Nat->Nat->Nat}{lab:Nat->Int}{B:List aY}{ss:bM}{c:Nat}{vs:aD}(h:AW aL lab B ss c vs)(xs:List aY):AW aL lab (B++xs) ss c vs:=by
 induction h with
 | nil=>exact .nil
 | snoc h hi hl hr iy ih=>exact .snoc ih hi hl (hr.mono λk x _ e=>vK e) iy
theorem AW.len{aL:Nat->Nat->Nat}{lab:Nat->Int}{B:List aY}{ss:bM}{c:Nat}{vs:aD}(h:AW aL lab B ss c vs):vs.length=ss.length:=by
 induction h with
 | nil=>rfl
 | snoc _ _ _ _ _ ih=>simp[ih]
theorem znk{aL:Nat->Nat->Nat}{s0 b i:Nat}{B:List aY}{NB:bM}{dS:List Int}(h:RW aL s0 B b i NB)(hi:0<i):0<(A5 b NB dS).top:=by
 obtain⟨k,hk⟩:∃k,k∈NB:=by
  cases NB with
  | nil=>have:=h.len;simp at this;omega
  | cons k l=>exact⟨k,eK ..⟩
 have h1:(fZ b k).top<=aI (NB.map (fZ b)):=zn (mg.2 ⟨k,hk,rfl⟩);have h2:(aV (zl 1 27 (NB.map (fZ b)))).top=aI (NB.map (fZ b)):=by rw[jl,vZ]
 simp only[fZ,V.top] at h1;simp only[A5,V.top,aI,h2];omega
theorem AW.top{aL:Nat->Nat->Nat}{lab:Nat->Int}{B:List aY}{ss:bM}{c:Nat}{vs:aD}(h:AW aL lab B ss c vs)(hs:0<ss.length):0<aI vs:=by
 cases h with
 | nil=>simp at hs
 | snoc h hi hl hr _=>exact uc (znk hr hi) (zn (Dc _ (List.mem_singleton_self _)))
theorem AW.le{aL:Nat->Nat->Nat}{lab:Nat->Int}{B:List aY}{ss:bM}{c:Nat}{vs:aD}(h:AW aL lab B ss c vs):aI vs<=B.length:=by
 induction h with
 | nil=>exact ec _
 | @snoc ss c s0 i b NB vs h hi hl hr iy ih =>
  refine qK λx hx=>?_;rcases sw.1 hx with hx|hx
  ·exact cN (zn hx) ih
  ·rw[oG.1 hx];have h2:(aV (zl 1 27 (NB.map (fZ b)))).top=aI (NB.map (fZ b)):=by rw[jl,vZ]
   have h3:∀l:List Int,(aV (zl 1 3 (l.map A2.ie))).top=0:=λl=>by
    rw[jl,vZ];exact Nat.le_zero.1 (qK λy hy=>by obtain⟨z,_,rfl⟩:=mg.1 hy;exact dA _)
   simp only[A5,V.top,aI,h2,h3];refine uf.2 ⟨qK λy hy=>?_,by omega⟩
   obtain⟨k,hk,rfl⟩:=mg.1 hy;have:=hr.lt k hk;simp only[fZ,V.top];omega
theorem zo6{cx:Cx}{n:Nat}{Q:Ex->St->Prop}{k:List It}{s:St}{c:Code}(P:aD->Hp->Prop)(h1:∀Q':Ex->St->Prop,(∀env H lk,P env H->Q' .normal ⟨env,H,lk,[]⟩)->go cx n Q' [.c c] .normal s)(h2:∀env H lk,P env H->go cx n Q k .normal ⟨env,H,lk,[]⟩):go cx n Q (.c c::k) .normal s:=by
 have:=h1 (go cx n Q k) h2;simp only[go] at this ⊢;exact this
theorem r61:mW prog 61 66 2 48:=⟨by kernel_rfl,by kernel_rfl,by kernel_rfl,by decide,by kernel_rfl,by kernel_rfl,by kernel_rfl⟩
def DX(ck:Bool)(rk:A2.bW->Bool)(l:List A2.bW):Bool:=ck && (decide (1<=l.length) && (decide (l.length<=16) && l.all rk))
def AlP(f:A2.F)(aL:Nat->Nat->Nat)(lab:Nat->Int)(l:List A2.bW)(v:V)(B:List aY):Prop :=
 (∃c vs,AW aL lab B (l.map λa=>qc f.f.2 a.2 0) c vs/\c<=600/\v=.br [aV (zl 2 66 vs),.bN]) \/
 (∃j a c vs i B',l[j]?=some a/\AW aL lab B' ((l.take j).map λa=>qc f.f.2 a.2 0) c vs/\600<c+qY (zm aL (qc f.f.2 a.2 0) i)/\v=.br [.aG,.dF 396 (.obj 2)])
set_option maxHeartbeats 1000000 in
theorem zo7(hg:GS gl){n m:Nat}{f:A2.F}{cP:A2.gJ}{ck:Bool}{rk:A2.bW->Bool}(hn:m+1000<=n)(uR:m<2 ^ 36)(Cm:gl.hk 24 [A2.fv f]=some (.bool ck))(NF:∀a∈cP.2,gl.hk 72 [A2.fv f,A2.iv a]=some (.bool (rk a)))(Ez:gl.g 0 0=some (.dF 396 (.obj 0)))(Cb:gl.g 2 0=some (.dF 396 (.obj 2)))
  (sQ:cP.2.length<n) (SX:cP.2.length<2 ^ 60) (hF:ck=true->E5 f m (n - 3)) (hA:∀a∈cP.2,rk a=true->(∀r∈a.2,0<=r/\r.toNat<f.f.2.length)/\a.2.length<n - 3/\a.2.length<2 ^ 60) :
  ∃v H',zj prog gl (n+1+1) 30 [A2.fv f,A2.rv cP] ⟨[],[]⟩=some (.ret v,H') /\
   if DX ck rk cP.2=true then ∃nx:aO,nx.map (·.2)=f.n.2.map xx/\AlP f (pq f nx m) (λw=>wl f.s.2.length (wk m w) (-1)) cP.2 v H'.az else v=.br [.aG,.dF 396 (.obj 0)]:=by
 suffices bL:(go ⟨prog,gl,zj prog gl (n+1),eu⟩ (n+1) (Fx prog f30.results.toList λv H1=>if DX ck rk cP.2=true then ∃nx:aO,nx.map (·.2)=f.n.2.map xx/\AlP f (pq f nx m) (λw=>wl f.s.2.length (wk m w) (-1)) cP.2 v H1.az else v=.br [.aG,.dF 396 (.obj 0)]) [.c (f30.body.getD .skip)] .normal ⟨[A2.fv f,A2.rv cP]++List.replicate 72 (.br []),⟨[],[]⟩,[],[]⟩) by
  obtain⟨v,H1,h0,hp⟩:=zQ (gl:=gl) (f:=30) (bs:=[]) (es:=[]) (args:=[A2.fv f,A2.rv cP]) (n:=n+1) (hg.hk _ _ (by decide)) (λH=>hg.fA _ _ _ _ (by decide)) func30 rfl (by rw[hg.uq];exact bL)
  refine⟨v,_,h0,?_⟩;cases hk:DX ck rk cP.2 with
  | false=>rw[hk] at hp;exact hp
  | true =>
   rw[hk] at hp;simp only[aF] at hp ⊢;obtain⟨nx,h1,hp⟩:=hp;refine⟨nx,h1,?_⟩;rcases hp with⟨c,vs,q1,q2,rfl⟩|hp
   ·refine .inl ⟨c,vs,?_,q2,rfl⟩
    rw[show zW ([]:List aY).length [] _ H1=⟨H1.az,H1.bG++[]⟩ from yL (by
     have hl:0<(cP.2.map λa=>qc f.f.2 a.2 0).length:=by
      simp only[DX,d_,decide_eq_true_eq] at hk;rw[gk];omega
     have h2:=q1.top hl;simp only[V.top,aI,jl,vZ,List.length_nil]
     omega)]
    exact q1
   ·obtain⟨j,a,c,vs,i,B',q⟩:=hp;exact .inr ⟨j,a,c,vs,i,B',q⟩
 have J8:dz (A2.fv f)=true:=rfl;have G8:∀env t,qF env t (some (A2.fv f))=some (A2.fv f,env):=λ_ _=>rfl;have Aw:aV (A2.fv f)=A2.fv f:=rfl;have Hy:∀H,Cx.bB ⟨prog,gl.g,zj prog gl (n+1),eu⟩ 24 [A2.fv f] H=some (.val (.bool ck),H):=λH=>zu func24 rfl (xu Cm)
 have VE:∀a,a∈cP.2->∀H,Cx.bB ⟨prog,gl.g,zj prog gl (n+1),eu⟩ 72 [A2.fv f,A2.iv a] H=some (.val (.bool (rk a)),H):=λa ha H=>zu func72 rfl (xu (NF a ha));have EE:∀r e,zk prog ⟨.cells (A2.fc f) 30::r,e⟩ gl.g 30 (.ptr 0 0)=some (A2.fv f):=λr e=>by
  rw[jU,show Hp.get ⟨.cells (A2.fc f) 30::r,e⟩ 0=some (.cells (A2.fc f) 30) from rfl,jx,qu,Gv,Gw];simp[wT,A2.fv,A2.fc]
 have OV:∀H,zk prog H gl.g 37 (.eT 0 0)=some (.dF 396 (.obj 0)):=λH=>by simp[zk,z_,Ez]
 have VF:∀H,zk prog H gl.g 37 (.eT 2 0)=some (.dF 396 (.obj 2)):=λH=>by simp[zk,z_,Cb]
 have tH:∀k,aV (V.dF 396 (.obj k))=.dF 396 (.obj k):=λ_=>rfl;simp only[f30,fS,zh];refine zi ?_;simp only[BA,aj,aq,zc,zd,bS,bT,List.replicate,G8,z8 J8,fcl];obtain⟨L,hL⟩:∃L,L=cP.2.length:=⟨_,rfl⟩
 obtain⟨BV,iG⟩:∃b:Bool,b=!(ck && (decide (1<=L) && decide (L<=16))):=⟨_,rfl⟩
 let PB:aD->Hp->Prop:=λenv H=>H=⟨[.cells (A2.fc f) 30],[]⟩/\env.length=74/\nth env 1=some (A2.rv cP)/\nth env 2=some (.ptr 0 0)/\nth env 6=some (.bool BV)
 have EO:∀H,qX prog H 28 (A2.rv cP)=some ((L:Nat):Int):=λH=>by rw[hL];exact R1
 refine zo6 PB (λQ' hQ=>?_) ?_
 ·refine zi ?_;cases ck with
  | false =>
   simp only[BA,av,ak,aj,aq,aA,zd,ze,bS,bT,jZ,qg,jm,cC,wK,oI,EE,Aw,Hy,iH,oI,zq];exact hQ _ _ _ ⟨rfl,rfl,rfl,rfl,by rw[iG];rfl⟩
  | true =>
   rcases eM L 1 with sL|sL
   ·have LM:decide (((L:Nat):Int)<1)=true:=by simp;omega
    simp only[BA,av,ak,aj,aq,aA,zd,ze,bS,bT,jZ,qg,jm,cC,cE,wJ,wK,mo,EE,Aw,Hy,iH,mo,A2.bJ,EO,qT,LM,zq];exact hQ _ _ _ ⟨rfl,rfl,rfl,rfl,by rw[iG,decide_eq_false (show ¬1<=L by omega)];rfl⟩
   have LM:decide (((L:Nat):Int)<1)=false:=by simp;omega
   rcases eM 16 L with G4|G4
   ·have AR:decide ((16:Int)<((L:Nat):Int))=true:=by simp;omega
    simp only[BA,av,ak,aj,aq,aA,zd,ze,bS,bT,jZ,qg,jm,cE,wJ,mo,EE,Aw,Hy,iH,mo,A2.bJ,EO,qT,w6,gt_iff_lt,LM,AR,zq]
    exact hQ _ _ _ ⟨rfl,rfl,rfl,rfl,by rw[iG,decide_eq_false (show ¬L<=16 by omega),Bool.and_false,Bool.and_false];rfl⟩
   ·have AR:decide ((16:Int)<((L:Nat):Int))=false:=by simp;omega
    simp only[BA,av,ak,aj,aq,aA,zd,ze,bS,bT,jZ,qg,jm,cE,wJ,mo,EE,Aw,Hy,iH,mo,A2.bJ,EO,qT,w6,gt_iff_lt,LM,AR,zq]
    exact hQ _ _ _ ⟨rfl,rfl,rfl,rfl,by rw[iG,decide_eq_true G4,decide_eq_true (show 1<=L by omega)];rfl⟩
 rintro env H lk ⟨rfl,hlen,e1,e2,e6⟩;simp only[zh];refine zi ?_;simp only[BA,ak,aj,aq,za,Nat.reduceLT,hlen,e1,A2.bJ,EO]
 refine qj (λk2 s=>∃(j:Nat)(env:aD),k2+j=L/\s=⟨env,⟨[.cells (A2.fc f) 30],[]⟩,[],[]⟩/\env.length=74/\nth env 1=some (A2.rv cP)/\nth env 2=some (.ptr 0 0)/\nth env 6=some (.bool (BV || !((cP.2.take j).all rk)))/\nth env 30=some (A2.rv cP)/\nth env 31=some (.int .i64 (L:Nat))/\nth env 32=some (.int .i64 (j:Nat))) L (by omega) ?_ ?_
 ·exact⟨0,_,rfl,rfl,by simp[hlen],by simp[za,e1],by simp[za,e2],by simp[za,e6],by simp[za,hlen],by simp[za,hlen],by simp[za,hlen]⟩
 clear hlen e1 e2 e6 env;rintro k2 s ⟨j,env,fA,rfl,hlen,e1,e2,e6,Gz,A3,Av⟩;simp only[zh];refine zi ?_;simp only[BA,ak,aq,za,Nat.reduceLT,hlen,A3,Av,qT]
 by_cases hj:j<L
 ·refine .inl ⟨by simp;omega,?_⟩
  obtain⟨a,ha⟩:∃a,cP.2[j]?=some a:=⟨_,gj (by omega)⟩
  have M9:=nB ha;have mq:(cP.2.take (j+1)).all rk=((cP.2.take j).all rk && rk a):=by
   rw[List.take_add_one,ha];simp
  refine zi ?_;simp only[BA,Nat.reduceEqDiff,ak,aq,aE,za,bD,Nat.reduceLT,bw,hlen,Gz,Av,A2.bJ,Vf ha,Vg,zem,A2.bC];refine zi ?_;cases hb:(BV || !((cP.2.take j).all rk)) with
  | true =>
   rw[hb] at e6;simp only[BA,Nat.reduceEqDiff,av,ak,aj,aq,aA,za,bD,Nat.reduceLT,bw,zd,ze,jZ,qg,jm,cC,wK,hlen,e6];refine zi ?_
   simp only[BA,Nat.reduceEqDiff,ak,aj,aq,za,bD,Nat.reduceLT,bw,hlen,Av,z6 (show j<2 ^ 60 by omega),zq,aN]
   refine⟨L - 1 - j,by omega,j+1,_,by omega,rfl,by simp[hlen],by simp[za,e1],by simp[za,e2],?_,by simp[za,Gz],by simp[za,A3],by simp[za,hlen]⟩
   rw[mq];have:(BV || !((cP.2.take j).all rk && rk a))=true:=by
    revert hb;cases BV<;>cases (cP.2.take j).all rk<;>simp
   rw[this];simp[za,hlen]
  | false =>
   rw[hb] at e6;simp only[BA,Nat.reduceEqDiff,av,ak,aj,aq,aA,za,bD,Nat.reduceLT,bw,zd,ze,jZ,qg,jm,cE,wJ,hlen,e6,e2,EE,Aw,VE a M9,A2.bC,iH];refine zi ?_
   simp only[BA,Nat.reduceEqDiff,ak,aj,aq,za,bD,Nat.reduceLT,bw,hlen,Av,z6 (show j<2 ^ 60 by omega),zq,aN]
   refine⟨L - 1 - j,by omega,j+1,_,by omega,rfl,by simp[hlen],by simp[za,e1],by simp[za,e2],?_,by simp[za,Gz],by simp[za,A3],by simp[za,hlen]⟩
   rw[mq];have:(BV || !((cP.2.take j).all rk && rk a))=!(rk a):=by
    revert hb;cases BV<;>cases (cP.2.take j).all rk<;>simp
   rw[this];simp[za,hlen]
 ·obtain rfl:L=j:=by omega
  refine .inr ⟨by simp,?_⟩
  simp only[qm,zN,zD,zq,bI,zh,lK,aF]
  have di:cP.2.take L=cP.2:=r9 (by omega)
  rw[di] at e6;have EG:(BV || !(cP.2.all rk))=!(DX ck rk cP.2):=by
   rw[iG,DX,<- hL];cases ck<;>cases decide (1<=L)<;>cases decide (L<=16)<;>cases cP.2.all rk<;>rfl
  rw[EG] at e6;refine zi ?_;simp only[BA,Nat.reduceEqDiff,ak,aq,za,bD,Nat.reduceLT,bw,hlen,e6];cases hk:DX ck rk cP.2 with
  | false =>
   rw[hk] at e6;refine .inl ⟨by simp,?_⟩
   refine ja (tk:=[]) (by kernel_rfl) (by kernel_rfl) ?_
   simp only[BA,Nat.reduceEqDiff,ak,aj,aq,au,za,bD,Nat.reduceLT,bw,hlen,OV,tH,z_];simp only[go_ret,zq,Fx,wh]
   refine⟨rfl,[.aG,.dF 396 (.obj 0)],?_,by first|rfl|simp⟩
   simp only[aq,tH,zx,za,bD,hlen,Nat.reduceLT,Nat.reduceEqDiff,aF,bw]
  | true =>
   refine .inr ⟨by simp,?_⟩
   have pM:=hk;simp only[DX,d_,decide_eq_true_eq] at pM;obtain⟨rfl,Eb,fA,C1⟩:=pM;have KB:∀a∈cP.2,rk a=true:=λa ha=>Cs.1 C1 a ha;have pe:=hF rfl;obtain⟨n',rfl⟩:∃n',n=n'+1:=⟨n - 1,by omega⟩
   obtain⟨dW,rH,Ds⟩:=zb8 hg (n:=n') (f:=f) (m:=m) (bs:=[.cells (A2.fc f) 30]) (es:=[]) pe.ns.2 pe.nf (by rw[pe.nl];exact pe.ns.2) pe.mm (by rw[pe.nl];have:=pe.ns.1;omega) (by have:=pe.ns.1;omega) (by omega) (λrow cj=>⟨by have:=(pe.nr row cj).1;omega,(pe.nr row cj).2⟩) pe.hs
   have HM:=zpw pe (bs:=[.cells (A2.fc f) 30]) (dW:=dW);obtain⟨HB,t_⟩:∃HB,HB=eL [.cells (A2.fc f) 30] f (yQ m ([aY.cells (A2.fc f) 30].length+2) f.n.2.length) (xe (tE f) 256) (uC (tE f) 256) (yN m f.n.2++dW):=⟨_,rfl⟩;rw[<- t_] at HM;have NI:Cx.bB ⟨prog,gl.g,zj prog gl (n'+1+1),eu⟩ 73 [A2.fv f] ⟨[.cells (A2.fc f) 30],[]⟩=some (.val (.ptr 2 0),⟨HB,rH⟩):=by
    rw[t_];exact zu func73 rfl Ds
   have Db:=zkc (f:=f) (m:=m) (b:=[aY.cells (A2.fc f) 30].length+2);generalize KX f m ([aY.cells (A2.fc f) 30].length+2)=nx at HM Db;obtain⟨aL,uF⟩:∃x,x=pq f nx m:=⟨_,rfl⟩;obtain⟨lab,AB⟩:∃x:Nat->Int,x=λw=>wl f.s.2.length (wk m w) (-1):=⟨_,rfl⟩;have htp:∀b o env t,qF env t (some (.ptr b o))=some (.ptr b o,env):=λ_ _ _ _=>rfl;refine zi ?_
   simp only[BA,Nat.reduceEqDiff,av,ak,aq,aA,Nat.reduceAdd,za,bD,Nat.reduceLT,bw,hlen,e2,EE,Aw,NI,htp];refine zi ?_
   simp only[BA,aj,aq];refine zi ?_
   simp only[BA,aj,aq];refine zi ?_
   simp only[BA,Nat.reduceEqDiff,ak,aj,aq,za,bD,Nat.reduceLT,bw,hlen,e1,A2.bJ,EO]
   refine qj (λk2 s=>∃(j:Nat)(env:aD)(B:List aY)(es lk:aO)(c:Nat)(vs:aD),k2+j=L/\s=⟨env,⟨HB++B,es⟩,lk,[]⟩/\env.length=74/\nth env 9=some (.ptr 2 0)/\nth env 10=some (zl 2 66 vs)/\nth env 11=some (.int .i64 ((600 - c:Nat):Int))/\nth env 48=some (A2.rv cP)/\nth env 49=some (.int .i64 (L:Nat))/\nth env 50=some (.int .i64 (j:Nat))/\c<=600/\AW aL lab (HB++B) ((cP.2.take j).map λa=>qc f.f.2 a.2 0) c vs) L (by omega) ?_ ?_
   ·exact⟨0,_,[],rH,_,0,[],rfl,by rw[m7],by simp[hlen],by simp[za,hlen],by simp[za,hlen,zl],by simp[za,hlen],by simp[za,hlen],by simp[za,hlen],by simp[za,hlen],by omega,.nil⟩
   clear hlen e1 e2 e6 Gz A3 Av env;rintro k2 s ⟨j,env,B,es,lk,c,vs,asb,rfl,hlen,e9,sH,iW,KV,Jz,E4,Mz,O9⟩;simp only[zh];refine zi ?_;simp only[BA,ak,aq,za,Nat.reduceLT,hlen,Jz,E4,qT]
   by_cases hj:j<L
   ·refine .inl ⟨by simp;omega,?_⟩
    obtain⟨a,ha⟩:∃a,cP.2[j]?=some a:=⟨_,gj (by omega)⟩
    have M9:=nB ha;obtain⟨NG,abt,NH⟩:=hA a M9 (KB a M9);have mq:(cP.2.take (j+1)).map (λa=>qc f.f.2 a.2 0)=(cP.2.take j).map (λa=>qc f.f.2 a.2 0)++[qc f.f.2 a.2 0]:=by
     rw[List.take_add_one,ha];simp
    have hMB:MM f m nx (HB++B) 2:={ HM with M:=vK HM.M,X:=λp hp=>⟨vK (HM.X p hp).1,(HM.X p hp).2⟩ };obtain⟨u,Hb,hb,BU⟩:=zex hg (n:=n'+1) (bm:=2) (m:=m) (most:=600 - c) (act:=a) (es:=es) (by omega) uR (by omega) hMB NG (λrow cj=>⟨by have:=(pe.fr row cj).1;omega,(pe.fr row cj).2⟩) (by omega) NH
    rw[<- uF,<- AB] at BU;have cY:Cx.bB ⟨prog,gl.g,zj prog gl (n'+1+1),eu⟩ 74 [.ptr 2 0,A2.iv a,.int .i64 ((600 - c:Nat):Int)] ⟨HB++B,es⟩=some (.val u,Hb):=zu func74 rfl hb
    obtain⟨DL,BL,og,cn,ok,rfl,rfl,HJ,HK,DW⟩:∃(DL:aD)(BL:List aY)(og:aO)(cn:Int)(ok:Bool),u=.br [.agg DL,.int .i64 cn,.bool ok]/\Hb=⟨HB++B++BL,og⟩/\DL.map aV=DL/\DL.length=2/\(if ok=true then ∃i NB,0<i/\(zm aL (qc f.f.2 a.2 0) i).length=i/\qY (zm aL (qc f.f.2 a.2 0) i)<=600 - c/\cn=(qY (zm aL (qc f.f.2 a.2 0) i):Nat)/\V.agg DL=A5 ((HB++B).length+7) NB ((zm aL (qc f.f.2 a.2 0) i).map lab)/\RW aL (qc f.f.2 a.2 0) (HB++B++BL) ((HB++B).length+7) i NB else ∃i,600 - c<qY (zm aL (qc f.f.2 a.2 0) i)):=by
     rcases BU with⟨i,NB,bl,og,q1,q2,q3,rfl,rfl,q6⟩|⟨i,dS,bl,og,z,q1,rfl,rfl⟩
     ·exact⟨_,bl,og,_,true,rfl,rfl,by simp[qS],rfl,by rw[if_pos rfl];exact⟨i,NB,q1,q2,by omega,rfl,rfl,q6⟩⟩
     ·exact⟨_,bl,og,_,false,rfl,rfl,by simp[qS],rfl,by rw[if_neg (by simp)];exact⟨i,by omega⟩⟩
    have O8:∀env t,qF env t (some (.agg DL))=some (.agg DL,env):=λ_ _=>rfl;obtain⟨B5,hB5⟩:∃B5,B5=HB++(B++BL):=⟨_,rfl⟩;obtain⟨B6,KZ⟩:∃B6,B6=B5++[aY.cells DL 66]:=⟨_,rfl⟩;have abC:∀x:aY,HB++(B++(BL++[x]))=B5++[x]:=λx=>by rw[hB5];simp
    have abD:HB.length+(B.length+BL.length)=B5.length:=by rw[hB5];simp
    obtain⟨e6,he6⟩:∃e6,e6=vk og B5.length (.agg DL):=⟨_,rfl⟩;have NJ:∀env,qr prog 66 ⟨B5++[aY.cells [.aG,.aG] 66],og⟩ [] [] (some (.agg DL,env)) (some (.ptr B5.length 0))=some (.skip,⟨env,⟨B6,e6⟩,[],[]⟩):=λenv=>by
     have r8:Hp.get ⟨B5++[aY.cells [.aG,.aG] 66],og⟩ B5.length=some (.cells [.aG,.aG] 66):=by
      show nth _ _=_;rw[zg,fI (dA _),Cu];rfl
     rw[zy mO r8 rfl (by show(DL.map aV).length=2;rw[HJ,HK]) (by simp) rfl]
     have h1:(B5++[aY.cells [V.aG,.aG] 66]).set B5.length (.cells DL 66)=B6:=by
      rw[Aa _ _ (dA _),Cu,KZ];rfl
     have h2:Vm.storeCells [V.aG,.aG] 0 DL=DL:=by
      match DL,HK with
      | [a,b],_=>rfl
     rw[show V.laid (.agg DL)=DL from HJ,h2];show some (OR.skip,St.mk env (Hp.bQ ⟨(B5++[aY.cells [V.aG,.aG] 66]).set B5.length (.cells DL 66),og⟩ _ _) [] [])=_;rw[h1,gz,he6]
    have hl6:zk prog ⟨B6,e6⟩ gl.g 66 (.ptr B5.length 0)=some (.agg DL):=by
     have r8:Hp.get ⟨B6,e6⟩ B5.length=some (.cells DL 66):=by
      show nth _ _=_;rw[KZ,zg,fI (dA _),Cu];rfl
     rw[jU,r8,jx,qu,pW,mO,wT,if_pos (by omega),mu,r9 (by omega)]
    refine zi ?_;simp only[BA,Nat.reduceEqDiff,ak,aq,aE,za,bD,Nat.reduceLT,bw,hlen,KV,E4,A2.bJ,Vf ha,Vg,zem,A2.bC];refine zi ?_
    simp only[qx,aH,zh,zK,qO,zU,z7,kf,Nat.reduceEqDiff,av,qp,ak,zL,qq,jn,zr,qd,aM,bu,aq,zR,qQ,qW,ql,aT,aS,qM,aA,bg,bp,zc,aU,a_,aF,za,bD,Nat.reduceLT,aF,bw,hlen,e9,iW,A2.bC,cY,kY,zd,ze,dZ,Sz,zJ (show dz (V.agg [.aG,.aG])=true from rfl),V.cells,O8,abC,abD,NJ]
    refine vM (P:=λenv H=>H=⟨B6,e6⟩/\env.length=74/\nth env 9=some (.ptr 2 0)/\nth env 10=some (zl 2 66 vs)/\nth env 11=some (.int .i64 ((600 - c:Nat):Int))/\nth env 48=some (A2.rv cP)/\nth env 49=some (.int .i64 (L:Nat))/\nth env 50=some (.int .i64 (j:Nat))/\nth env 14=some (.ptr B5.length 0)/\nth env 15=some (.int .i64 cn)/\nth env 16=some (.bool ok)) ?_ ⟨rfl,by simp[hlen],by simp[za,e9],by simp[za,sH],by simp[za,iW],by simp[za,KV],by simp[za,Jz],by simp[za,E4],by simp[za,hlen],by simp[za,hlen],by simp[za,hlen]⟩
    clear hlen e9 sH iW KV Jz E4 env;rintro env H lk ⟨rfl,hlen,e9,sH,iW,KV,Jz,E4,th,uz,y_⟩;refine zi ?_;cases ok with
    | false =>
     rw[if_neg (by simp)] at DW
     obtain⟨i9,DW⟩:=DW;simp only[BA,Nat.reduceEqDiff,ak,aq,za,bD,Nat.reduceLT,bw,hlen,y_,iH,oI];refine .inl ?_;refine ja (tk:=[]) (by kernel_rfl) (by kernel_rfl) ?_
     simp only[BA,Nat.reduceEqDiff,ak,aj,aq,au,za,bD,Nat.reduceLT,bw,hlen,VF,tH,z_];simp only[go_ret,zq,Fx,wh,wm,l8]
     refine⟨rfl,[.aG,.dF 396 (.obj 2)],?_,?_⟩
     ·simp only[aq,tH,zx,za,bD,hlen,Nat.reduceLT,Nat.reduceEqDiff,aF,bw]
     ·refine⟨nx,Db,?_⟩;rw[<- uF,<- AB];exact .inr ⟨j,a,c,vs,i9,HB++B,ha,O9,by omega,rfl⟩
    | true =>
     rw[if_pos rfl] at DW;obtain⟨i,NB,q1,q2,q3,rfl,q5,q6⟩:=DW;simp only[BA,Nat.reduceEqDiff,ak,aq,za,bD,Nat.reduceLT,bw,hlen,y_,iH,mo];refine .inr ?_;obtain⟨cc,rM⟩:∃cc,cc=qY (zm aL (qc f.f.2 a.2 0) i):=⟨_,rfl⟩;rw[<- rM] at q3 uz;refine zi ?_
     simp only[BA,Nat.reduceEqDiff,ak,aq,za,bD,Nat.reduceLT,bw,hlen,iW,uz,XZ (show 600 - c<2 ^ 60 by omega) q3]
     have B8:=O9.len;have asd:vs.length<=16:=by rw[B8,gk,uL];omega
     have lU:=r61.Cc (v:=.agg DL) rfl HK;have fy:∀H,j9 prog H 61 (zl 2 66 vs) (.sl 2 [.agg DL] .no)=some (zl 2 66 (vs++[.agg DL])):=λH=>jD r61 (by simp) (dD (by simp;omega) (by simp;omega))
     refine ww (tk:=[68]) (by kernel_rfl) ?_
     simp only[BA,Nat.reduceEqDiff,ak,aq,za,bD,Nat.reduceLT,bw,hlen,sH,th,hl6,lU,xR,fy,jT (cx:=⟨prog,gl.g,zj prog gl (n'+2),eu⟩) (show p_ prog eu 61=false by kernel_rfl)]
     refine zi ?_;simp only[BA,Nat.reduceEqDiff,ak,aj,aq,za,bD,Nat.reduceLT,bw,hlen,E4,z6 (show j<2 ^ 60 by omega),zq,aN]
     have abE:B6=HB++(B++BL++[aY.cells DL 66]):=by rw[KZ,hB5];simp
     have abF:AW aL lab (HB++(B++BL++[aY.cells DL 66])) ((cP.2.take (j+1)).map λa=>qc f.f.2 a.2 0) (c+cc) (vs++[.agg DL]):=by
      rw[mq,q5,rM];refine .snoc ?_ q1 q2 (q6.mono λk x _ h=>?_) (cN O9.le (by omega))
      ·have:=O9.app (BL++[aY.cells DL 66]);rw[show HB++(B++BL++[aY.cells DL 66])=HB++B++(BL++[aY.cells DL 66]) by simp]
       exact this
      ·rw[show HB++(B++BL++[aY.cells DL 66])=HB++B++BL++[aY.cells DL 66] by simp]
       exact vK h
     rw[abE];exact⟨L - 1 - j,by omega,j+1,_,B++BL++[aY.cells DL 66],e6,_,c+cc,vs++[.agg DL],by omega,rfl,by simp[hlen],by simp[za,e9],by simp[za,hlen],by rw[show 600 - (c+cc)=600 - c - cc by omega];simp[za,hlen],by simp[za,KV],by simp[za,Jz],by simp[za,hlen],by omega,abF⟩
   ·obtain rfl:L=j:=by omega
    refine .inr ⟨by simp,?_⟩
    simp only[qm,zN,zD,zq,bI,zh,lK,aF]
    rw[di] at O9;refine zi ?_;simp only[BA,Nat.reduceEqDiff,ak,aj,aq,za,bD,Nat.reduceLT,bw,hlen,sH];simp only[go_ret,zq,Fx]
    refine⟨trivial,[aV (zl 2 66 vs),.bN],?_,nx,Db,?_⟩
    ·simp only[zx,za,bD,hlen,Nat.reduceLT,Nat.reduceEqDiff,aF,bw]
    ·rw[<- uF,<- AB];refine .inl ⟨c,vs,O9,Mz,?_⟩;show V.br [aV (aV (zl 2 66 vs)),aV .bN]=_;rw[qS];rfl
end
section
set_option maxRecDepth 1000000
def NK:aD:=[(.str [114,117,108,101,32,34,97,34,32,61,62,32,116])]
def VH:V:=(.br [(.agg [.aG,.aG,(.sl 26 [(.agg [(.int .i64 (0)),(.bool false),.aG,(.int .i64 (3)),(.int .i64 (5)),(.int .u64 (0)),(.int .u64 (0)),(.int .u64 (0)),(.int .u64 (0)),(.str [97]),(.int .i64 (0)),(.int .i64 (0)),.aG,(.bool false),(.int .i64 (0)),(.int .i64 (0)),(.int .u64 (0)),(.int .u64 (0)),(.int .u64 (0)),(.int .u64 (0)),(.str []),(.int .i64 (0)),(.int .i64 (0)),.aG,(.str [116]),.aG])] .no)]),.bN])
def SY:V:=(.sl 21 [(.agg [(.int .i64 (2)),(.int .i64 (0)),(.int .u64 (0)),(.int .u64 (8589934592)),(.int .u64 (0)),(.int .u64 (0)),(.str []),(.int .i64 (0)),(.int .i64 (0)),.aG,(.bool false),(.int .i64 (0)),(.int .i64 (0)),(.int .u64 (0)),(.int .u64 (0)),(.int .u64 (0)),(.int .u64 (0)),(.str []),(.int .i64 (0)),(.int .i64 (0)),.aG])] .no)
def JC:dr:=[(66,NK,VH)]
theorem ziZ(n:Nat):zj prog { g:=l_,hk:=de [],uq:=fu } (n+60) 66 NK ⟨[],[]⟩=some (.ret VH,⟨[],[]⟩):=by kernel_rfl
end
section
set_option maxRecDepth 1000000
def E6:V:=(.agg [(.sl 4 [(.agg [(.int .u64 (0)),(.int .u64 (8589934592)),(.int .u64 (0)),(.int .u64 (0))])] .no),(.sl 1 [(.int .i64 (0))] .no),(.sl 1 [(.sl 1 [(.int .i64 (0))] .no)] .no),(.sl 1 [(.sl 1 [(.int .i64 (1))] .no)] .no)])
def SZ:V:=(.sl 1 [(.int .i64 (0))] .no)
def isW:Option (Out×Hp)->Bool
 | some (.ret (.br [.agg [a,b,c,.sl 1 [.sr k 0 1 _cap] .no],.bN]),H)=>match nth H.az k,E6 with
  | some (.cells cs _),.agg [a',b',c',.sl _ [.sl _ r _] _]=>fj [a,b,c] [a',b',c'] && fj cs r
  | _,_=>false
 | _=>false
theorem zi0(n:Nat):isW (zj prog { g:=l_,hk:=de [],uq:=fu } (n+60) 14 [SY] ⟨[],[]⟩)=true:=by kernel_rfl
theorem zi1(n:Nat):zj prog { g:=l_,hk:=de [],uq:=fu } (n+60) 24 [E6] ⟨[],[]⟩=some (.ret (.bool true),⟨[],[]⟩):=by kernel_rfl
def AE:dr:=[(24,[E6],.bool true)]
theorem zi2(n:Nat):zj prog { g:=l_,hk:=de AE,uq:=fu } (n+60) 72 [E6,SZ] ⟨[],[]⟩=some (.ret (.bool true),⟨[],[]⟩):=by kernel_rfl
end
def f0:A2.F:=⟨(true,[(0,8589934592,0,0)]),(true,[0]),(true,[(true,[0])]),(true,[(true,[1])])⟩
def a0:A2.bW:=(true,[0])
theorem abH:A2.fv f0=E6:=by kernel_rfl
theorem abI:A2.iv a0=SZ:=by kernel_rfl
def AF:dr:=(72,[E6,SZ],.bool true)::AE
theorem O_{f:FuncId}{back:Bool}{ty:Nat}{p:Prop}(tR:ty<1048576)(h:fu (GU f back ty)=true):p:=by rw[ZS tR] at h;cases h
theorem okS:qh prog l_ AF:=yG mixed gI e_ (yG mixed gI e_ xk (zi1 0) rfl rfl (hit:=λ_ _ _ tR h=>O_ tR h)) (zi2 0) rfl rfl (hit:=λ_ _ _ tR h=>O_ tR h)
def VI:Gl:={ g:=l_,hk:=de AF,uq:=eu }
theorem znl{f:FuncId}{back:Bool}{ty:Nat}(h:ty<1048576):eu (GU f back ty)=false:=by
 have hk:Nat.beq (GU f back ty) mB=false:=by
  cases hb:Nat.beq (GU f back ty) mB with
  | false=>rfl
  | true =>
   have:=eG hb;simp only[GU,mB] at this;omega
 simp only[eu,ZS h,hk,Bool.or_self]
theorem abJ:nM prog VI:=⟨okS.pure,λn f args H out H' h=>(by cases h),λ_ _ _ tR h=>(by rw[show VI.uq=eu from rfl,znl tR] at h;cases h)⟩
theorem GSs:GS VI where
 uq:=rfl
 fA:=λ_ _ _ _ _=>rfl
 hk:=λf args h=>by
  have h1:Nat.beq f 24=false:=by
   cases hb:Nat.beq f 24 with
   | false=>rfl
   | true=>rw[eG hb] at h;revert h;decide
  have h2:Nat.beq f 72=false:=by
   cases hb:Nat.beq f 72 with
   | false=>rfl
   | true=>rw[eG hb] at h;revert h;decide
  show de AF f args=none;simp only[AF,AE,de,h1,h2]
theorem abK:E5 f0 1 2000 where
 mm:=rfl
 hs:=λq hq=>by
  obtain rfl:q=(0,8589934592,0,0):=by simpa[f0] using hq
  intro i
  match i with
  | 0=>exact⟨by decide,by decide⟩
  | 1=>exact⟨by decide,by decide⟩
  | 2=>exact⟨by decide,by decide⟩
  | i+3=>exact⟨by show(0:Int)<=0;decide,by show(0:Int)<18446744073709551616;decide⟩
 ns:=by decide
 nf:=by decide
 nl:=rfl
 nr:=λrow hr=>by
  obtain rfl:row=(true,[1]):=by simpa[f0] using hr
  exact⟨by decide,by decide,λ(z:Int) hz=>by
   obtain rfl:z=1:=by simpa using hz
   decide⟩
 fr:=λrow hr=>by
  obtain rfl:row=(true,[0]):=by simpa[f0] using hr
  exact⟨by decide,by decide,λ(z:Int) hz=>by
   obtain rfl:z=0:=by simpa using hz
   decide⟩
def S0:Nat->Nat->Nat:=pq f0 [(0,2)] 1
def zqn(w:Nat):Int:=wl 1 (wk 1 w) (-1)
theorem K0:zm S0 1 3=[1,0,2]:=by kernel_rfl
def uG:A2.D:=((true,[(true,(List.range 256).map λy=>if y=97 then 2 else 1),(true,List.replicate 256 1),(true,List.replicate 256 1)]),(true,[-1,-1,0]))
theorem JD:A2.iL (wM S0 1 zqn 3)=A2.iL uG:=by kernel_rfl
def wdV:V:=.br [A2.iL uG,.bN]
theorem AG:∃v H',zj prog VI 2005 28 [E6,SZ] ⟨[],[]⟩=some (.ret v,H')/\mG H' v wdV:=by
 obtain⟨v,H',h,hp⟩:=zfm GSs (n:=2003) (m:=1) (f:=f0) (act:=a0) (ck:=true) (rk:=true) (by decide) (by decide) (by kernel_rfl) (by kernel_rfl) (by kernel_rfl) (by kernel_rfl) (λ_ _=>⟨abK,λr hr=>by
  obtain rfl:r=0:=by simpa[a0] using hr
  exact⟨by decide,by decide⟩,by decide,by decide⟩)
 rw[abH,abI] at h;rw[if_pos ⟨rfl,rfl⟩] at hp;obtain⟨nx,Hu,hp⟩:=hp;have e1:pq f0 nx 1=S0:=zke (by rw[Hu];rfl)
 have e2:qc f0.f.2 a0.2 0=1:=rfl;have e3:(λw=>wl f0.s.2.length (wk 1 w) (-1))=zqn:=rfl;rw[e1,e2,e3] at hp;have hc:(zm S0 1 3).length=3:=by rw[K0];rfl
 refine⟨v,H',h,?_⟩;rcases hp with⟨i,b,NB,q1,q2,q3,rfl,q5⟩|⟨i,q1,_⟩
 ·obtain rfl:=zfn q2 hc;have:=ziY (lab:=zqn) (es:=H'.bG) q5 (by decide) hc
  rw[JD] at this;exact this
 ·obtain⟨rs,e⟩:=xz (j:=i) hc;have:=zep (ws:=zm S0 1 i) (rs:=rs);rw[<- e,K0] at this;have h3:qY [1,0,2]=3:=rfl;omega
section
set_option maxRecDepth 1000000
theorem zlf(n:Nat):zj prog { g:=l_,hk:=de JC,uq:=fu } (n+60) 45 NK ⟨[],[]⟩=some (.ret SY,⟨[],[]⟩):=by kernel_rfl
end
section
open Go.RowKit Go.ChangeAt Go.WideShapes
set_option maxRecDepth 1000000
theorem kA{P:aQ}{g0:Nat->Nat->b_}{l:dr}(hl:qh P g0 l){f:FuncId}{args:aD}{v:V}
  (h:∀(d:Nat)(H:Hp)(g:Gh)(w:aP)(bx:dM)(lc:Go.Vm.Loc),ij P g0 g->rj g H.az w->eP g H.az.length args bx->Calls P f bx w (fB d H g w lc (.ret v) H)):qh P g0 ((f,args,v)::l):=by
 refine⟨λf' ys u hu d H g w bx lc h1 h2 h3=>?_,λn f args H out H' h=>(by cases h),λ_ _ _ _ h=>(by cases h)⟩
 simp only[de] at hu;split at hu
 ·rename_i hf;obtain rfl:=eG hf;split at hu
  next hs=>cases hu;rw[xl hs] at h3;exact h d H g w bx lc h1 h2 h3
  ·exact hl.pure _ _ _ hu d H g w bx lc h1 h2 h3
 ·exact hl.pure _ _ _ hu d H g w bx lc h1 h2 h3
theorem zrM{H:Hp}{k cap:Nat}{ty:aB}(h:nth H.az k=some (.cells [.int .i64 1] ty)) :
  mG H (.br [.agg [.sl 4 [.agg [.int .u64 0,.int .u64 8589934592,.int .u64 0,.int .u64 0]] .no,.sl 1 [.int .i64 0] .no,.sl 1 [.sl 1 [.int .i64 0] .no] .no,.sl 1 [.sr k 0 1 cap] .no],.bN]) (.br [E6,.bN]):=by
 have hk:mG H (.sr k 0 1 cap) (.sl 1 [.int .i64 1] .no):=by
  have:=mG.sr (H:=H) (b:=k) (off:=0) (len:=1) (cap:=cap) (cs:=[.int .i64 1]) (t:=ty) (by rw[zg] at h;exact h) rfl (dA _)
  exact this
 have hr:mG H (.sl 1 [.sr k 0 1 cap] .no) (.sl 1 [.sl 1 [.int .i64 1] .no] .no):=by
  refine .sl rfl (λj x hj=>?_) (λj y hj=>?_) (λj x y hj hy=>?_)
  ·match j,hj with
   | 0,hj=>cases hj;exact⟨rfl,rfl⟩
   | j+1,hj=>simp at hj
  ·match j,hj with
   | 0,hj=>cases hj;exact⟨rfl,rfl⟩
   | j+1,hj=>simp at hj
  ·match j,hj,hy with
   | 0,hj,hy=>cases hj;cases hy;exact hk
   | j+1,hj,hy=>simp at hj
 refine .br rfl λj x y hj hy=>?_
 match j,hj,hy with
 | 0,hj,hy =>
  cases hj;cases hy;refine .agg rfl (λj y hj=>?_) λj x y hj hy=>?_
  ·match j,hj with
   | 0,hj=>cases hj;rfl
   | 1,hj=>cases hj;rfl
   | 2,hj=>cases hj;rfl
   | 3,hj=>cases hj;rfl
   | j+4,hj=>simp at hj
  ·match j,hj,hy with
   | 0,hj,hy=>cases hj;cases hy;exact .same rfl
   | 1,hj,hy=>cases hj;cases hy;exact .same rfl
   | 2,hj,hy=>cases hj;cases hy;exact .same rfl
   | 3,hj,hy=>cases hj;cases hy;exact hr
   | j+4,hj,hy=>simp at hj
 | 1,hj,hy=>cases hj;cases hy;exact .same rfl
 | j+2,hj,hy=>simp at hj
theorem zqo{x:Option (Out×Hp)}(h:isW x=true):∃u H',x=some (.ret u,H')/\mG H' u (.br [E6,.bN]):=by
 unfold isW at h;split at h
 ·rename_i a b c k cap H;refine⟨_,_,rfl,?_⟩;cases hk:nth H.az k with
  | none=>rw[hk] at h;cases h
  | some y =>
   rw[hk] at h;cases y with
   | cells cs ty =>
    simp only[E6,d_] at h;have e1:=xl h.1;have e2:=xl h.2;simp only[List.cons.injEq,BY] at e1;obtain⟨rfl,rfl,rfl⟩:=e1;subst e2;exact zrM hk
   | _=>cases h
 ·cases h
end
section
section
variable{aL:Nat->Nat->Nat}{s0:Nat}{lab:Nat->Int}
theorem zfo{i j y w:Nat}(h:(zm aL s0 i).length=i)(hw:(zm aL s0 j)[j]?=some w)(hy:y<256):∃k,ku (aL w y) 0 (zm aL s0 (j+1))=some k/\k<i/\(zm aL s0 i)[k]?=some (aL w y):=by
 obtain⟨k,_,hk⟩:=znb (ws:=zm aL s0 j) (g:=aL w) hy;have pM:ku (aL w y) 0 (zm aL s0 (j+1))=some k:=by
  simp only[zm,hw];exact hk
 obtain⟨rs,FA⟩:=xz (j:=j+1) h;have h2:=Vs (rs:=rs) pM;rw[<- FA] at h2;obtain⟨_,h3⟩:=zcH h2;rw[Nat.sub_zero] at h3;refine⟨k,pM,?_,h3⟩;have:=(cZ.1 h3).1;omega
def xU(aL:Nat->Nat->Nat)(w:Nat)(t:List Int):Nat:=t.foldl (λw b=>aL w b.toNat) w
theorem zh2{i j w:Nat}(_h:(zm aL s0 i).length=i)(hj:j<i)(_hw:(zm aL s0 j)[j]?=some w):A2.gr (A2.rowsOf (wM aL s0 lab i).1) j=yj aL s0 j:=by
 refine A2.o8 (q:=(true,yj aL s0 j)) ?_;simp only[wM];rw[iX,GQ hj];rfl
theorem znm{i j w:Nat}(h:(zm aL s0 i).length=i)(hj:(zm aL s0 i)[j]?=some w):(zm aL s0 j)[j]?=some w:=by
 have Du:j<i:=by
  have:=(cZ.1 hj).1;omega
 obtain⟨w',sY⟩:=yO h Du;obtain⟨rs,FA⟩:=xy (aL:=aL) (s0:=s0) (Nat.le_of_lt Du);rw[FA,gb (cZ.1 sY).1] at hj;exact hj
theorem zkf{i:Nat}(h:(zm aL s0 i).length=i):∀(t:List Int)(j w:Nat),(∀b∈t,0<=b/\b<256)->(zm aL s0 i)[j]?=some w->∃k:Nat,A2.o_ (A2.rowsOf (wM aL s0 lab i).1) (j:Int) t=(k:Int)/\k<i/\(zm aL s0 i)[k]?=some (xU aL w t)
 | [],j,w,hb,hj=>⟨j,rfl,by have:=(cZ.1 hj).1;omega,hj⟩
 | b::t,j,w,hb,hj=>by
  have Du:j<i:=by
   have:=(cZ.1 hj).1;omega
  have hw:=znm h hj;obtain⟨h0,h1⟩:=hb b (eK ..);have hy:b.toNat<256:=by omega
  obtain⟨k,e1,e2,e3⟩:=zfo h hw hy;have e:A2.gi (yj aL s0 j) b.toNat=(k:Int):=by
   simp only[yj,hw,A2.gi,K1,iX,GQ hy,aS,fS,e1]
  obtain⟨k',f1,f2,f3⟩:=zkf h t k (aL w b.toNat) (λx hx=>hb x (dU _ hx)) e3;refine⟨k',?_,f2,f3⟩;simp only[A2.o_];rw[show((j:Int)).toNat=j from rfl,zh2 h Du hw,e];exact f1
theorem zo8{i:Nat}(h:(zm aL s0 i).length=i)(_hi:0<i)(t:List Int)(hb:∀b∈t,0<=b/\b<256):∃k:Nat,A2.o_ (A2.rowsOf (wM aL s0 lab i).1) 0 t=(k:Int)/\k<i/\(wM aL s0 lab i).2.2[k]?=some (lab (xU aL s0 t)):=by
 obtain⟨rs,FA⟩:=xy (aL:=aL) (s0:=s0) (ec i);obtain⟨k,e1,e2,e3⟩:=zkf (lab:=lab) h t 0 s0 hb (by rw[FA];rfl)
 exact⟨k,e1,e2,by simp only[wM,iX,e3,aS]⟩
end
theorem VJ{α:Type}{g:α->Nat}{q:Nat}:∀{l:List α}{z:Nat},(l.foldl (λz k=>z ||| g k) z).testBit q=(z.testBit q || l.any λk=>(g k).testBit q)
 | [],z=>by simp
 | x::l,z=>by
  rw[List.foldl_cons,VJ,ud,List.any_cons,Bool.or_assoc]
def S1(f:A2.F)(nx:aO)(b k:Nat):Nat:=match f.s.2[k]?,nx[k]? with
 | some s,some p=>if EA s b then p.2 else 0
 | _,_=>0
theorem zo9{f:A2.F}{nx:aO}{b k q:Nat}:xd f nx b k q=q ||| S1 f nx b k:=by
 unfold xd S1;cases f.s.2[k]? with
 | none=>simp
 | some s =>
  cases nx[k]? with
  | none=>simp
  | some p =>
   simp only[];split<;>simp
theorem zpa{f:A2.F}{nx:aO}{b:Nat}{l:bM}{q:Nat}:Cj f nx b l q=l.foldl (λz k=>z ||| S1 f nx b k) q:=by
 unfold Cj
 congr 1
 funext z k
 exact zo9
theorem zno{m w:Nat}{p:Nat->Bool}:(wk m w).any p=(List.range (8 * m)).any λk=>w.testBit k && p k:=by
 rw[wk,List.any_filter]
theorem VK{f:A2.F}{nx:aO}{m w y q:Nat}:(pq f nx m w y).testBit q=(List.range (8 * m)).any λk=>w.testBit k && (S1 f nx y k).testBit q:=by
 rw[pq,zpa,VJ,zno];simp
theorem zqp{α:Type}{p q:α->Bool}(l:List α):(l.any λx=>p x || q x)=(l.any p || l.any q):=by
 induction l with
 | nil=>rfl
 | cons x l ih =>
  simp only[List.any_cons,ih];cases p x<;>cases q x<;>simp
theorem zqq{f:A2.F}{nx:aO}{m v w y:Nat}:pq f nx m (v ||| w) y=pq f nx m v y ||| pq f nx m w y:=by
 refine JK λq=>?_;rw[ud,VK,VK,VK,<- zqp]
 congr 1
 funext k
 rw[ud,Bool.and_or_distrib_right]
theorem zkg{f:A2.F}{nx:aO}{m:Nat}:∀{t:List Int}{v w:Nat},xU (pq f nx m) (v ||| w) t=xU (pq f nx m) v t ||| xU (pq f nx m) w t
 | [],v,w=>rfl
 | b::t,v,w=>by
  show xU (pq f nx m) (pq f nx m (v ||| w) b.toNat) t=_
  rw[zqq,zkg];rfl
theorem zcI{l:List Int}{z q:Nat}:(wU l z).testBit q=(z.testBit q || l.any λn=>(2 ^ n.toNat).testBit q):=VJ
theorem znp{l:List Int}{z:Nat}:wU l z=z ||| wU l 0:=by
 refine JK λq=>?_;rw[ud,zcI,zcI];simp
def zqr(rows:List A2.bW)(r:Int):Nat:=wU ((rows[r.toNat]?).map (·.2) |>.getD []) 0
theorem yW{rows:List A2.bW}{l:List Int}{z q:Nat}:(qc rows l z).testBit q=(z.testBit q || l.any λr=>(zqr rows r).testBit q):=by
 rw[qc,show(λq r=>wU ((rows[r.toNat]?).map (·.2) |>.getD []) q)=(λ(z:Nat)(r:Int)=>z ||| zqr rows r) from funext λz=>funext λr=>znp,VJ]
theorem zi3{rows:List A2.bW}{a b c:List Int}(h:∀r,r∈c ↔ r∈a\/r∈b):qc rows c 0=qc rows a 0 ||| qc rows b 0:=by
 refine JK λq=>?_;rw[ud,yW,yW,yW];simp only[Nat.zero_testBit,uM];rw[EI,p7,Fc,Fc,Fc];constructor
 ·rintro⟨r,hr,e⟩;rcases (h r).1 hr with h1|h1
  ·exact .inl ⟨r,h1,e⟩
  ·exact .inr ⟨r,h1,e⟩
 ·rintro(⟨r,hr,e⟩|⟨r,hr,e⟩)
  ·exact⟨r,(h r).2 (.inl hr),e⟩
  ·exact⟨r,(h r).2 (.inr hr),e⟩
def tJ(ns m w:Nat)(r:Int):Prop :=
 (r = -1/\∀k,k<8 * m->ns<=k->w.testBit k=false) \/
 ∃k:Nat,r=(k:Int) - ns/\ns<=k/\k<8 * m/\w.testBit k=true/\∀j,ns<=j->j<k->w.testBit j=false
theorem zfp{ns:Nat}:∀{l:bM}{z:Int},0<=z->wl ns l z=z
 | [],z,_=>rfl
 | k::l,z,h=>by
  show wl ns l (EZ ns k z)=z;rw[show EZ ns k z=z from if_neg (by omega)]
  exact zfp h
theorem znq{ns:Nat}{l l':bM}{z:Int}:wl ns (l++l') z=wl ns l' (wl ns l z):=by simp[wl]
theorem zh3{ns w:Nat}:∀n:Nat,(wl ns ((List.range n).filter λj=>w.testBit j) (-1) = -1/\∀k,k<n->ns<=k->w.testBit k=false) \/
  ∃k:Nat,wl ns ((List.range n).filter λj=>w.testBit j) (-1)=(k:Int) - ns/\ns<=k/\k<n/\w.testBit k=true/\∀j,ns<=j->j<k->w.testBit j=false
 | 0=>.inl ⟨rfl,λk h=>by omega⟩
 | n+1=>by
  rw[List.range_succ,List.filter_append,znq];rcases zh3 (ns:=ns) (w:=w) n with⟨e,h⟩|⟨k,e,h1,h2,h3,h4⟩
  ·rw[e];cases hn:w.testBit n with
   | false =>
    refine .inl ⟨by simp[hn,wl],λk hk oN=>?_⟩
    rcases eM k n with h'|h'
    ·exact h k h' oN
    ·rwa [show k=n by omega]
   | true =>
    by_cases oN:ns<=n
    ·refine .inr ⟨n,?_,oN,HW _,hn,λj h1 h2=>h j h2 h1⟩;simp only[List.filter_cons,hn,aF,List.filter_nil,wl,List.foldl_cons,List.foldl_nil];exact if_pos ⟨oN,by omega⟩
    ·refine .inl ⟨?_,λk hk h'=>?_⟩
     ·simp only[List.filter_cons,hn,aF,List.filter_nil,wl,List.foldl_cons,List.foldl_nil];exact if_neg (by omega)
     ·exact absurd h' (by omega)
  ·rw[e];exact .inr ⟨k,zfp (by omega),h1,by omega,h3,h4⟩
theorem zqs{ns m w:Nat}:tJ ns m w (wl ns (wk m w) (-1)):=zh3 (8 * m)
theorem tJ.or{ns m v w:Nat}{a b c:Int}(ha:tJ ns m v a)(hb:tJ ns m w b)(hc:tJ ns m (v ||| w) c):c=if a<0\/(0<=b/\b<a) then b else a:=by
 have Am:∀k,(v ||| w).testBit k=(v.testBit k || w.testBit k):=λk=>ud ..
 rcases ha with⟨rfl,ha⟩|⟨x,rfl,a1,a2,a3,a4⟩
 ·rw[if_pos (.inl (by omega))]
  rcases hb with⟨rfl,hb⟩|⟨y,rfl,b1,b2,b3,b4⟩
  ·rcases hc with⟨rfl,_⟩|⟨z,rfl,c1,c2,c3,c4⟩
   ·rfl
   ·rw[Am,ha z c2 c1,hb z c2 c1] at c3;cases c3
  ·rcases hc with⟨rfl,hc⟩|⟨z,rfl,c1,c2,c3,c4⟩
   ·have:=hc y b2 b1;rw[Am,b3,Bool.or_true] at this;cases this
   ·have h1:¬z<y:=λh=>by rw[Am,ha z c2 c1,b4 z c1 h] at c3;cases c3
    have h2:¬y<z:=λh=>by have:=c4 y b1 h;rw[Am,b3,Bool.or_true] at this;cases this
    omega
 ·rcases hb with⟨rfl,hb⟩|⟨y,rfl,b1,b2,b3,b4⟩
  ·rw[if_neg (by omega)]
   rcases hc with⟨rfl,hc⟩|⟨z,rfl,c1,c2,c3,c4⟩
   ·have:=hc x a2 a1;rw[Am,a3] at this;cases this
   ·have h1:¬z<x:=λh=>by rw[Am,hb z c2 c1,a4 z c1 h] at c3;cases c3
    have h2:¬x<z:=λh=>by have:=c4 x a1 h;rw[Am,a3] at this;cases this
    omega
  ·rcases hc with⟨rfl,hc⟩|⟨z,rfl,c1,c2,c3,c4⟩
   ·have:=hc x a2 a1;rw[Am,a3] at this;cases this
   ·have h1:¬x<z:=λh=>by have:=c4 x a1 h;rw[Am,a3] at this;cases this
    have h2:¬y<z:=λh=>by have:=c4 y b1 h;rw[Am,b3,Bool.or_true] at this;cases this
    have h3:¬(z<x/\z<y):=λh=>by rw[Am,a4 z c1 h.1,b4 z c1 h.2] at c3;cases c3
    split<;>omega
end
section
def S2(l:dr):Gl:={ g:=l_,hk:=de l,uq:=eu }
theorem hkO{l:dr}(hl:qh prog l_ l):nM prog (S2 l):=⟨hl.pure,λn f args H out H' h=>(by cases h),λ_ _ _ tR h=>(by rw[show(S2 l).uq=eu from rfl,znl tR] at h;cases h)⟩
theorem zgy{f:FuncId}{args:aD}:∀{l:dr},(∀x∈l,Nat.beq f x.1=false)->de l f args=none
 | [],_=>rfl
 | (f',xs,v)::r,h=>by
  have h1:Nat.beq f f'=false:=h _ (eK ..);simp only[de,h1];exact zgy λx hx=>h x (dU _ hx)
theorem GSO{l:dr}(h:∀x∈l,x.1=24\/x.1=72):GS (S2 l) where
 uq:=rfl
 fA:=λ_ _ _ _ _=>rfl
 hk:=λf args hf=>zgy λx hx=>by
  cases hb:Nat.beq f x.1 with
  | false=>rfl
  | true =>
   have e:=eG hb;rcases h x hx with e'|e'
   ·rw[e'] at e;subst e;revert hf;decide
   ·rw[e'] at e;subst e;revert hf;decide
theorem znr{l:dr}{OS:Gl}(hl:qh prog l_ l)(FZ:nM prog OS)(hg:OS.g=l_){f:FuncId}{xs:aD}{v:V}(he:Kn prog OS f xs v)(ht:aI xs=0)(hv:v.top=0):qh prog l_ ((f,xs,v)::l):=by
 obtain⟨k,h⟩:=he;exact kA hl λd H g w bx lc h1 h2 h3=>xE mixed gI e_ FZ (h k (dA _) ⟨[],[]⟩) ht hv (by rw[hg];exact h1) h2 h3
theorem S3{f:FuncId}{xs:aD}{v:V}{l:dr}:de ((f,xs,v)::l) f xs=some v:=by
 simp only[de,lK,dJ]
def mP(f:A2.F):Nat:=(f.s.2.length+f.f.2.length) / 8+1
def ot(f:A2.F):Nat->Nat->Nat:=pq f (f.n.2.map λr=>(0,xx r)) (mP f)
def ri(f:A2.F)(w:Nat):Int:=wl f.s.2.length (wk (mP f) w) (-1)
def pG(f:A2.F)(act:List Int):Nat:=qc f.f.2 act 0
theorem zns{f:A2.F}{nx:aO}(h:nx.map (·.2)=f.n.2.map xx):pq f nx (mP f)=ot f:=zke (by rw[h,List.map_map];rfl)
def VL(aL:Nat->Nat->Nat)(lab:Nat->Int)(s0:Nat)(v:V):Prop :=
 (∃i,0<i/\(zm aL s0 i).length=i/\qY (zm aL s0 i)<=600/\v=.br [A2.iL (wM aL s0 lab i),.bN]) \/
 (∃i,600<qY (zm aL s0 i)/\v=.br [.agg [.aG,.aG],.dF 396 (.obj 2)])
inductive AD(aL:Nat->Nat->Nat)(lab:Nat->Int):bM->Nat->aD->Prop
 |nil:AD aL lab [] 0 []
 |snoc {ss:bM} {c s0 i:Nat} {vs:aD} (h:AD aL lab ss c vs) (hi:0<i) (hl:(zm aL s0 i).length=i):AD aL lab (ss++[s0]) (c+qY (zm aL s0 i)) (vs++[A2.iL (wM aL s0 lab i)])
def AlS(f:A2.F)(l:List A2.bW)(v:V):Prop :=
 (∃c vs,AD (ot f) (ri f) (l.map λa=>pG f a.2) c vs/\c<=600/\v=.br [.sl 2 vs .no,.bN]) \/
 (v=.br [.aG,.dF 396 (.obj 2)]/\∃j a c ds i,l[j]?=some a/\AD (ot f) (ri f) ((l.take j).map λa=>pG f a.2) c ds/\600<c+qY (zm (ot f) (pG f a.2) i))
section
variable{l l1:dr}{f:A2.F}{n:Nat}
theorem znt:(S2 l).g 0 0=some (.dF 396 (.obj 0)):=by kernel_rfl
theorem znu:(S2 l).g 2 0=some (.dF 396 (.obj 2)):=by kernel_rfl
theorem zlg(hl:qh prog l_ l)(sL:qh prog l_ l1)(h1:∀x∈l1,x.1=24\/x.1=72){act:A2.bW}{ck rk:Bool}(hn:mP f+1000<=n)(uR:mP f<2 ^ 36)
  (Cm:de l1 24 [A2.fv f]=some (.bool ck)) (NF:de l1 72 [A2.fv f,A2.iv act]=some (.bool rk))
  (hF:ck=true->rk=true->E5 f (mP f) (n - 3)/\(∀r∈act.2,0<=r/\r.toNat<f.f.2.length)/\act.2.length<n - 3/\act.2.length<2 ^ 60) :
  ∃v,v.top=0/\(if ck=true/\rk=true then VL (ot f) (ri f) (pG f act.2) v else v=.br [.agg [.aG,.aG],.dF 396 (.obj 0)])/\qh prog l_ ((28,[A2.fv f,A2.iv act],v)::l):=by
 obtain⟨v,H',hc,hp⟩:=zfm (GSO h1) hn uR Cm NF znt znu hF;have ht:aI [A2.fv f,A2.iv act]=0:=by simp[aI,A2.tc,A2.rI]
 have pS:∀v',mG H' v v'->(∀sz xs e,v'≠.sl sz xs (.yes e))->qh prog l_ ((28,[A2.fv f,A2.iv act],v')::l):=λv' hz eH =>
  kA hl λd H g w bx lc h1 h2 h3=>Qd mixed gI e_ (hkO sL) hc ht hz eH h1 h2 h3
 split at hp
 ·rename_i oQ;obtain⟨nx,Hu,hp⟩:=hp;rw[zns Hu] at hp;rcases hp with⟨i,b,NB,q1,q2,q3,rfl,q5⟩|⟨i,q1,rfl⟩
  ·have hz:=ziY (lab:=ri f) (es:=H'.bG) q5 q1 q2;exact⟨_,hz.top,by rw[if_pos oQ];exact .inl ⟨i,q1,q2,q3,rfl⟩,pS _ hz λ_ _ _ e=>by cases e⟩
  ·exact⟨_,rfl,by rw[if_pos oQ];exact .inr ⟨i,q1,rfl⟩,pS _ (.same rfl) λ_ _ _ e=>by cases e⟩
 next oQ=>subst hp;exact⟨_,rfl,by rw[if_neg oQ],pS _ (.same rfl) λ_ _ _ e=>by cases e⟩
theorem zpb{H:Hp}{x1 x2 y1 y2 e e':V}(h:mG H (.br [.agg [x1,x2],e]) (.br [.agg [y1,y2],e']))(ht:0<(V.agg [x1,x2]).top):mG H x1 y1/\mG H x2 y2/\y1.one=true/\y2.one=true/\aI [y1,y2]=0:=by
 cases h with
 | same h' =>
  simp only[V.top,aI] at h' ht;omega
 | br k1 k2 =>
  have k0:=k2 0 _ _ rfl rfl;have kt:=k0.top;cases k0 with
  | same h' =>
   simp only[V.top,aI] at h' ht;omega
  | agg m1 m2 m3=>exact⟨m3 0 _ _ rfl rfl,m3 1 _ _ rfl rfl,m2 0 _ rfl,m2 1 _ rfl,kt⟩
theorem zpc{aL:Nat->Nat->Nat}{s0:Nat}{lab:Nat->Int}{B:List aY}{es:aO}{b i:Nat}{NB:bM}(h:RW aL s0 B b i NB)(hi:0<i)(hc:(zm aL s0 i).length=i) :
  ∃x1 x2 y1 y2,A5 b NB ((zm aL s0 i).map lab)=.agg [x1,x2]/\A2.iL (wM aL s0 lab i)=.agg [y1,y2]/\mG ⟨B,es⟩ x1 y1/\mG ⟨B,es⟩ x2 y2/\y1.one=true/\y2.one=true/\aI [y1,y2]=0 :=
 ⟨_,_,_,_,rfl,rfl,zpb (ziY (lab:=lab) (es:=es) h hi hc) (znk (dS:=(zm aL s0 i).map lab) h hi)⟩
theorem AW.frz{aL:Nat->Nat->Nat}{lab:Nat->Int}{H:Hp}{ss:bM}{c:Nat}{vs:aD}(h:AW aL lab H.az ss c vs) :
  ∃ds,AD aL lab ss c ds/\vs.length=ds.length/\(zH vs).length=(zH ds).length/\(∀y∈ds,y.cells.length=2)/\(∀(j:Nat)(y:V),(zH ds)[j]?=some y->y.one=true)/\(∀(j:Nat)(x y:V),(zH vs)[j]?=some x->(zH ds)[j]?=some y->mG H x y)/\aI ds=0:=by
 induction h with
 | nil=>exact⟨[],.nil,rfl,rfl,λy hy=>(by cases hy),λj y hy=>(by simp[zH] at hy),λj x y hx=>(by simp[zH] at hx),rfl⟩
 | @snoc ss c s0 i b NB vs h hi hl hr iy ih =>
  obtain⟨ds,q1,q2,q3,q4,q5,q6,q7⟩:=ih;obtain⟨x1,x2,y1,y2,e1,e2,z1,z2,o1,o2,t0⟩:=zpc (lab:=lab) (es:=H.bG) hr hi hl;have f1:zH (vs++[A5 b NB ((zm aL s0 i).map lab)])=zH vs++[x1,x2]:=by rw[e1];simp[zH,V.cells]
  have f2:zH (ds++[A2.iL (wM aL s0 lab i)])=zH ds++[y1,y2]:=by rw[e2];simp[zH,V.cells]
  refine⟨_,.snoc q1 hi hl,by simp[q2],by rw[f1,f2];simp[q3],λy hy=>?_,λj y hy=>?_,λj x y hx hy=>?_,?_⟩
  ·rcases sw.1 hy with h'|h'
   ·exact q4 y h'
   ·rw[oG] at h';rw[h',e2];rfl
  ·rw[f2] at hy;rcases eM j (zH ds).length with hj|hj
   ·rw[gb hj] at hy;exact q5 j y hy
   ·rw[fI hj] at hy
    match j - (zH ds).length,hy with
    | 0,hy=>cases hy;exact o1
    | 1,hy=>cases hy;exact o2
    | k+2,hy=>simp at hy
  ·rw[f1] at hx;rw[f2] at hy;rcases eM j (zH ds).length with hj|hj
   ·rw[gb hj] at hy;rw[gb (by omega)] at hx
    exact q6 j x y hx hy
   ·rw[fI hj] at hy;rw[fI (by omega),q3] at hx
    match j - (zH ds).length,hx,hy with
    | 0,hx,hy=>cases hx;cases hy;exact z1
    | 1,hx,hy=>cases hx;cases hy;exact z2
    | k+2,hx,hy=>simp at hy
  ·refine Nat.le_zero.1 (wD (by omega) ?_)
   rw[e2];simp only[aI,V.top] at t0 ⊢;omega
theorem zkh(hl:qh prog l_ l)(sL:qh prog l_ l1)(h1:∀x∈l1,x.1=24\/x.1=72){cP:A2.gJ}{ck:Bool}{rk:A2.bW->Bool}(hn:mP f+1000<=n)(uR:mP f<2 ^ 36)
  (Cm:de l1 24 [A2.fv f]=some (.bool ck)) (NF:∀a∈cP.2,de l1 72 [A2.fv f,A2.iv a]=some (.bool (rk a)))
  (sQ:cP.2.length<n) (SX:cP.2.length<2 ^ 60) (hF:ck=true->E5 f (mP f) (n - 3)) (hA:∀a∈cP.2,rk a=true->(∀r∈a.2,0<=r/\r.toNat<f.f.2.length)/\a.2.length<n - 3/\a.2.length<2 ^ 60) :
  ∃v,v.top=0/\(if DX ck rk cP.2=true then AlS f cP.2 v else v=.br [.aG,.dF 396 (.obj 0)])/\qh prog l_ ((30,[A2.fv f,A2.rv cP],v)::l):=by
 obtain⟨v,H',hc,hp⟩:=zo7 (GSO h1) hn uR Cm NF znt znu sQ SX hF hA;have ht:aI [A2.fv f,A2.rv cP]=0:=by simp[aI,A2.tc,A2.C5]
 have pS:∀v',mG H' v v'->(∀sz xs e,v'≠.sl sz xs (.yes e))->qh prog l_ ((30,[A2.fv f,A2.rv cP],v')::l):=λv' hz eH =>
  kA hl λd H g w bx lc h1 h2 h3=>Qd mixed gI e_ (hkO sL) hc ht hz eH h1 h2 h3
 split at hp
 ·rename_i oQ;obtain⟨nx,Hu,hp⟩:=hp;rw[zns Hu] at hp;rcases hp with⟨c,vs,q1,q2,rfl⟩|⟨j,a,c,vs,i,B',q1,q2,q3,rfl⟩
  ·have h0:0<vs.length:=by
    rw[q1.len,gk];simp only[DX,d_,decide_eq_true_eq] at oQ;omega
   have e:aV (zl 2 66 vs)=.sl 2 vs .no:=by rw[zgx,VG h0]
   rw[e] at hc;obtain⟨ds,k1,k2,k3,k4,k5,k6,k7⟩:=q1.frz;refine⟨.br [.sl 2 ds .no,.bN],by simp[V.top,aI,k7],by rw[if_pos oQ];exact .inl ⟨c,ds,k1,q2,rfl⟩,?_⟩
   exact kA hl λd H g w bx lc h1 h2 h3=>zoc mixed gI e_ (hkO sL) hc ht k2 k3 k4 k5 k6 k7 h1 h2 h3
  ·exact⟨_,rfl,by rw[if_pos oQ];exact .inr ⟨rfl,j,a,c,_,i,q1,(AW.frz (H:=⟨B',[]⟩) q2).choose_spec.1,q3⟩,pS _ (.same rfl) λ_ _ _ e=>by cases e⟩
 next oQ=>subst hp;exact⟨_,rfl,by rw[if_neg oQ],pS _ (.same rfl) λ_ _ _ e=>by cases e⟩
end
end
section
open Go.Vm.Sx
theorem zpx{l:List Int}(h0:∀i,i<l.length->0<=A2.gi l i)(VM:∀i,0<i->i<l.length->A2.gi l (i - 1)<A2.gi l i):∀i,i<l.length->(i:Int)<=A2.gi l i
 | 0,h=>h0 0 h
 | i+1,h=>by
  have h1:=zpx h0 VM i (by omega)
  have h2:=VM (i+1) (Nat.succ_pos _) h;rw[Nat.add_sub_cancel] at h2;omega
theorem znv{l:List Int}{b:Nat}(h0:∀i,i<l.length->0<=A2.gi l i)(VM:∀i,0<i->i<l.length->A2.gi l (i - 1)<A2.gi l i)(hb:∀i,i<l.length->A2.gi l i<b):l.length<=b:=by
 rcases HU l.length with h|h
 ·omega
 ·have h1:=zpx h0 VM (l.length - 1) (by omega)
  have h2:=hb (l.length - 1) (by omega)
  omega
theorem VN{l:List Int}{z:Int}(h:z∈l):∃i,i<l.length/\A2.gi l i=z:=by
 obtain⟨i,hi,e⟩:=List.getElem_of_mem h;exact⟨i,hi,by simp[A2.gi,hi,e]⟩
theorem S4{n:Nat}{l:List Int}(h:kU (A2.uY n l) l.length=true):(∀r∈l,0<=r/\r.toNat<n)/\l.length<=n:=by
 have hk:∀i,i<l.length->0<=A2.gi l i/\A2.gi l i<n/\(0<i->A2.gi l (i - 1)<A2.gi l i):=λi hi=>by
  have:=bX.1 h i hi;simp only[A2.uY,cJ,lO,d_,p7,Dd,decide_eq_false_iff_not,beq_iff_eq] at this;exact⟨by omega,by omega,λh0=>by omega⟩
 refine⟨λr hr=>?_,znv (λi hi=>(hk i hi).1) (λi h0 hi=>(hk i hi).2.2 h0) λi hi=>(hk i hi).2.1⟩;obtain⟨i,hi,rfl⟩:=VN hr;have:=hk i hi;omega
theorem zh4{n R:Nat}{r:List Int}{iw:Int}{l:List Int}(h:kU (A2.pg n r iw l) l.length=true)(h0:0<=iw)(h1:iw<R):(∀z∈l,0<=z/\z.toNat<n+R)/\l.length<=n+R:=by
 have hk:∀i,i<l.length->0<=A2.gi l i/\A2.gi l i<((n+R:Nat):Int)/\(0<i->A2.gi l (i - 1)<A2.gi l i):=λi hi=>by
  have:=bX.1 h i hi;unfold A2.pg at this;cases hc:(i == 0 || !lO (A2.gi l i) (A2.gi l (i - 1))) && !cJ (A2.gi l i) 0 with
  | false=>rw[hc] at this;cases this
  | true =>
   rw[hc] at this;simp only[cJ,lO,d_,p7,Dd,decide_eq_false_iff_not,beq_iff_eq] at hc;refine⟨by omega,?_,λh0=>by omega⟩
   cases h2:A2.gi l i == (n:Int)+iw with
   | true =>
    have:=eq_of_beq h2;omega
   | false =>
    rw[h2] at this;cases h3:lO (n:Int) (A2.gi l i) with
    | true=>rw[h3] at this;cases this
    | false =>
     simp only[lO,decide_eq_false_iff_not] at h3;omega
 refine⟨λz hz=>?_,znv (λi hi=>(hk i hi).1) (λi h0 hi=>(hk i hi).2.2 h0) λi hi=>(hk i hi).2.1⟩;obtain⟨i,hi,rfl⟩:=VN hz;have:=hk i hi;omega
theorem zgA{f:A2.F}(hq:∀q∈f.s.2,C9 q)(h:A2.EC f.s.2.length f.r.2 (A2.rowsOf f.f) (A2.rowsOf f.n)=true){n:Nat}(hn:2000<=n):E5 f ((f.s.2.length+f.f.2.length) / 8+1) n/\f.s.2.length<=1000/\f.f.2.length<=200:=by
 unfold A2.EC at h;cases hh:(((cJ 1000 (f.s.2.length:Int) || cJ 200 ((A2.rowsOf f.f).length:Int)) || !((f.r.2.length:Int) == (f.s.2.length:Int))) || !(((A2.rowsOf f.n).length:Int) == (f.s.2.length:Int))) with
 | true=>rw[hh] at h;cases h
 | false =>
 rw[hh] at h;simp only[cJ,A2.ep,JJ,Bool.not_eq_false',beq_iff_eq,decide_eq_false_iff_not] at hh;obtain⟨⟨⟨g1,g2⟩,g3⟩,g4⟩:=hh;simp only[oJ] at h;cases hs:A2.nQ f.r.2 with
 | false=>rw[hs] at h;cases h
 | true =>
 rw[hs] at h;simp only[mS] at h;have hr:(∀i,i<f.s.2.length->0<=A2.gi f.r.2 i/\A2.gi f.r.2 i<f.f.2.length)/\A2.nR f.s.2.length f.r.2 (A2.rowsOf f.f) (A2.rowsOf f.n)=true:=by
  cases h0:cJ 0 (f.s.2.length:Int) with
  | false =>
   rw[h0] at h;simp only[cJ,decide_eq_false_iff_not] at h0;exact⟨λi hi=>by omega,h⟩
  | true =>
   rw[h0] at h;simp only[mS] at h;cases h1:cJ (A2.gi f.r.2 0) 0 with
   | true=>rw[h1] at h;cases h
   | false =>
   rw[h1] at h;simp only[oI,mS] at h;cases h2:lO ((A2.rowsOf f.f).length:Int) (A2.gi f.r.2 (f.s.2.length - 1)) with
   | true=>rw[h2] at h;cases h
   | false =>
   rw[h2] at h;simp only[cJ,lO,A2.ep,decide_eq_false_iff_not] at h1 h2;refine⟨λi hi=>?_,h⟩;have k1:=A2.pU hs (i:=0) (j:=i) (ec _) (by omega)
   have k2:=A2.pU hs (i:=i) (j:=f.s.2.length - 1) (by omega) (by omega)
   omega
 obtain⟨hr,h⟩:=hr;unfold A2.nR at h;cases hA:kU (λi=>kU (A2.pg f.s.2.length f.r.2 (i:Int) (A2.gr (A2.rowsOf f.f) i)) (A2.gr (A2.rowsOf f.f) i).length) (A2.rowsOf f.f).length with
 | false=>rw[hA] at h;cases h
 | true =>
 rw[hA] at h;simp only[mS] at h;rw[A2.ep] at hA;have rn:∀row∈f.n.2,(∀z∈row.2,0<=z/\z.toNat<f.s.2.length+f.f.2.length)/\row.2.length<=f.s.2.length+f.f.2.length:=λrow Dl=>by
  obtain⟨i,hi,e⟩:=List.getElem_of_mem Dl;have hg:A2.gr (A2.rowsOf f.n) i=row.2:=A2.o8 (by rw[gj hi,e])
  have h1:=bX.1 h i (by omega)
  rw[hg] at h1;obtain⟨k1,k2⟩:=hr i (by omega)
  exact zh4 h1 k1 k2
 have rf:∀row∈f.f.2,(∀z∈row.2,0<=z/\z.toNat<f.s.2.length+f.f.2.length)/\row.2.length<=f.s.2.length+f.f.2.length:=λrow Dl=>by
  obtain⟨i,hi,e⟩:=List.getElem_of_mem Dl;have hg:A2.gr (A2.rowsOf f.f) i=row.2:=A2.o8 (by rw[gj hi,e])
  have h1:=bX.1 hA i hi;rw[hg] at h1;exact zh4 h1 (by omega) (by omega)
 refine⟨⟨rfl,hq,⟨by omega,by omega⟩,by omega,by omega,λrow Dl=>?_,λrow Dl=>?_⟩,by omega,by omega⟩
 ·obtain⟨k1,k2⟩:=rn row Dl;exact⟨by omega,by omega,k1⟩
 ·obtain⟨k1,k2⟩:=rf row Dl;exact⟨by omega,by omega,k1⟩
end
end Go.Proofs.YthohlnmcjkjeiaaGreatDoor
