/- Seat 8: SubsetChecks' argument, read. Conditions: none but those named. -/
import Derived.Test.YthohlnmcjkjeiaaGreatDoorVmQ
namespace Go.Proofs.YthohlnmcjkjeiaaGreatDoor.A2
open Go.Proofs.Tryz
set_option maxRecDepth 100000
open Go Go.Vm Go.Vm.Sx
theorem c5:prog.cellsOf 5=1:=by kernel_rfl
theorem b5:prog.bytesOf 5=1:=by kernel_rfl
end Go.Proofs.YthohlnmcjkjeiaaGreatDoor.A2
namespace Go.Proofs.YthohlnmcjkjeiaaGreatDoor
open Go Go.Vm
open Go.Proofs.Tryz
set_option maxRecDepth 100000
section
theorem c45:prog.cellsOf 53=10:=by kernel_rfl
theorem c9:prog.cellsOf 9=1:=by kernel_rfl
theorem Na:prog.cellsOf 3=1:=by kernel_rfl
def QU(z:Int):Prop:=0<=z/\z<18446744073709551616
mutual
def QE:E->Prop
 | .mk _ _ s0 s1 s2 s3 _ _ _ _ args=>(QU s0/\QU s1/\QU s2/\QU s3)/\MU args
def MU:List E->Prop
 | []=>True
 | e::l=>QE e/\MU l
end
end
section
open Go.Vm.Sx
theorem zna{l:List Cr}(h:Iz l)(he:bE l=.bP):∃k:Nat,xe l=((k:Int),true)/\k<=1000/\k=mN (l.map fh)/\l.length<=200/\nu 0 l=((k:Int),true)/\(∀c∈l,nodes c.1<=1800/\nodes c.2.2<=1800)/\∀e∈l.map fh,gd e=true:=by
 obtain⟨p,ok,Ac⟩:∃p ok,xe l=(p,ok):=⟨_,_,rfl⟩;rw[bE,Ac] at he;cases ok with
 | false=>cases he
 | true =>
  simp only[oo] at he;have hp:p<=1000:=by
   rcases Int.lt_or_le 1000 p with h|h
   ·rw[if_pos h] at he;cases he
   ·exact h
  have hlen:l.length<=200/\nu 0 l=(p,true):=by
   unfold xe at Ac;cases hx:dV 200 (l.length:Int) with
   | true=>rw[hx] at Ac;simp at Ac
   | false =>
    rw[hx] at Ac;simp only[rB] at Ac;refine⟨?_,Ac⟩;rcases eY 200 l.length with hh|hh
    ·rw[Px (by omega)] at hx;cases hx
    ·exact hh
  have FG:∀c∈l,nodes c.1<=1800/\nodes c.2.2<=1800:=by
   rcases h.YT with hh|hh
   ·omega
   ·exact hh
  obtain⟨m1,_,m3⟩:=CH l 0 FG (by omega) (by omega) (by rw[hlen.2]) (by rw[hlen.2];exact hp)
  rw[hlen.2] at m1;simp only[Int.zero_add] at m1;exact⟨mN (l.map fh),by rw[Ac,m1],by omega,rfl,hlen.1,by rw[hlen.2,m1],FG,m3⟩
theorem ziN{n:Nat}(es:List E):∀(r:Nat)(m:Mk),(qq n r es m).1.length=es.length:=by
 induction es with
 | nil=>intro r m;rfl
 | cons e es ih=>intro r m;simp only[qq,bh,ih]
theorem znb{p:Nat->Bool}:(jl p 19).length<=1216:=by
 have:=xq (p:=p) 19;rw[xF,iK] at this;omega
end
section
open Go.Vm.Sx
def MQ(m:Mk):Prop:=(∀q∈m.sets,CI q)/\∀z∈m.rules,A2.LY z
theorem qok{a b c d:Int}(h:QU a/\QU b/\QU c/\QU d):CI (a,b,c,d):=λi=>by
 match i with
 | 0=>exact h.1
 | 1=>exact h.2.1
 | 2=>exact h.2.2.1
 | i+3=>exact h.2.2.2
section
variable{r op mn mx:Int}{m:Mk}
theorem zox{q:Int×Int×Int×Int}(h:MQ m)(hq:CI q)(hr:A2.LY r):MQ (jP op q r m).2:=by
 unfold jP;split
 ·exact h
 ·refine⟨λx hx=>?_,λx hx=>?_⟩
  ·rcases tu.1 hx with h'|h'
   ·exact h.1 x h'
   ·rw[r9.1 h'];exact hq
  ·rcases tu.1 hx with h'|h'
   ·exact h.2 x h'
   ·rw[r9.1 h'];exact hr
theorem zpJ{x:Part×Mk}(h:MQ x.2):MQ (xd op mn mx x).2:=by
 unfold xd;split<;>exact h
mutual
theorem zoT(hr:A2.LY r):∀(e:E)(m:Mk),QE e->MQ m->MQ (iT r e m).2
 | .mk op _ s0 s1 s2 s3 _ mn mx _ [],m,he,h=>by
  simp only[QE] at he;simp only[iT];exact zox h (qok he.1) hr
 | .mk op _ s0 s1 s2 s3 _ mn mx _ (a::tl),m,he,h=>by
  simp only[QE] at he;simp only[iT];exact zpJ (zoU hr (a::tl) op 0 p0 m he.2 h)
theorem zoU(hr:A2.LY r):∀(es:List E)(op:Int)(k:Nat)(a:Part)(m:Mk),MU es->MQ m->MQ (sP r op k a es m).2
 | [],op,k,a,m,he,h=>by simp only[sP];exact h
 | e::es,op,k,a,m,he,h=>by
  simp only[MU] at he;simp only[sP];exact zoU hr es op (k+1) (zQ op k a (iT r e m).1 (iT r e m).2.next).1 { (iT r e m).2 with next:=(zQ op k a (iT r e m).1 (iT r e m).2.next).2 } he.2 (zoT hr e m he.1 h)
end
theorem zhI{n:Nat}:∀(es:List E)(r:Nat)(m:Mk),(∀e∈es,QE e)->r+es.length<=1000000->MQ m->MQ (qq n r es m).2
 | [],r,m,he,hr,h=>h
 | e::es,r,m,he,hr,h=>by
  simp only[bh] at hr;simp only[qq];have hh:=zoT (r:=(r:Int)) ⟨by omega,by omega⟩ e m (he e (fy ..)) h
  have h2:MQ (jW n r e m).2:=by
   simp only[jW];exact⟨hh.1,hh.2⟩
  exact zhI es (r+1) (jW n r e m).2 (λx hx=>he x (eo _ hx)) (by omega) h2
theorem zee{n:Nat}:∀(es:List E)(r:Nat)(m:Mk),∀x∈(qq n r es m).1,∃p,x=jl p 19
 | [],r,m,x,h=>by cases h
 | e::es,r,m,x,h=>by
  simp only[qq] at h;rcases dM.1 h with h|h
  ·rw[h];simp only[jW];exact⟨_,rfl⟩
  ·exact zee es _ _ x h
theorem zqr{c:Cr}(h:QE c.1/\QE c.2.2):QE (fh c):=by
 unfold fh;split
 ·have z:QU 0:=⟨by omega,by omega⟩
  simp only[QE,MU];exact⟨⟨z,z,z,z⟩,h.1,h.2,trivial⟩
 ·exact h.1
end
def toF(x:Fo):A2.F:=⟨(true,x.s),(true,x.r),(true,x.f.map λy=>(true,y)),(true,x.n.map λy=>(true,y))⟩
theorem znc(l:List (List Int)):GL l=A2.rv (true,l.map λy=>(true,y)):=by
 unfold GL A2.rv;rw[List.map_map];rfl
theorem zpK(x:Fo):TS x=A2.fv (toF x):=by
 unfold TS Qh A2.fv A2.fc;rw[znc,znc];rfl
def fF(l:List Cr):A2.F:=toF (IA l)
theorem zpL{l:bO}(h:l.length<=1216)(hx:∀k∈l,k<1216):A2.WI (true,l.map Int.ofNat):=by
 refine⟨?_,λz hz=>?_⟩
 ·have h2:(10000:Nat)<=reachBytes:=by decide
  simp only[iK];omega
 ·obtain⟨k,hk,rfl⟩:=mU.1 hz;have:=hx k hk;exact⟨by show _<=((k:Nat):Int);omega,by show((k:Nat):Int)<=_;omega⟩
theorem znd{p:Nat->Bool}:A2.WI (true,(jl p 19).map Int.ofNat):=zpL znb λ_k hk=>(iz.1 hk).1
theorem zqs{l:List Cr}(h:Iz l)(he:bE l=.bP)(hq:∀c∈l,QE c.1/\QE c.2.2):bV l=.bx [A2.fv (fF l),.bP]/\A2.WF (fF l)/\(∀q∈(fF l).s.2,CI q)/\(fF l).s.2.length<=1000/\(fF l).f.2.length=l.length/\l.length<=200:=by
 obtain⟨k,h1,h2,h3,h4,_,_,h7⟩:=zna h he;obtain⟨r1,_,r3⟩:=Yh (n:=k) (l.map fh) 0 m0 h7 ⟨rfl,rfl⟩ (by simp[m0];omega) (by rw[iK];omega) (λx hx=>by simp[m0] at hx)
 have hm:MQ (qq k 0 (l.map fh) m0).2:=zhI _ _ _ (λe he=>by
  obtain⟨c,hc,rfl⟩:=mU.1 he
  exact zqr (hq c hc)) (by rw[iK];omega) ⟨λq hq=>(by cases hq),λq hq=>(by cases hq)⟩
 have hf:IA l=⟨(qq k 0 (l.map fh) m0).2.sets,(qq k 0 (l.map fh) m0).2.rules,(qq k 0 (l.map fh) m0).1.map (·.map Int.ofNat),(qq k 0 (l.map fh) m0).2.next.map λp=>(jl p 19).map Int.ofNat⟩:=by
  rw[IA,h1];simp only[uP]
 have e0:m0.sets.length=0:=rfl;have Jf:(1000000:Nat)<=reachBytes:=by decide
 have hA:bV l=.bx [A2.fv (fF l),.bP]:=by
  rw[bV,he,bA,h1];simp only[oo,if_neg (show ¬(1000<(k:Int)) by omega)]
  rw[<- show TS (IA l)=.agg (Qh (IA l)) from rfl,zpK];rfl
 have l1:=ziN (n:=k) (l.map fh) 0 m0;rw[iK] at l1;have l2:=r3.r;have l3:=r3.n;refine⟨hA,?_,?_,?_,?_,h4⟩
 ·rw[fF,hf];refine⟨?_,⟨?_,hm.2⟩,⟨?_,λq hq=>?_⟩,⟨?_,λq hq=>?_⟩⟩
  ·show(qq k 0 (l.map fh) m0).2.sets.length * 32<=_;omega
  ·show(qq k 0 (l.map fh) m0).2.rules.length * 8<=_;omega
  ·show(((qq k 0 (l.map fh) m0).1.map _).map _).length * 24<=_;rw[iK,iK];omega
  ·obtain⟨y,hy,rfl⟩:=mU.1 hq;obtain⟨z,hz,rfl⟩:=mU.1 hy;obtain⟨p,hp⟩:=zee _ _ _ z hz;have h1:=znd (p:=p);rw[<- hp] at h1;exact h1
  ·show(((qq k 0 (l.map fh) m0).2.next.map _).map _).length * 24<=_
   rw[iK,iK];omega
  ·obtain⟨y,hy,rfl⟩:=mU.1 hq;obtain⟨p,_,rfl⟩:=mU.1 hy;have h1:=znd (p:=p);generalize jl p 19=z at h1 ⊢;exact h1
 ·rw[fF,hf];exact hm.1
 ·rw[fF,hf];show(qq k 0 (l.map fh) m0).2.sets.length<=_;omega
 ·rw[fF,hf];show(((qq k 0 (l.map fh) m0).1.map _).map _).length=_;rw[iK,iK];omega
end
section
open Go.Vm.Sx
section
variable{aU:Nat->Nat->Nat}{lab:Nat->Int}{s i:Nat}
theorem Cl.le(h:Cl aU s i)(h6:qB (zl aU s i)<=600):i<=600:=by
 have:=Ur (yb (aU:=aU) (s0:=s) i);rw[h.2] at this;omega
end
end
section
open Go.Vm.Sx
section
variable{aU:Nat->Nat->Nat}{s:Nat}{P:Nat->Prop}
end
section
variable{f:A2.F}{n:Nat}
end
end
section
open Go.Vm.Sx
end
end Go.Proofs.YthohlnmcjkjeiaaGreatDoor
namespace Go.Proofs.YthohlnmcjkjeiaaGreatDoor.A2
open Go.Proofs.Tryz
set_option maxRecDepth 100000
set_option maxHeartbeats 1000000
open Go Go.Vm Go.Vm.Sx
variable{gl:Gl}{fK:bO}
theorem MV:prog.underlying 78=some (.slice 5):=by kernel_rfl
theorem aaP:qG prog 5=some false:=by kernel_rfl
theorem aaQ:z4 prog 5=some 1:=by kernel_rfl
theorem zoy{H:Hp}{p:cX}:qW prog H 78 (Ey p)=some (p.2.length:Int):=by
 unfold Ey;rcases cO 1 p.1 (p.2.map be) with h|⟨h0,h⟩<;>rw[h]
 ·simp[qW]
 ·simp only[List.map_eq_nil_iff] at h0;simp[qW,h0]
theorem zoz{p:cX}{i:Nat}{b:Int}(h:p.2[i]?=some b):zt prog 78 (Ey p) (i:Int)=some (.vp [.int .u8 b]):=by
 have hk:¬((i:Int)<0):=by omega
 have hn:nth (p.2.map be) i=some (be b):=by rw[zg,mu,h];rfl
 have cK:Ey p=.sl 1 (p.2.map be) .no:=by
  unfold Ey;rcases cO 1 p.1 (p.2.map be) with h'|⟨h0,_⟩
  ·exact h'
  ·simp only[List.map_eq_nil_iff] at h0;rw[h0] at h;simp at h
 rw[cK];simp[zt,aaQ,hk,hn,V.cells,be]
theorem zqK{H:Hp}{g:Nat->Nat->cj}{z:Int}:zk prog H g 5 (.vp [.int .u8 z])=some (.int .u8 z):=by
 simp[zk,qy,aaP,nth,wP]
theorem zoV{bs:List bq}{es:aP}{d:D}{g:Nat->Nat->cj}:zk prog ⟨bs++[.cells [rv d.1,iv d.2] 66],es⟩ g 66 (.ptr bs.length 0)=some (oe d):=by
 rw[jp RQ F4 Qm (by simp)];rfl
theorem ziO(d:D):bg (oe d)=oe d:=by simp[oe,je]
theorem Kg:qG prog 37=some false:=by kernel_rfl
theorem aaS(hg:GK gl fK)(h27:fK.any (Nat.beq 27)=false)(h33:fK.any (Nat.beq 33)=false)(RJ:gl.g 0 0=some CF)(d:D)(hd:WD d)(t:cX)(ht:t.2.length<2 ^ 60)(hb:∀b∈t.2,0<=b/\b<256):Kn prog gl 33 [oe d,Ey t] (FB d t.2):=by
 have hr:=mO;have dH:(FB d t.2).top=0:=by unfold FB;cases rY (rowsOf d.1) d.2.2<;>rfl
 refine⟨_,xw hg func33 rfl h33 dH (d.1.2.length+t.2.length+300) λn hn bs=>?_⟩;have Ql:∀H,Cx.bK ⟨prog,gl.g,zj prog gl n,nU⟩ 27 [oe d] H=some (.val (.bool (rY (rowsOf d.1) d.2.2)),H):=yl func27 rfl (RR hg h27 d hd n (by omega))
 simp only[f33,zi];refine rg ?_;simp only[BW,Nat.reduceAdd,List.replicate,ziF,qg (ziE d),UJ];refine rg ?_;unfold FB;cases hm:rY (rowsOf d.1) d.2.2 with
 | false =>
  rw[hm] at Ql;simp only[BW,zoV,ziO,Ql,i_];refine jo (tk:=[]) (by kernel_rfl) (by kernel_rfl) ?_
  have Od:∀H,zk prog H gl.g 37 (.eV 0 0)=some CF:=λH=>by simp[zk,Kg,RJ]
  simp only[BW,Od,Kg,show bg CF=CF from rfl,show ∀env t,jd env t (some CF)=some (CF,env) from λ_ _=>rfl];exact Qj rfl rfl ⟨rfl,_,rfl⟩
 | true =>
  rw[hm] at Ql;simp only[BW,zoV,ziO,Ql,i_];refine rg ?_;simp only[BW];refine rg ?_;simp only[BW,zoy,zmj];have hmg:=(Yi hm).2;have h1:=(Yi hm).1.1;rw[ew] at h1
  refine qx (λm st=>∃i env,m+i=t.2.length/\st=⟨env,⟨bs++[.cells [rv d.1,iv d.2] 66],[]⟩,[],[]⟩/\Ks 29 [(2,.ptr bs.length 0),(6,.int .i64 (GM (rowsOf d.1) 0 (t.2.take i))),(13,Ey t),(14,.int .i64 (t.2.length:Nat)),(15,.int .i64 (i:Nat))] env) t.2.length (by omega) ⟨0,_,rfl,rfl,mo rfl⟩ ?_
  rintro m st ⟨i,env,A9,rfl,⟨j,rfl⟩⟩;simp only[sh,Az,Nat.reduceBEq,Nat.reduceAdd,oo,rB];simp only[zi];refine rg ?_;simp only[BW,qK]
  by_cases hi:i<t.2.length
  ·refine .inl ⟨by simp;omega,?_⟩
   obtain⟨b,Q8⟩:∃b,t.2[i]?=some b:=⟨t.2[i],by simp[hi]⟩
   have hbr:=hb b (pG Q8);obtain⟨r0,r1⟩:=zjw hm (t:=t.2.take i) (s:=0) (λc hc=>hb c (Bt hc)) (by omega) (by rw[ew];omega)
   have UO:GM (rowsOf d.1) 0 (t.2.take (i+1))=gi (gr (rowsOf d.1) (GM (rowsOf d.1) 0 (t.2.take i)).toNat) b.toNat:=by
    rw[List.take_add_one,Q8];exact zeU
   rw[ew] at r1;generalize GM (rowsOf d.1) 0 (t.2.take i)=s at r0 r1 UO;obtain⟨s,rfl⟩:∃k:Nat,s=k:=⟨s.toNat,by omega⟩
   obtain⟨b,rfl⟩:∃k:Nat,b=k:=⟨b.toNat,by omega⟩
   rw[uP,uP] at UO;obtain⟨q,hq⟩:∃q,d.1.2[s]?=some q:=⟨d.1.2[s]'(by omega),by simp[show s<d.1.2.length by omega]⟩
   have NN:gr (rowsOf d.1) s=q.2:=rz hq;have Kb:=(hmg s (by rw[ew];omega)).1
   rw[NN] at UO Kb;have MP:=vy (p:=q) (i:=b) (by omega)
   refine rg ?_;simp only[BW,zmj,zoz Q8,zqK];refine rg ?_;simp only[BW,pW,Ka l_,b_,UK hq,UM,bL,MP,xI];refine rg ?_;simp only[BW,qn (show i<2 ^ 60 by omega)]
   refine⟨m - 1,by omega,i+1,_,by omega,rfl,?_⟩
   rw[UO];exact mo rfl
  ·obtain rfl:i=t.2.length:=by omega
   refine .inr ⟨by simp,?_⟩
   refine rg ?_;simp only[BW,Gc];exact Qj rfl rfl ⟨rfl,_,rfl⟩
end Go.Proofs.YthohlnmcjkjeiaaGreatDoor.A2
namespace Go.Proofs.YthohlnmcjkjeiaaGreatDoor
open Go.Proofs.Tryz
set_option maxRecDepth 1000000
open Go Go.Vm Go.RowKit Go.ChangeAt Go.WideShapes
def t97:A2.cX:=(true,[97])
theorem wd0:A2.WD ue where
 n:=⟨by decide,λq hq=>by
  have h1:q∈[(true,(List.range 256).map λy=>if y=97 then (2:Int) else 1),(true,List.replicate 256 1),(true,List.replicate 256 1)]:=hq
  have hz:∀z∈q.2,z=1\/z=2:=λz hz=>by
   simp only[dM,uh,tB] at h1;rcases h1 with rfl|rfl|rfl
   ·obtain⟨y,_,rfl⟩:=mU.1 hz;split<;>simp
   ·exact .inl (List.eq_of_mem_replicate hz)
   ·exact .inl (List.eq_of_mem_replicate hz)
  have hl:q.2.length=256:=by
   simp only[dM,uh,tB] at h1;rcases h1 with rfl|rfl|rfl<;>simp
  refine⟨by rw[hl];decide,λz h=>?_⟩
  unfold A2.LY
  rcases hz z h with rfl|rfl<;>decide⟩
 l:=⟨by decide,λz hz=>by
  have h1:z∈[(-1:Int),-1,0]:=hz;unfold A2.LY;simp only[dM,uh,tB] at h1
  rcases h1 with rfl|rfl|rfl<;>decide⟩
theorem aaT:A2.rY (A2.rowsOf ue.1) ue.2.2=true:=by kernel_rfl
theorem aaU:A2.FB ue t97.2=.bx [.int .i64 2,.bP]:=by kernel_rfl
def Ai:ee:=[(33,[A2.oe ue,A2.Ey t97],.bx [.int .i64 2,.bP]),(27,[A2.oe ue],.bool true),(28,[EE,RM],wdV),(14,[RL],.bx [EE,.bP]),(45,MJ,RL),(66,MJ,UF)]
theorem aaV:z0 prog fj [(45,MJ,RL),(66,MJ,UF)]:=yI mixed gK ff (yI mixed gK ff qY (ziz 0) rfl rfl (hit:=λ_ _ _ r_ h=>ML r_ h)) (zkR 0) rfl rfl (hit:=λ_ _ _ r_ h=>ML r_ h)
theorem aaW:nt prog { g:=fj,hk:=cN [],uq:=eg }:=⟨λf args v h=>(by cases h),λn f args H out H' h=>(by cases h),λ_ _ _ r_ h=>ML r_ h⟩
theorem aaX:z0 prog fj Ai:=by
 refine kz (kz (kz (kz aaV λd H g w bG lc h1 h2 h3=>?_) λd H g w bG lc h1 h2 h3=>?_) λd H g w bG lc h1 h2 h3=>?_) λd H g w bG lc h1 h2 h3=>?_
 ·obtain⟨u,H',hc,hz⟩:=zpD (ziA 0);exact Pd mixed gK ff aaW hc rfl hz (λsz xs e h=>by cases h) h1 h2 h3
 ·obtain⟨u,H',hc,hz⟩:=Ah;exact Pd mixed gK ff aas hc rfl hz (λsz xs e h=>by cases h) h1 h2 h3
 ·have he:=A2.RR YV rfl ue wd0;rw[aaT] at he;exact xC mixed gK ff Fj (he _ (dB _) ⟨[],[]⟩) (by simp[aL,A2.CE]) rfl h1 h2 h3
 ·have he:=A2.aaS YV rfl rfl (by kernel_rfl) ue wd0 t97 (by decide) (λb hb=>by
   have h1:b∈[(97:Int)]:=hb;obtain rfl:=r9.1 h1
   exact⟨by decide,by decide⟩)
  rw[aaU] at he;obtain⟨k,hk⟩:=he;exact xC mixed gK ff Fj (hk k (dB _) ⟨[],[]⟩) (by simp[aL,A2.CE,A2.LZ]) rfl h1 h2 h3
theorem ziP(n:Nat):zj prog { g:=fj,hk:=cN Ai,uq:=eg } (n+60) 26 [] ⟨[],[]⟩=some (.ret (.bool true),⟨[],[]⟩):=by kernel_rfl
theorem aaY:z0 prog fj ((26,[],.bool true)::Ai):=yI mixed gK ff aaX (ziP 0) rfl rfl (hit:=λ_ _ _ r_ h=>ML r_ h)
end Go.Proofs.YthohlnmcjkjeiaaGreatDoor
namespace Go.Proofs.YthohlnmcjkjeiaaGreatDoor.A2
open Go.Proofs.Tryz
set_option maxRecDepth 100000
section
open Go Go.Vm Go.Vm.Sx
end
section
open Go Go.Vm Go.Vm.Sx
variable{gl:Gl}{fK:bO}
end
section
open Go Go.Vm Go.Vm.Sx
set_option maxHeartbeats 2000000
variable{gl:Gl}{fK:bO}
theorem zqt{a:a_}:q0 prog .neq 37 a (.const .nilIface) (some .bP) (some .bP)=some (.bool false):=by cases a<;>kernel_rfl
theorem zqL{a:a_}:q0 prog .eql 37 a (.const .nilIface) (some .bP) (some .bP)=some (.bool true):=by cases a<;>kernel_rfl
theorem MW(f:F):bg (fv f)=fv f:=by simp[fv,fc,je]
def zF:aG:=fc ⟨(true,[]),(true,[]),(true,[]),(true,[])⟩
theorem aaZ:qL prog 30=some (.agg zF):=by kernel_rfl
theorem R4:prog.underlying 61=some (.slice 66):=by kernel_rfl
theorem zjX{H:Hp}{vs:aG}{o:uj}:qW prog H 61 (.sl 2 vs o)=some (vs.length:Int):=by simp[qW]
theorem R5:qG prog 30=some true:=by kernel_rfl
theorem Kh:z4 prog 30=some 4:=by kernel_rfl
section
variable{bs:List bq}{es:aP}{env:aG}{df:bS}{x:bq}{g:Nat->Nat->cj}
end
end
end Go.Proofs.YthohlnmcjkjeiaaGreatDoor.A2
namespace Go.Proofs.YthohlnmcjkjeiaaGreatDoor
open Go.Proofs.Tryz
set_option maxRecDepth 1000000
open Go Go.Vm Go.Vm.Sx
def UP(b:Bool):Nat->Nat->cj:=if b then JS else fj
def glH(b:Bool)(l:ee):Gl:={ g:=UP b,hk:=cN l }
theorem toX{b:Bool}{l:ee}(h:z0 prog fj l):z0 prog (UP b) l:=by
 cases b with
 | false=>exact h
 | true=>exact⟨λf args v hv d H g w bG lc h1 h2 h3=>h.pure f args v hv d H g w bG lc (zp6 h1) h2 h3,λn f args H out H' h=>(by cases h),λ_ _ _ _ h=>(by cases h)⟩
theorem hkH{b:Bool}{l:ee}(h:z0 prog (UP b) l):nt prog (glH b l):=h
def FL:ee:=[(26,[],.bool true)]
theorem aa0:z0 prog fj FL:=kz qY λd H g w bG lc h1 h2 h3=>aaY.pure 26 [] (.bool true) rfl d H g w bG lc h1 h2 h3
theorem zqu{L:ee}(hl:z0 prog fj L){nl:Bool}{l:List Cr}(h:Iz l):z0 prog fj ((14,[jb nl l],bV l)::L) :=
 kz hl λd H g w bG lc h1 h2 h3=>by
  obtain⟨u,H',hc,hz⟩:=zhn nl l h;exact Pd mixed gK ff hkb hc (by simp[aL,zeT]) hz (λsz xs e=>by simp[bV]) h1 h2 h3
def IV:V:=.dX 396 (.obj 2)
theorem zv{f g:FuncId}{ys xs:aG}{v:V}{l:ee}(h:Nat.beq f g=false):cN ((g,ys,v)::l) f xs=cN l f xs:=by
 simp only[cN,h]
section
variable{gl:Gl}{fK:bO}{f:A2.F}{n i:Nat}{act:List Int}
end
end Go.Proofs.YthohlnmcjkjeiaaGreatDoor
