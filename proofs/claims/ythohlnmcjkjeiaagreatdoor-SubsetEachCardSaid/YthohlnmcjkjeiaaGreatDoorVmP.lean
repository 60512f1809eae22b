/- Seat 8, subset: which automata may be (subset.Check): walked. Conditions: none but those named. -/
import Derived.Test.YthohlnmcjkjeiaaGreatDoorVmN
namespace Go.Proofs.YthohlnmcjkjeiaaGreatDoor.A2
open Go Go.Vm Go.Vm.Sx
open Go.Proofs.Tryz
set_option maxRecDepth 100000
section
set_option maxHeartbeats 1000000
variable{gl:Gl}{ef:bN}
theorem gJ:qD prog 27=some false:=by kernel_rfl
theorem Q_:z4 prog 27=some 1:=by kernel_rfl
theorem Bt:qD prog 66=some true:=by kernel_rfl
theorem Bu:z4 prog 66=some 2:=by kernel_rfl
theorem pE:zB prog 66 0=some 0/\zB prog 66 1=some 1:=⟨by kernel_rfl,by kernel_rfl⟩
theorem Un(d:D):dz (ij d)=true:=rfl
theorem Ra(d:D):(ij d).laid=[rv d.1,iv d.2]:=by simp[ij,V.laid,bB,bH]
theorem Uo(d:D)(env:aD)(t:Nat):qK env t (some (ij d))=some (ij d,env):=rfl
theorem yU{p:f_}{i:Nat}{q:cE}(h:p.2[i]?=some q):zt prog 28 (rv p) (i:Int)=some (.vp [iv q]):=by
 have hk:¬((i:Int)<0):=by omega
 have hn:nth (p.2.map iv) i=some (iv q):=by rw[zg,iY,h];rfl
 have cI:rv p=.sl 1 (p.2.map iv) .no:=by
  unfold rv;rcases cH 1 p.1 (p.2.map iv) with h'|⟨h0,_⟩
  ·exact h'
  ·simp only[List.map_eq_nil_iff] at h0;rw[h0] at h;simp at h
 have hc:(iv q).cells=[iv q]:=by
  unfold iv;rcases cH 1 q.1 (q.2.map ie) with h'|⟨_,h'⟩<;>rw[h']<;>rfl
 rw[cI];simp[zt,Q_,hk,hn,hc]
theorem IY{H:Hp}{g:Nat->Nat->bX}{v:V}:zk prog H g 27 (.vp [v])=some v:=by
 simp[zk,qy,gJ,nth,wW]
theorem w6{p:cE}{i:Nat}(h:i<p.2.length):zt prog 27 (iv p) (i:Int)=some (.vp [.int .i64 (gi p.2 i)]):=by
 rw[YJ h];simp[ie,gi,h]
theorem FZ{bs:List aV}{es:aN}{cs:aD}{ty t:aB}{g:Nat->Nat->bX}{off:Nat}(ha:qD prog t=some false):zk prog ⟨bs++[.cells cs ty],es⟩ g t (.ptr bs.length off)=nth cs off:=by
 cases h:nth cs off with
 | some v=>exact YK ha h
 | none=>simp[zk,qy,ha,Oc,h,wW]
theorem Zl(p:cE)(env:aD)(t:Nat):qK env t (some (iv p))=some (iv p,env):=by
 unfold iv;rcases cH 1 p.1 (p.2.map ie) with h|⟨_,h⟩<;>rw[h]<;>rfl
theorem Rb(hg:GK gl ef)(eT:ef.any (Nat.beq 27)=false)(d:D)(hd:WD d):m8 (d.1.2.length+300) prog gl 27 [ij d] (.bool (rU (rowsOf d.1) d.2.2)):=by
 have hr:=dY;have Lp:=hd.n.1;have Az:=hd.l.1;refine vw hg func27 rfl eT rfl (d.1.2.length+299) λn hn bs=>?_;simp only[f27,zh];refine rg ?_;simp only[BW,List.replicate,Uo,z7 (Un d),Ra];refine rg ?_;simp only[BW,pE,FZ gI,bH,jS]
 have Dd:rU (rowsOf d.1) d.2.2=bif ((dj (d.1.2.length:Int) 1 || dj 600 (d.1.2.length:Int)) || !((d.2.2.length:Int) == (d.1.2.length:Int))) then false else wP (EC (rowsOf d.1) d.2.2 d.1.2.length) d.1.2.length:=by
  simp only[rU,ez]
 refine rg ?_
 by_cases c1:(d.1.2.length:Int)<1
 ·simp only[BW,c1];refine rg ?_;simp only[BW];exact fI rfl ⟨by rw[Dd];simp[dj,c1],_,rfl⟩
 by_cases c2:(600:Int)<d.1.2.length
 ·simp only[BW,c1,gt_iff_lt,c2];refine rg ?_;simp only[BW];exact fI rfl ⟨by rw[Dd];simp[dj,c2],_,rfl⟩
 cases c3:((d.2.2.length:Int) == (d.1.2.length:Int)) with
 | false =>
  simp only[BW,c1,gt_iff_lt,c2,pE,FZ gJ,bB,kO,bne,c3];refine rg ?_;simp only[BW];exact fI rfl ⟨by rw[Dd,c3];simp,_,rfl⟩
 | true =>
 have hll:d.2.2.length=d.1.2.length:=by have:=eq_of_beq c3;omega
 have ur:rU (rowsOf d.1) d.2.2=wP (EC (rowsOf d.1) d.2.2 d.1.2.length) d.1.2.length:=by
  rw[Dd,c3];simp[dj,c1,c2]
 rw[ur];simp only[BW,c1,gt_iff_lt,c2,pE,FZ gJ,bB,kO,bne,c3];refine rg ?_;simp only[BW,pE,FZ gI,bH,jS]
 refine qh (λm st=>∃i env,m+i=d.1.2.length/\st=⟨env,⟨bs++[.cells [rv d.1,iv d.2] 66],[]⟩,[],[]⟩/\Ks 66 [(1,.ptr bs.length 0),(3,.int .i64 (d.1.2.length:Nat)),(25,rv d.1),(26,.int .i64 (d.1.2.length:Nat)),(27,.int .i64 (i:Nat))] env/\∀j,j<i->EC (rowsOf d.1) d.2.2 d.1.2.length j=true) d.1.2.length (by omega) ⟨0,_,rfl,rfl,gF rfl,λj h=>by omega⟩ ?_
 rintro m st ⟨i,env,sG,rfl,⟨j,rfl⟩,dF⟩;simp only[sh,rT,Nat.reduceBEq,Nat.reduceAdd,mJ,oq];simp only[zh];refine rg ?_;simp only[BW,qo]
 by_cases hi:i<d.1.2.length
 ·refine .inl ⟨by simp;omega,?_⟩
  obtain⟨q,hq⟩:∃q,d.1.2[i]?=some q:=⟨d.1.2[i],by simp[hi]⟩
  have N8:gr (rowsOf d.1) i=q.2:=oR hq;have hql:=(hd.n.2 q (m_ hq)).1;have Mv:EC (rowsOf d.1) d.2.2 d.1.2.length i=false->wP (EC (rowsOf d.1) d.2.2 d.1.2.length) d.1.2.length=false:=λh=>by
   rw[<- Jn,cL];exact λk=>by rw[k i hi] at h;cases h
  refine rg ?_;simp only[BW,bH,yU hq,IY,bB,Zl];obtain⟨B,hB⟩:∃B,B=((q.2.length:Int) == 256 && (!dj (gi d.2.2 i) (-1) && !nD 200 (gi d.2.2 i))):=⟨_,rfl⟩;refine Oa 66 [(1,.ptr bs.length 0),(3,.int .i64 (d.1.2.length:Nat)),(5,iv q),(25,rv d.1),(26,.int .i64 (d.1.2.length:Nat)),(27,.int .i64 (i:Nat)),(50,.bool (!B))] ?_ λenv ⟨j,e⟩=>?_
  ·refine rg ?_;cases a1:((q.2.length:Int) == 256) with
   | false =>
    obtain rfl:B=false:=by rw[hB,a1];rfl
    simp only[BW,bB,kO,bne,a1];exact⟨_,rfl,gF rfl⟩
   | true =>
   have Mw:=w6 (p:=d.2) (i:=i) (by omega)
   by_cases a2:gi d.2.2 i < -1
   ·simp only[BW,bB,kO,bne,a1,pE,FZ gJ,Mw,xu,a2];obtain rfl:B=false:=by rw[hB];simp[dj,a2]
    exact⟨_,rfl,gF rfl⟩
   by_cases a3:200<=gi d.2.2 i
   ·simp only[BW,bB,kO,bne,a1,pE,FZ gJ,Mw,xu,a2,ge_iff_le,a3];obtain rfl:B=false:=by rw[hB];simp[dj,nD,a2,a3]
    exact⟨_,rfl,gF rfl⟩
   ·simp only[BW,bB,kO,bne,a1,pE,FZ gJ,Mw,xu,a2,ge_iff_le,a3];obtain rfl:B=true:=by rw[hB,a1];simp[dj,nD,a2,a3]
    exact⟨_,rfl,gF rfl⟩
  subst e;simp only[sh,rT,Nat.reduceBEq,Nat.reduceAdd,mJ,oq];cases B with
  | false =>
   have hb:=hB.symm;have ho:EC (rowsOf d.1) d.2.2 d.1.2.length i=false:=by
    simp only[EC,N8];cases a1:((q.2.length:Int) == 256) with
    | false=>rfl
    | true =>
     rw[a1,s5] at hb;rw[s5,<- Bool.and_assoc,hb];rfl
   simp only[BW];refine rg ?_;simp only[BW];exact fI rfl ⟨by rw[Mv ho],_,rfl⟩
  | true =>
  have hb:=hB.symm;have Kf:q.2.length=256:=by
   simp only[eo] at hb;have:=eq_of_beq hb.1;omega
  have ho:EC (rowsOf d.1) d.2.2 d.1.2.length i=wP (J7 d.1.2.length q.2) 256:=by
   simp only[EC,N8];simp only[eo] at hb;rw[hb.1,hb.2.1,hb.2.2];rfl
  simp only[BW];refine rg ?_;simp only[BW,kO,bB]
  refine qh (λm2 st=>∃k env,m2+k=256/\st=⟨env,⟨bs++[.cells [rv d.1,iv d.2] 66],[]⟩,[],[]⟩/\Ks 66 [(1,.ptr bs.length 0),(3,.int .i64 (d.1.2.length:Nat)),(25,rv d.1),(26,.int .i64 (d.1.2.length:Nat)),(27,.int .i64 (i:Nat)),(51,iv q),(52,.int .i64 (q.2.length:Nat)),(53,.int .i64 (k:Nat))] env/\∀j,j<k->J7 d.1.2.length q.2 j=true) 256 (by omega) ⟨0,_,rfl,rfl,gF rfl,λj h=>by omega⟩ ?_
  rintro m2 st ⟨k,env,De,rfl,⟨j,rfl⟩,b_⟩;simp only[sh,rT,Nat.reduceBEq,Nat.reduceAdd,mJ,oq];simp only[zh];refine rg ?_;simp only[BW,qo]
  by_cases hk:k<256
  ·refine .inl ⟨by simp;omega,?_⟩
   have Mw:=w6 (p:=q) (i:=k) (by omega)
   have hrf:J7 d.1.2.length q.2 k=false->EC (rowsOf d.1) d.2.2 d.1.2.length i=false:=λh=>by
    rw[ho,<- Jn,cL];exact λh2=>by rw[h2 k hk] at h;cases h
   refine rg ?_;simp only[BW,bB,Mw,xu];refine rg ?_
   by_cases a2:gi q.2 k<0
   ·simp only[BW,a2];refine rg ?_;simp only[BW];exact fI rfl ⟨by rw[Mv (hrf (by simp[J7,dj,a2]))],_,rfl⟩
   by_cases a3:(d.1.2.length:Int)<=gi q.2 k
   ·simp only[BW,a2,ge_iff_le,a3];refine rg ?_;simp only[BW];exact fI rfl ⟨by rw[Mv (hrf (by simp[J7,nD,a3]))],_,rfl⟩
   ·simp only[BW,a2,ge_iff_le,a3];refine rg ?_;simp only[BW,qc (show k<2 ^ 60 by omega)]
    exact⟨m2 - 1,by omega,k+1,_,by omega,rfl,gF rfl,λj hj=>by
     rcases eX j k with h|h
     ·exact b_ j h
     ·obtain rfl:j=k:=by omega
      simp[J7,dj,nD,a2,a3]⟩
  ·obtain rfl:k=256:=by omega
   refine .inr ⟨by simp;omega,?_⟩
   refine rg ?_;simp only[BW,qc (show i<2 ^ 60 by omega)]
   exact⟨m - 1,by omega,i+1,_,by omega,rfl,gF rfl,λj hj=>by
    rcases eX j i with h|h
    ·exact dF j h
    ·obtain rfl:j=i:=by omega
     rw[ho];exact cL.2 b_⟩
 ·obtain rfl:i=d.1.2.length:=by omega
  refine .inr ⟨by simp,?_⟩
  refine rg ?_;simp only[BW];exact fI (v:=.bool true) rfl ⟨by rw[cL.2 dF],_,rfl⟩
end
section
set_option maxHeartbeats 1000000
variable{gl:Gl}{ef:bN}
theorem Mx:prog.underlying 78=some (.slice 5):=by kernel_rfl
theorem Zm:qD prog 5=some false:=by kernel_rfl
theorem Zn:z4 prog 5=some 1:=by kernel_rfl
theorem zoc{H:Hp}{p:cE}:jb prog H 78 (CR p)=some (p.2.length:Int):=by
 unfold CR;rcases cH 1 p.1 (p.2.map be) with h|⟨h0,h⟩<;>rw[h]
 ·simp[jb]
 ·simp only[List.map_eq_nil_iff] at h0;simp[jb,h0]
theorem zod{p:cE}{i:Nat}{b:Int}(h:p.2[i]?=some b):zt prog 78 (CR p) (i:Int)=some (.vp [.int .u8 b]):=by
 have hk:¬((i:Int)<0):=by omega
 have hn:nth (p.2.map be) i=some (be b):=by rw[zg,iY,h];rfl
 have cI:CR p=.sl 1 (p.2.map be) .no:=by
  unfold CR;rcases cH 1 p.1 (p.2.map be) with h'|⟨h0,_⟩
  ·exact h'
  ·simp only[List.map_eq_nil_iff] at h0;rw[h0] at h;simp at h
 rw[cI];simp[zt,Zn,hk,hn,V.cells,be]
theorem zqR{H:Hp}{g:Nat->Nat->bX}{z:Int}:zk prog H g 5 (.vp [.int .u8 z])=some (.int .u8 z):=by
 simp[zk,qy,Zm,nth,wW]
theorem zoX{bs:List aV}{es:aN}{d:D}{g:Nat->Nat->bX}:zk prog ⟨bs++[.cells [rv d.1,iv d.2] 66],es⟩ g 66 (.ptr bs.length 0)=some (ij d):=by
 rw[qY Bt Bu Oc (by simp)];rfl
theorem xJ(d:D):aW (ij d)=ij d:=by simp[ij,qX]
theorem Kg:qD prog 37=some false:=by kernel_rfl
theorem Zo(hg:GK gl ef)(h27:ef.any (Nat.beq 27)=false)(h33:ef.any (Nat.beq 33)=false)(Rc:gl.g 0 0=some CS)(d:D)(hd:WD d)(t:cE)(ht:t.2.length<2 ^ 60)(hb:∀b∈t.2,0<=b/\b<256):Kn prog gl 33 [ij d,CR t] (FR d t.2):=by
 have hr:=dY;have dr:(FR d t.2).top=0:=by unfold FR;cases rU (rowsOf d.1) d.2.2<;>rfl
 refine⟨_,vw hg func33 rfl h33 dr (d.1.2.length+t.2.length+300) λn hn bs=>?_⟩;have QI:∀H,Cx.bC ⟨prog,gl.g,zj prog gl n,nU⟩ 27 [ij d] H=some (.val (.bool (rU (rowsOf d.1) d.2.2)),H):=jD func27 rfl (Rb hg h27 d hd n (by omega))
 simp only[f33,zh];refine rg ?_;simp only[BW,Nat.reduceAdd,List.replicate,Uo,z7 (Un d),Ra];refine rg ?_;unfold FR;cases hm:rU (rowsOf d.1) d.2.2 with
 | false =>
  rw[hm] at QI;simp only[BW,zoX,xJ,QI,iz];refine qG (tk:=[]) (by kernel_rfl) (by kernel_rfl) ?_
  have Oj:∀H,zk prog H gl.g 37 (.fq 0 0)=some CS:=λH=>by simp[zk,Kg,Rc]
  simp only[BW,Oj,Kg,show aW CS=CS from rfl,show ∀env t,qK env t (some CS)=some (CS,env) from λ_ _=>rfl];exact GY rfl rfl ⟨rfl,_,rfl⟩
 | true =>
  rw[hm] at QI;simp only[BW,zoX,xJ,QI,iz];refine rg ?_;simp only[BW];refine rg ?_;simp only[BW,zoc,zmh];have hmg:=(YI hm).2;have h1:=(YI hm).1.1;rw[ez] at h1
  refine qh (λm st=>∃i env,m+i=t.2.length/\st=⟨env,⟨bs++[.cells [rv d.1,iv d.2] 66],[]⟩,[],[]⟩/\Ks 29 [(2,.ptr bs.length 0),(6,.int .i64 (G1 (rowsOf d.1) 0 (t.2.take i))),(13,CR t),(14,.int .i64 (t.2.length:Nat)),(15,.int .i64 (i:Nat))] env) t.2.length (by omega) ⟨0,_,rfl,rfl,gF rfl⟩ ?_
  rintro m st ⟨i,env,sG,rfl,⟨j,rfl⟩⟩;simp only[sh,rT,Nat.reduceBEq,Nat.reduceAdd,mJ,oq];simp only[zh];refine rg ?_;simp only[BW,qo]
  by_cases hi:i<t.2.length
  ·refine .inl ⟨by simp;omega,?_⟩
   obtain⟨b,Rd⟩:∃b,t.2[i]?=some b:=⟨t.2[i],by simp[hi]⟩
   have hbr:=hb b (m_ Rd);obtain⟨r0,r1⟩:=zjw hm (t:=t.2.take i) (s:=0) (λc hc=>hb c (B9 hc)) (by omega) (by rw[ez];omega)
   have IZ:G1 (rowsOf d.1) 0 (t.2.take (i+1))=gi (gr (rowsOf d.1) (G1 (rowsOf d.1) 0 (t.2.take i)).toNat) b.toNat:=by
    rw[List.take_add_one,Rd];exact zeZ
   rw[ez] at r1;generalize G1 (rowsOf d.1) 0 (t.2.take i)=s at r0 r1 IZ;obtain⟨s,rfl⟩:∃k:Nat,s=k:=⟨s.toNat,by omega⟩
   obtain⟨b,rfl⟩:∃k:Nat,b=k:=⟨b.toNat,by omega⟩
   rw[uP,uP] at IZ;obtain⟨q,hq⟩:∃q,d.1.2[s]?=some q:=⟨d.1.2[s]'(by omega),by simp[show s<d.1.2.length by omega]⟩
   have N8:gr (rowsOf d.1) s=q.2:=oR hq;have Kf:=(hmg s (by rw[ez];omega)).1
   rw[N8] at IZ Kf;have Mw:=w6 (p:=q) (i:=b) (by omega)
   refine rg ?_;simp only[BW,zmh,zod Rd,zqR];refine rg ?_;simp only[BW,pE,FZ gI,bH,yU hq,IY,bB,Mw,xu];refine rg ?_;simp only[BW,qc (show i<2 ^ 60 by omega)]
   refine⟨m - 1,by omega,i+1,_,by omega,rfl,?_⟩
   rw[IZ];exact gF rfl
  ·obtain rfl:i=t.2.length:=by omega
   refine .inr ⟨by simp,?_⟩
   refine rg ?_;simp only[BW,DF];exact GY rfl rfl ⟨rfl,_,rfl⟩
end
section
variable{gl:Gl}{ef:bN}
theorem zqp(hG:GK gl ef)(h0:ef.any (Nat.beq 71)=false):∀(e:E),Wf e->∀d:Int,m8 (hg e+2) prog gl 71 [enc e,.int .i64 d] (.int .i64 (eC e d))
 | .mk op pl s0 s1 s2 s3 text mn mx nl args,hw=>by
  intro d;have BO:=pY;have hlen:=hw.2.1;have fB:∀a,a∈args->m8 (hg a+2) prog gl 71 [enc a,.int .i64 (IntKind.i64.wrap (d+1))] (.int .i64 (eC a (IntKind.i64.wrap (d+1)))):=λa ha=>zqp hG h0 a (hw.2.2.mem ha) _;have hgm:∀a∈args,hg a<=NU args:=λa ha=>P4 ha;simp only[hg];generalize he:E.mk op pl s0 s1 s2 s3 text mn mx nl args=e at hw ⊢
  have e9:nth (aK e) 9=some (ye nl (fe args)):=by rw[<- he];rfl
  have hs:eC e d=if dj 5000 d then 1048576 else lE (IntKind.i64.wrap (d+1)) 1 args:=by rw[<- he];simp only[eC]
  refine vw hG func71 rfl h0 rfl (NU args+args.length+3) λn hn bs=>?_;simp only[f71,zh];refine rg ?_;simp only[BW,Nat.reduceAdd,List.replicate,Mf,z7 (J8 e),yh];refine rg ?_
  by_cases c1:5000<d
  ·rw[hs,show dj 5000 d=true by simp[dj,c1],if_pos rfl]
   simp only[BW,gt_iff_lt,c1];refine rg ?_;simp only[BW];exact fI rfl ⟨rfl,_,rfl⟩
  rw[hs,show dj 5000 d=false by simp[dj,c1],if_neg (by decide)]
  simp only[BW,gt_iff_lt,c1];refine rg ?_;simp only[BW];refine rg ?_;simp only[BW];generalize hR:lE (IntKind.i64.wrap (d+1)) 1 args=R
  refine qh (λm st=>∃i env n',m+i=args.length/\st=⟨env,⟨bs++[.cells (aK e) 53],[]⟩,[],[]⟩/\Ks 31 [(1,.int .i64 d),(2,.ptr bs.length 0),(5,.int .i64 n'),(6,.int .i64 (i:Nat))] env/\lE (IntKind.i64.wrap (d+1)) n' (args.drop i)=R) args.length (by omega) ⟨0,_,_,rfl,rfl,gF rfl,hR⟩ ?_
  rintro m st ⟨i,env,n',sG,rfl,⟨j,rfl⟩,oN⟩;simp only[sh,rT,Nat.reduceBEq,Nat.reduceAdd,mJ,oq];simp only[zh];refine rg ?_
  by_cases hi:i<args.length
  ·obtain⟨a,ha⟩:∃a,args[i]?=some a:=⟨args[i],by simp[hi]⟩
   have eZ:args.drop i=a::args.drop (i+1):=by
    rw[EL hi];rw[gh hi] at ha;cases ha;rfl
   have My:=m_ ha;rw[eZ] at oN;simp only[lE] at oN;have tv:((i:Int)<(args.length:Int)):=by omega
   by_cases Up:n'<1048576
   ·simp only[BW,dL,eY dQ,e9,zY,qn,tv,Up];have hc:∀H,Cx.bC ⟨prog,gl.g,zj prog gl n,nU⟩ 71 [.agg (aK a),.int .i64 (IntKind.i64.wrap (d+1))] H=some (.val (.int .i64 (eC a (IntKind.i64.wrap (d+1)))),H):=by
     rw[<- qA];exact jD func71 rfl (fB a My n (by have:=hgm a My;omega))
    refine rg ?_;simp only[BW,dL,eY dQ,e9,zY,Yo ha,T4,kg,hc];refine rg ?_;have h4:=Xv (i:=i) (by omega)
    simp only[BW,kg,h4];rw[show dj n' 1048576=true by simp[dj,Up],if_pos rfl] at oN
    exact⟨m - 1,by omega,i+1,_,_,by omega,rfl,gF rfl,oN⟩
   ·simp only[BW,dL,eY dQ,e9,zY,qn,tv,Up];refine rg ?_;simp only[BW];rw[show dj n' 1048576=false by simp[dj,Up],if_neg (by decide)] at oN
    subst oN;exact fI rfl ⟨rfl,_,rfl⟩
  ·obtain rfl:i=args.length:=by omega
   rw[List.drop_length] at oN;simp only[lE] at oN;subst oN;simp only[BW,dL,eY dQ,e9,zY,qn,show ¬((args.length:Int)<(args.length:Int)) by omega]
   refine rg ?_;simp only[BW];exact fI rfl ⟨rfl,_,rfl⟩
termination_by e=>hg e
decreasing_by simp only[hg];have:=P4 ha;omega
end
end Go.Proofs.YthohlnmcjkjeiaaGreatDoor.A2
namespace Go.Proofs.YthohlnmcjkjeiaaGreatDoor
open Go.Proofs.Tryz
set_option maxRecDepth 100000
open Go Go.Vm
variable{gl:Gl}
def eA(e:aB):Bool:=fy e || Nat.beq e mu
def Re:bN:=[28,30,73,74,108,109,110,111,112,113,114,148,149,150,151,188]
structure GS(gl:Gl):Prop where
 uq:gl.uq=eA
 fG:∀n f args H,(Re.any (Nat.beq f))=true->gl.fG n f args H=none
 hk:∀f args,(Re.any (Nat.beq f))=true->gl.hk f args=none
theorem yK{n0 t:Nat}{es:aN}{H:Hp}(h:n0<t):zW n0 es t H=⟨H.az,H.bG++es⟩:=by
 unfold zW;have:Nat.ble t n0=false:=by
  cases hb:Nat.ble t n0 with
  | false=>rfl
  | true=>have:=rJ hb;omega
 rw[this];rfl
theorem Uq{bs:List aV}{es:aN}{b:Nat}{x:aV}:zW bs.length es 0 ⟨bs.set b x,[]⟩=⟨bs.set b x,es⟩:=by
 have:=z8 (bs:=bs.set b x) (ls:=[]) (es:=es) (t:=0) (eg _)
 rwa [mT,bD] at this
theorem I0:prog.underlying 205=some (.slice 5):=by kernel_rfl
theorem F0:z4 prog 5=some 1:=by kernel_rfl
theorem sP:qD prog 5=some false:=by kernel_rfl
theorem z5':qQ prog 5=some (.int .u8 0):=by kernel_rfl
theorem in5:∃i,prog.info? 5=some i/\i.bytes=1:=⟨_,rfl,rfl⟩
theorem ze0{v:V}:∀{k:Nat},(List.replicate k [v]).flatten=List.replicate k v
 | 0=>rfl
 | k+1=>by rw[Hh,List.flatten_cons,ze0,Hh];rfl
theorem xw(hg:GS gl){n k:Nat}(hk:k<2 ^ 40){bs:List aV}{es:aN}:zj prog gl (n+1) 108 [.int .i64 (k:Nat)] ⟨bs,es⟩=some (.ret (.sr bs.length 0 (k / 8+1) (k / 8+1)),⟨bs++[.cells (dM (k / 8+1) 0) 5],es⟩):=by
 suffices bL:(go ⟨prog,gl,zj prog gl n,eA⟩ n (Fx prog f108.results.toList λw H1=>w=.sr bs.length 0 (k / 8+1) (k / 8+1)/\H1=⟨bs++[.cells (dM (k / 8+1) 0) 5],[]⟩) [.c (f108.body.getD .skip)] .normal ⟨[.int .i64 (k:Nat)]++List.replicate 6 (.bq []),⟨bs,[]⟩,[],[]⟩) by
  obtain⟨w,H1,h0,rfl,rfl⟩:=zQ (gl:=gl) (f:=108) (bs:=bs) (es:=es) (args:=[.int .i64 (k:Nat)]) (n:=n) (hg.hk _ _ (by decide)) (λH=>hg.fG _ _ _ _ (by decide)) func108 rfl (by rw[hg.uq];exact bL)
  rw[h0,yK (by simp[V.top])]
  rfl
 obtain⟨i,Mp,Mq⟩:=in5;simp only[f108,fQ,zh];refine zi ?_;simp only[BA,aj,aq,bT];simp only[List.replicate];refine zi ?_
 simp only[BA,ak,aj,aq,zd,ze,bS,bT,zhj (show k<2 ^ 60 by omega),qc (show k / 8<2 ^ 60 by omega)]
 rw[Xa (k:=k / 8+1) I0 F0 z5' rfl Mp (by decide) rfl rfl rfl rfl (by rw[Mq];exact dG (by omega) (by omega)) (by omega)]
 simp only[BA,aq,zc,zd,ze,bS,bT,zhi];simp only[go_ret,zp,Fx]
 refine⟨trivial,[.sr bs.length 0 (k / 8+1) (k / 8+1)],?_,rfl,?_⟩
 ·simp only[zx,zd,ze]
 ·show Hp.mk _ _=_;rw[zlR,<- ze0];rfl
theorem Zp{b i m:Nat}(h:i<m):zt prog 205 (.sr b 0 m m) ((i:Nat):Int)=some (.ptr b i):=by
 simp only[zt,I0,F0];rw[if_pos (by omega)]
 simp
theorem zqq{b i m p:Nat}(h:i<m):wv [] b i 1 ((dM m p).drop i)=true:=yp λk hk=>by
 obtain rfl:k=0:=by omega
 exact⟨_,by rw[nP,vN h],rfl⟩
theorem Zq(hg:GS gl){n k m p b:Nat}(hk:k<2 ^ 40)(hm:k / 8<m){bs:List aV}{es:aN}(hb:nth bs b=some (.cells (dM m p) 5)) :
  zj prog gl (n+1) 109 [.sr b 0 m m,.int .i64 (k:Nat)] ⟨bs,es⟩=some (.ret (.bq []),⟨bs.set b (.cells (dM m (p ||| 2 ^ k)) 5),es⟩):=by
 suffices bL:(go ⟨prog,gl,zj prog gl n,eA⟩ n (Fx prog f109.results.toList λw H1=>w=.bq []/\H1=⟨bs.set b (.cells (dM m (p ||| 2 ^ k)) 5),[]⟩) [.c (f109.body.getD .skip)] .normal ⟨[.sr b 0 m m,.int .i64 (k:Nat)]++List.replicate 12 (.bq []),⟨bs,[]⟩,[],[]⟩) by
  obtain⟨w,H1,h0,rfl,rfl⟩:=zQ (gl:=gl) (f:=109) (bs:=bs) (es:=es) (args:=[.sr b 0 m m,.int .i64 (k:Nat)]) (n:=n) (hg.hk _ _ (by decide)) (λH=>hg.fG _ _ _ _ (by decide)) func109 rfl (by rw[hg.uq];exact bL)
  rw[h0,show(V.bq []).top=0 from rfl,Uq]
 have Fq:(⟨bs,[]⟩:Hp).get b=some (.cells (dM m p) 5):=hb;have gw:zk prog ⟨bs,[]⟩ gl.g 5 (.ptr b (k / 8))=some (.int .u8 (oI p (k / 8):Nat)):=zq sP Fq (by rw[zg];exact vN hm)
 simp only[f109,fQ];refine qG (tk:=[]) (by kernel_rfl) (by kernel_rfl) ?_
 simp only[List.replicate];simp only[BA,ak,aj,aq,aE,au,zd,ze,bS,bT,NN,Zp hm,zhj (show k<2 ^ 60 by omega),zlU,zlV (show k % 8<8 by omega),gw,sP,zjn vF (Xq (show k % 8<8 by omega))]
 rw[zy F0 Fq rfl rfl (by simp[yT];omega) (zqq hm)]
 simp only[bu,aq,V.laid,Vm.storeCells,zp,Fx]
 rw[jT (by simp[V.top])]
 refine⟨trivial,[],rfl,rfl,?_⟩;rw[znN,znP];rfl
theorem Zr{p q i j:Nat}(h:i<=j):oI (p ||| q % 2 ^ (8 * i)) j=oI p j :=
 (PZ vF λk hk=>by
  rw[wY hk,Ar,Nat.testBit_mod_two_pow];have:¬(8 * j+k<8 * i):=by omega
  simp[this]).symm
theorem Zs{p q i j:Nat}(h:j<i):oI (p ||| q % 2 ^ (8 * i)) j=oI (p ||| q) j :=
 (PZ vF λk hk=>by
  rw[wY hk,Ar,Ar,Nat.testBit_mod_two_pow];have:8 * j+k<8 * i:=by omega
  simp[this]).symm
theorem zoe{m p q i:Nat}(_h:i<m):(dM m (p ||| q % 2 ^ (8 * i))).set i (.int .u8 ((oI p i ||| oI q i:Nat):Int))=dM m (p ||| q % 2 ^ (8 * (i+1))):=by
 refine Xr (by rw[bD,yT]) λj hj=>?_
 rw[List.getElem?_set']
 by_cases e:i=j
 ·subst e;simp[vN hj,zpq,Zs (Hq i)]
 ·simp only[e,bw,vN hj];rcases eX j i with h1|h1
  ·rw[Zs h1,Zs (by omega)]
  ·rw[Zr h1,Zr (by omega)]
theorem Zt{H:Hp}{b o l c:Nat}:jb prog H 205 (.sr b o l c)=some (l:Int):=by simp only[jb,I0]
theorem zkF(hg:GS gl){n m p q b c:Nat}(hm:m<2 ^ 40)(hq:q<2 ^ (8 * m))(cI:c≠b){bs:List aV}{es:aN}(hb:nth bs b=some (.cells (dM m p) 5))(hc:nth bs c=some (.cells (dM m q) 5))(hn:m<n) :
  zj prog gl (n+1) 151 [.sr b 0 m m,.sr c 0 m m] ⟨bs,es⟩=some (.ret (.bq []),⟨bs.set b (.cells (dM m (p ||| q)) 5),es⟩):=by
 suffices bL:(go ⟨prog,gl,zj prog gl n,eA⟩ n (Fx prog f151.results.toList λw H1=>w=.bq []/\H1=⟨bs.set b (.cells (dM m (p ||| q)) 5),[]⟩) [.c (f151.body.getD .skip)] .normal ⟨[.sr b 0 m m,.sr c 0 m m]++List.replicate 19 (.bq []),⟨bs,[]⟩,[],[]⟩) by
  obtain⟨w,H1,h0,rfl,rfl⟩:=zQ (gl:=gl) (f:=151) (bs:=bs) (es:=es) (args:=[.sr b 0 m m,.sr c 0 m m]) (n:=n) (hg.hk _ _ (by decide)) (λH=>hg.fG _ _ _ _ (by decide)) func151 rfl (by rw[hg.uq];exact bL)
  rw[h0,show(V.bq []).top=0 from rfl,Uq]
 simp only[f151,fQ,zh];refine zi ?_;simp only[List.replicate];simp only[BA,ak,aj,aq,zd,ze,bS,bT,NN,Zt]
 let Hi:Nat->Hp:=λi=>⟨bs.set b (.cells (dM m (p ||| q % 2 ^ (8 * i))) 5),[]⟩
 refine qh (λk s=>∃i env,k+i=m/\s=⟨env,Hi i,[],[]⟩/\env.length=21/\nth env 0=some (.sr b 0 m m)/\nth env 1=some (.sr c 0 m m)/\nth env 6=some (.int .i64 (m:Nat))/\nth env 7=some (.int .i64 (i:Nat))) m (by omega) ?_ ?_
 ·have D5:Hi 0=⟨bs,[]⟩:=by
   simp only[Hi,Nat.mul_zero,Nat.pow_zero,Nat.mod_one,Nat.or_zero];rw[jZ hb]
  refine⟨0,_,rfl,by rw[D5],?_,?_,?_,?_,?_⟩<;>rfl
 rintro k s ⟨i,env,sG,rfl,hlen,h0,h1,h6,h7⟩;simp only[zh];refine zi ?_;simp only[BA,ak,aq,za,Nat.reduceLT,h6,h7,hlen,qU]
 by_cases hi:i<m
 ·refine .inl ⟨by simp;omega,?_⟩
  refine zi ?_;simp only[BA,Nat.reduceEqDiff,ak,aq,za,bD,Nat.reduceLT,bw,h7,hlen];refine qG (tk:=[]) (by kernel_rfl) (by kernel_rfl) ?_
  have Fq:(Hi i).get b=some (.cells (dM m (p ||| q % 2 ^ (8 * i))) 5):=by
   have bR:b<bs.length:=by rw[zg] at hb;exact(c_.1 hb).1
   show nth (bs.set b _) b=_;rw[zg,s4,if_pos rfl,if_pos bR]
  have hgc:(Hi i).get c=some (.cells (dM m q) 5):=by
   show nth (bs.set b _) c=_;rw[zg,s4,if_neg (Ne.symm cI),<- zg,hc]
  have gw:zk prog (Hi i) gl.g 5 (.ptr b i)=some (.int .u8 (oI p i:Nat)):=zq sP Fq (by rw[zg,vN hi,Zr (dI _)])
  have Fs:zk prog (Hi i) gl.g 5 (.ptr c i)=some (.int .u8 (oI q i:Nat)):=zq sP hgc (by rw[zg,vN hi])
  simp only[BA,Nat.reduceEqDiff,ak,aq,aE,au,za,bD,Nat.reduceLT,bw,h0,h1,hlen,NN,Zp hi,sP,gw,Fs,zjn vF vF];rw[zy F0 Fq rfl rfl (by simp[yT];omega) (zqq hi)]
  simp only[bu,aq,V.laid,Vm.storeCells]
  rw[jT (by simp[V.top]),zoe hi]
  have hH:(Hi i).set b (.cells (dM m (p ||| q % 2 ^ (8 * (i+1)))) 5)=Hi (i+1):=by simp only[Hi,Hp.set,List.set_set]
  rw[hH];refine zi ?_;simp only[BA,Nat.reduceEqDiff,ak,aj,aq,za,bD,Nat.reduceLT,bw,h7,hlen,qc (show i<2 ^ 60 by omega),zp,aM]
  refine⟨m - 1 - i,by omega,i+1,_,by omega,rfl,?_,?_,?_,?_,?_⟩<;>simp[za,hlen,h0,h1,h6]
 ·obtain rfl:i=m:=by omega
  refine .inr ⟨by simp,?_⟩
  simp only[ql,zN,zD,zp,bJ,iN,aF,Fx]
  refine⟨trivial,[],rfl,rfl,?_⟩;simp only[Hi,ES hq]
end Go.Proofs.YthohlnmcjkjeiaaGreatDoor
namespace Go.Vm
set_option maxRecDepth 100000
open Go
def Zu(cx:Cx)(H:Hp)(lk:aN)(df:bO)(env:aD):bX->Option aD->Option (OR×St)
 | some fv,some l=>aA lk df env (cx.mq (aW fv) l H)
 | _,_=>none
theorem wK{cx:Cx}{H:Hp}{lk:aN}{df:bO}{env:aD}{fv:V}{l:aD}:Zu cx H lk df env (some fv) (some l)=aA lk df env (cx.mq (aW fv) l H):=rfl
theorem yL{cx:Cx}{takes:bY}{dst:fH}{type:aB}{pos:String}{after:Array Edge}{guard:oZ}{env:aD}{H:Hp}{lk:aN}{df:bO}{t:Tmp}{args:rL}{ts:Array aB} :
  cx.op takes ⟨dst,.call ⟨.value (.tmp t),args,ts⟩,type,pos,after,guard⟩ env H lk df=Zu cx H lk df env (nth env t) (av env args.toList):=by
 simp only[Cx.op,ak];cases nth env t with
 | none=>rfl
 | some fv=>cases av env args.toList with
  | none=>rfl
  | some l=>simp only[Zu,aA];cases cx.mq (aW fv) l H with
   | none=>rfl
   | some q=>obtain⟨a,b⟩:=q;rfl
end Go.Vm
namespace Go.Proofs.YthohlnmcjkjeiaaGreatDoor
open Go Go.Vm
open Go.Proofs.Tryz
set_option maxRecDepth 100000
section
variable{gl:Gl}
theorem Ur:prog.underlying 9=some .string:=by kernel_rfl
theorem Zv:prog.underlying 5=some (.int .u8):=by kernel_rfl
theorem u3':prog.underlying 3=some (.int .i64):=by kernel_rfl
theorem zof(hg:GS gl){n v:Nat}(hv:v<256)(h0:v≠0){H:Hp}:zj prog gl (n+1) 188 [.int .u8 (v:Nat)] H=some (.ret (.int .i64 (Be v:Nat)),H):=by
 obtain⟨bs,es⟩:=H;have iE:zW bs.length es 0 ⟨bs,[]⟩=⟨bs,es⟩:=by
  have:=z8 (bs:=bs) (ls:=[]) (es:=es) (t:=0) (eg _)
  rwa [mT] at this
 suffices bL:(go ⟨prog,gl,zj prog gl n,eA⟩ n (Fx prog f188.results.toList λw H1=>w=.int .i64 (Be v:Nat)/\H1=⟨bs,[]⟩) [.c (f188.body.getD .skip)] .normal ⟨[.int .u8 (v:Nat)]++List.replicate 5 (.bq []),⟨bs,[]⟩,[],[]⟩) by
  obtain⟨w,H1,h0,rfl,rfl⟩:=zQ (gl:=gl) (f:=188) (bs:=bs) (es:=es) (args:=[.int .u8 (v:Nat)]) (n:=n) (hg.hk _ _ (by decide)) (λH=>hg.fG _ _ _ _ (by decide)) func188 rfl (by rw[hg.uq];exact bL)
  rw[h0];exact congrArg (λx=>some (Out.ret _,x)) iE
 simp only[f188,fQ,zh];refine zi ?_;simp only[BA,aj,aq,bT];refine zi ?_;simp only[List.replicate];simp only[qw,zK,ak,zd,ze,zr,aL,aq,bS,bT,zR,zlz]
 generalize hs:aj _=sv;obtain⟨L,hL,hLz⟩:∃L,sv=some (.str L)/\∀v,v<256->v≠0->nth L v=some (Be v):=by
  subst hs;refine⟨_,rfl,?_⟩;decide +kernel
 have iA:Be v<2 ^ 60:=by
  have h8:∀v,v<256->Be v<2 ^ 60:=by decide +kernel
  exact h8 v hv
 have CB:OI prog 9 (.str L) ((v:Nat):Int)=some (.int .u8 (Be v:Nat)):=by
  simp only[OI,Ur,uP,hLz v hv h0];simp
 have iV:vz prog 5 3 (.int .u8 (Be v:Nat))=some (.int .i64 (Be v:Nat)):=by
  simp only[vz,Zv,u3',Option.bind_eq_bind,aT];rw[kS (by omega) (by omega)]
 subst hL;simp only[aE,CB,zr,aL,aq];simp only[BA,ak,aq,zd,ze,bS,bT,vV (a:=5) (b:=3) (hm:=rfl),show eA (vd 5)=false from rfl,iV,go_ret]
 refine⟨rfl,[.int .i64 (Be v:Nat)],?_,rfl,rfl⟩;simp only[zx,zd,ze]
def Kh(w m:Nat):Nat->bN
 | 0=>[]
 | k+1=>(xR (oI w (m - (k+1)))).map (8 * (m - (k+1)) + ·)++Kh w m k
theorem zjE{w m:Nat}:∀k,k<=m->NS w m=NS w (m - k)++Kh w m k
 | 0,_=>by simp[Kh]
 | k+1,h=>by
  rw[zjE k (by omega),Kh,show m - k=(m - (k+1))+1 by omega,NS,bh]
theorem zmp{w m:Nat}:Kh w m m=wi m w:=by
 have:=zjE (w:=w) m (dI _);rw[Cb,zjm] at this;exact this.symm
theorem Zw{cx:Cx}{F:FuncId}{caps args:aD}{H:Hp}(hc:caps.map aW=caps):cx.mq (.fn (.func F) [] caps) args H=cx.bC F (args.map aW++caps) H:=by
 simp[Cx.mq,eE,hc]
theorem ze1{P:aQ}{t:aB}{x y:aX}{b:Nat}(h:8 * b<2 ^ 60):qP P .mul t x y (some (.int .i64 8)) (some (.int .i64 b))=some (.int .i64 ((8 * b:Nat):Int)):=Xm (a:=8) h
theorem zhG(hg:GS gl){n m w b:Nat}{F:FuncId}{caps:aD}(gG:caps.map aW=caps)(hm:m<2 ^ 40)(N3:m<n)(hn:300<=n)(I:bN->Hp->Prop)(dy:∀l H,I l H->H.get b=some (.cells (dM m w) 5))
  (mB:∀k l H,k<8 * m->I (k::l) H->∃H',Cx.bC ⟨prog,gl.g,zj prog gl n,eA⟩ F ([.int .i64 (k:Nat)]++caps) H=some (.val (.bq []),H')/\I l H') {bs:List aV} {es:aN} (h0:I (wi m w) ⟨bs,[]⟩) :
  ∃H',zj prog gl (n+1) 148 [.sr b 0 m m,.fn (.func F) [] caps] ⟨bs,es⟩=some (.ret (.bq []),zW bs.length es 0 H')/\I [] H':=by
 suffices bL:(go ⟨prog,gl,zj prog gl n,eA⟩ n (Fx prog f148.results.toList λw H1=>w=.bq []/\I [] H1) [.c (f148.body.getD .skip)] .normal ⟨[.sr b 0 m m,.fn (.func F) [] caps]++List.replicate 25 (.bq []),⟨bs,[]⟩,[],[]⟩) by
  obtain⟨w,H1,h0,rfl,h1⟩:=zQ (gl:=gl) (f:=148) (bs:=bs) (es:=es) (args:=[.sr b 0 m m,.fn (.func F) [] caps]) (n:=n) (hg.hk _ _ (by decide)) (λH=>hg.fG _ _ _ _ (by decide)) func148 rfl (by rw[hg.uq];exact bL)
  exact⟨H1,h0,h1⟩
 simp only[f148,fQ,zh];refine zi ?_;simp only[List.replicate];simp only[BA,ak,aj,aq,zd,ze,bS,bT,NN,Zt]
 refine qh (λk s=>∃i env H,k+i=m/\s=⟨env,H,[],[]⟩/\I (Kh w m k) H/\env.length=27/\nth env 1=some (.fn (.func F) [] caps)/\nth env 6=some (.sr b 0 m m)/\nth env 7=some (.int .i64 (m:Nat))/\nth env 8=some (.int .i64 (i:Nat))) m (by omega) ?_ ?_
 ·refine⟨0,_,_,rfl,rfl,by rw[zmp];exact h0,?_,?_,?_,?_,?_⟩<;>rfl
 rintro k s ⟨i,env,H,sG,rfl,hI,hlen,h1,h6,h7,h8⟩;simp only[zh];refine zi ?_;simp only[BA,ak,aq,za,Nat.reduceLT,h7,h8,hlen,qU]
 by_cases hi:i<m
 ·refine .inl ⟨by simp;omega,?_⟩
  obtain⟨k,rfl⟩:∃k',k=k'+1:=⟨k - 1,by omega⟩
  have Pq:m - (k+1)=i:=by omega
  have tH:I ((xR (oI w i)).map (8 * i + ·)++Kh w m k) H:=by rw[<- Pq];exact hI
  have gw:zk prog H gl.g 5 (.ptr b i)=some (.int .u8 (oI w i:Nat)):=zq sP (dy _ _ hI) (by rw[zg,vN hi])
  refine zi ?_;simp only[BA,Nat.reduceEqDiff,ak,aq,aE,za,bD,Nat.reduceLT,bw,h6,h8,hlen,NN,Zp hi,gw]
  refine qh (λu s=>∃env H,s=⟨env,H,[],[]⟩/\u<256/\I ((xR u).map (8 * i + ·)++Kh w m k) H/\env.length=27/\nth env 1=some (.fn (.func F) [] caps)/\nth env 4=some (.int .i64 (i:Nat))/\nth env 5=some (.int .u8 (u:Nat))/\nth env 6=some (.sr b 0 m m)/\nth env 7=some (.int .i64 (m:Nat))/\nth env 8=some (.int .i64 (i:Nat))) (oI w i) (uO vF (by omega)) ?_ ?_
  ·refine⟨_,_,rfl,vF,tH,?_,?_,?_,?_,?_,?_,?_⟩<;>simp[za,hlen,h1,h6,h7,h8]
  rintro u s ⟨bI,H2,rfl,hu,Zx,cJ,g1,g4,g5,g6,g7,g8⟩;simp only[zh];refine zi ?_;simp only[BA,Nat.reduceEqDiff,ak,aj,aq,za,bD,Nat.reduceLT,bw,g5,cJ,PJ]
  by_cases Dj:u=0
  ·subst Dj;refine .inr ⟨by simp,?_⟩
   simp only[ql,zN,zD,zp,bJ,qC,iN,aF]
   refine zi ?_;simp only[BA,Nat.reduceEqDiff,ak,aj,aq,za,bD,Nat.reduceLT,bw,g8,cJ,qc (show i<2 ^ 60 by omega),zp,aM]
   refine⟨k,by omega,i+1,_,_,by omega,rfl,?_,?_,?_,?_,?_,?_⟩
   ·simpa[CA] using Zx
   all_goals simp[za,cJ,g1,g6,g7]
  ·refine .inl ⟨by simp;omega,?_⟩
   refine zi ?_;obtain⟨e1,e2⟩:=Cz u hu Dj;rw[e1,aY,a_] at Zx;have hl8:Be u<8:=by
    have:Be u∈xR u:=by rw[e1];exact eH ..
    simpa[xR] using (List.mem_filter.1 this).1
   obtain⟨H3,hc,hI3⟩:=mB (8 * i+Be u) _ _ (by omega) Zx
   obtain⟨n',rfl⟩:∃n',n=n'+1:=⟨n - 1,by omega⟩
   have Gx:=zof hg (n:=n') hu Dj (H:=H2);have Zy:Cx.bC ⟨prog,gl.g,zj prog gl (n'+1),eA⟩ 188 [.int .u8 (u:Nat)] H2=some (.val (.int .i64 (Be u:Nat)),H2):=zu func188 rfl Gx;simp only[a_,bg] at hc;have hw:IntKind.i64.wrap (((8 * i:Nat):Int)+((Be u:Nat):Int))=((8 * i+Be u:Nat):Int):=by
    rw[kS (by omega) (by omega)];omega
   simp only[qw,aH,qC,zK,zV,kf,Nat.reduceEqDiff,av,qp,ak,aj,zr,aL,aq,zR,qM,aA,aY,bp,a_,bg,aF,za,bD,Nat.reduceLT,aF,bw,g1,g4,g5,cJ,yL,wK,show aW (V.fn (.func F) [] caps)=.fn (.func F) [] caps from rfl,Zw gG,Zy,ze1 (show 8 * i<2 ^ 60 by omega),kg,hw,a_,bg,hc]
   refine zi ?_;simp only[BA,Nat.reduceEqDiff,ak,aj,aq,za,bD,Nat.reduceLT,bw,g5,cJ,zlT Dj hu,zlS hu (show u - 1<256 by omega),zp,aM]
   refine⟨u &&& (u - 1),e2,_,_,rfl,by omega,hI3,?_,?_,?_,?_,?_,?_,?_⟩<;>simp[za,cJ,g1,g4,g6,g7,g8]
 ·obtain rfl:i=m:=by omega
  obtain rfl:k=0:=by omega
  refine .inr ⟨by simp,?_⟩
  simp only[ql,zN,zD,zp,bJ,iN,aF,Fx]
  exact⟨trivial,[],rfl,rfl,hI⟩
end
section
variable{gl:Gl}{P:aQ}{t:aB}{x y:aX}
def Rf(q:A2.Q4):Nat->Int
 | 0=>q.1
 | 1=>q.2.1
 | 2=>q.2.2.1
 | _=>q.2.2.2
def BX(q:A2.Q4):Prop:=∀i,0<=Rf q i/\Rf q i<18446744073709551616
def Ec(q:A2.Q4)(b:Nat):Bool:=(Rf q (b / 64)).toNat.testBit (b % 64)
theorem zhH{b:Nat}(h:b<256):qP P .quo t x y (some (.int .u8 b)) (some (.int .u8 64))=some (.int .u8 ((b / 64:Nat):Int)):=by
 have e:(b:Int).tdiv 64=((b / 64:Nat):Int):=by
  rw[Int.tdiv_eq_ediv_of_nonneg (by omega)];omega
 simp only[qP,jt,w7,j3,aF];rw[e,P0 (by omega)]
 rfl
theorem zhI{b:Nat}(h:b<256):qP P .rem t x y (some (.int .u8 b)) (some (.int .u8 64))=some (.int .u8 ((b % 64:Nat):Int)):=by
 have e:(b:Int).tmod 64=((b % 64:Nat):Int):=by
  rw[Int.tmod_eq_emod_of_nonneg (by omega)];omega
 simp only[qP,jt,w7,j3,aF];rw[e];rfl
theorem zkG{a k:Nat}(_ha:a<2 ^ 64)(hk:k<64):qP P .shr t x y (some (.int .u64 a)) (some (.int .u8 k))=some (.int .u64 ((a / 2 ^ k:Nat):Int)):=by
 have h2:min ((k:Int).toNat) IntKind.u64.bits=k:=by
  have:IntKind.u64.bits=64:=rfl;rw[this,uP];omega
 have h3:(a:Int).fdiv (2 ^ k)=((a / 2 ^ k:Nat):Int):=by
  rw[Int.fdiv_eq_ediv_of_nonneg _ (Int.le_of_lt (Int.pow_pos (by decide)))]
  simp
 simp only[qP,jt,w7,KP,aF,show ¬((k:Int)<0) by omega,bw,h2,h3]
theorem zmr{a k:Nat}:((a / 2 ^ k &&& 1:Nat):Int)=if a.testBit k then 1 else 0:=by
 have:a / 2 ^ k &&& 1=a / 2 ^ k % 2:=Nat.and_one_is_mod _;rw[this,Nat.testBit_eq_decide_div_mod_eq]
 by_cases h:a / 2 ^ k % 2=1
 ·simp[h]
 ·have:a / 2 ^ k % 2=0:=by omega
  simp[this]
theorem zms{a:Nat}(ha:a<2 ^ 64):qP P .and t x y (some (.int .u64 a)) (some (.int .u64 1))=some (.int .u64 ((a &&& 1:Nat):Int)):=TG (b:=1) ha (by decide)
theorem Zz:prog.underlying 50=some (.array 4 48):=by kernel_rfl
theorem Rg:z4 prog 48=some 1:=by kernel_rfl
theorem Rh:qD prog 48=some false:=by kernel_rfl
theorem zjF(hg:GS gl){n b:Nat}{q:A2.Q4}(hq:BX q)(hb:b<256){H:Hp}:zj prog gl (n+1) 110 [A2.qe q,.int .u8 (b:Nat)] H=some (.ret (.bool (Ec q b)),H):=by
 obtain⟨bs,es⟩:=H;have iE:zW bs.length es 0 ⟨bs++[.cells (A2.qe q).laid 50],[]⟩=⟨bs,es⟩:=z8 (eg _)
 suffices bL:(go ⟨prog,gl,zj prog gl n,eA⟩ n (Fx prog f110.results.toList λw H1=>w=.bool (Ec q b)/\H1=⟨bs++[.cells (A2.qe q).laid 50],[]⟩) [.c (f110.body.getD .skip)] .normal ⟨[A2.qe q,.int .u8 (b:Nat)]++List.replicate 12 (.bq []),⟨bs,[]⟩,[],[]⟩) by
  obtain⟨w,H1,h0,rfl,rfl⟩:=zQ (gl:=gl) (f:=110) (bs:=bs) (es:=es) (args:=[A2.qe q,.int .u8 (b:Nat)]) (n:=n) (hg.hk _ _ (by decide)) (λH=>hg.fG _ _ _ _ (by decide)) func110 rfl (by rw[hg.uq];exact bL)
  rw[h0];exact congrArg (λx=>some (Out.ret _,x)) iE
 obtain⟨a,Us,ha2⟩:∃a:Nat,Rf q (b / 64)=(a:Int)/\a<2 ^ 64:=⟨(Rf q (b / 64)).toNat,by have:=hq (b / 64);omega,by have:=hq (b / 64);omega⟩
 have Mz:Ec q b=a.testBit (b % 64):=by unfold Ec;rw[Us];rfl
 have Yt:(A2.qe q).laid=[.int .u64 q.1,.int .u64 q.2.1,.int .u64 q.2.2.1,.int .u64 q.2.2.2]:=rfl;have CB:zt prog 50 (.ptr bs.length 0) ((b / 64:Nat):Int)=some (.ptr bs.length (b / 64)):=by
  simp only[zt,Zz,Rg];rw[if_pos (by omega),uP,Jp,nO]
 have dy:(⟨bs++[.cells (A2.qe q).laid 50],[]⟩:Hp).get bs.length=some (.cells (A2.qe q).laid 50):=by
  show nth _ _=_;rw[zg,fE (dI _)];simp
 have gw:zk prog ⟨bs++[.cells (A2.qe q).laid 50],[]⟩ gl.g 48 (.ptr bs.length (b / 64))=some (.int .u64 (a:Nat)):=zq Rh dy (by
  rw[<- Us,Yt];have:b / 64=0\/b / 64=1\/b / 64=2\/b / 64=3:=by omega
  rcases this with e|e|e|e<;>rw[e]<;>rfl)
 simp only[f110,fQ,zh];refine zi ?_;have ZA:dz (A2.qe q)=true:=rfl;have tG:∀env t,qK env t (some (A2.qe q))=some (A2.qe q,env):=λ_ _=>rfl;simp only[BA,aj,aq,zc,zd,bS,bT,List.replicate,tG,z7 ZA];refine zi ?_
 simp only[BA,ak,aj,aq,aE,zd,ze,bS,bT,zhH hb,zhI hb,CB,gw,zkG ha2 (show b % 64<64 by omega),zms (show a / 2 ^ (b % 64)<2 ^ 64 from KL (Nat.div_le_self _ _) ha2),wM]
 simp only[go_ret,zp,Fx]
 refine⟨trivial,[.bool (Ec q b)],?_,rfl,trivial⟩;simp only[zx,zd,ze,Mz,zmr];cases a.testBit (b % 64)<;>rfl
end
section
variable{gl:Gl}
theorem MA:prog.underlying 26=some (.slice 50):=by kernel_rfl
theorem sQ:prog.underlying 201=some (.slice 205):=by kernel_rfl
theorem F1:z4 prog 50=some 4:=by kernel_rfl
theorem sR:z4 prog 205=some 1:=by kernel_rfl
theorem eS:qD prog 141=some false:=by kernel_rfl
theorem mY:qD prog 26=some false:=by kernel_rfl
theorem sS:qD prog 205=some false:=by kernel_rfl
theorem iq:qD prog 201=some false:=by kernel_rfl
theorem Dt:qD prog 50=some true:=by kernel_rfl
theorem l8:zB prog 204 0=some 0:=by kernel_rfl
theorem Du:zB prog 204 1=some 4:=by kernel_rfl
theorem Ae:zB prog 204 2=some 5:=by kernel_rfl
theorem Dv:zB prog 204 3=some 261:=by kernel_rfl
theorem mQ:zB prog 30 0=some 0:=by kernel_rfl
theorem Af:zB prog 30 2=some 2:=by kernel_rfl
theorem xK{H:Hp}{p:Bool×List A2.Q4}:jb prog H 26 (A2.qv p)=some ((p.2.length:Nat):Int):=by
 rcases Sx.cH 4 p.1 (p.2.map A2.qe) with e|⟨e0,e⟩
 ·simp[A2.qv,e,jb]
 ·have:p.2=[]:=by simpa using e0
  rw[A2.qv,e,this];simp[jb]
theorem zmt{p:Bool×List A2.Q4}{k:Nat}{q:A2.Q4}(h:p.2[k]?=some q):zt prog 26 (A2.qv p) ((k:Nat):Int)=some (.vp (A2.qe q).cells):=by
 have hn:nth (p.2.map A2.qe) k=some (A2.qe q):=by rw[zg,iY,h];rfl
 have e:A2.qv p=.sl 4 (p.2.map A2.qe) .no:=by
  rcases Sx.cH 4 p.1 (p.2.map A2.qe) with e|⟨e0,e⟩
  ·exact e
  ·have:p.2=[]:=by simpa using e0
   rw[this] at h;simp at h
 rw[e];simp only[zt,MA,F1,uP,hn];simp
theorem zoY{H:Hp}{q:A2.Q4}:zk prog H gl.g 50 (.vp (A2.qe q).cells)=some (A2.qe q):=by
 simp[zk,Dt,F1,A2.qe,V.cells,wd]
def cG(m c:Nat):V:=.sr c 0 m m
theorem zpJ{m k c w:Nat}{nx:aN}(h:nx[k]?=some (c,w)):zt prog 201 (aW (zl 1 205 (nx.map λp=>cG m p.1))) ((k:Nat):Int)=some (.vp [cG m c]):=by
 have hn:nth (nx.map λp=>cG m p.1) k=some (cG m c):=by rw[zg,iY,h];rfl
 cases hx:nx.map λp=>cG m p.1 with
 | nil=>rw[hx] at hn;simp[zg] at hn
 | cons a l =>
  rw[hx] at hn;simp only[zl,aW,zt,sQ,sR,uP,hn];simp[cG,V.cells]
theorem zoZ{H:Hp}{m c:Nat}:zk prog H gl.g 205 (.vp [cG m c])=some (cG m c):=by
 simp[zk,sS,wd,cG,zg]
structure LB(B:List aV)(bm a1 a2 a3 c m q b:Nat)(f:A2.F)(nx:aN):Prop where
 A:∃t,nth B a1=some (.cells [.ptr bm 0] t)
 Y:∃t,nth B a2=some (.cells [.int .u8 (b:Nat)] t)
 D:∃t,nth B a3=some (.cells [cG m c] t)
 Q:nth B c=some (.cells (dM m q) 5)
 M:∃mc t,nth B bm=some (.cells mc t)/\nth mc 0=some (A2.qv f.s)/\nth mc 4=some (zl 1 205 (nx.map λp=>cG m p.1))
 X:∀p∈nx,nth B p.1=some (.cells (dM m p.2) 5)/\p.2<2 ^ (8 * m)/\p.1≠c
def xa(f:A2.F)(nx:aN)(b k q:Nat):Nat :=
 match f.s.2[k]?,nx[k]? with
 | some s,some p=>if Ec s b then q ||| p.2 else q
 | _,_=>q
theorem zit(hg:GS gl){n bm a1 a2 a3 c m q b k:Nat}{f:A2.F}{nx:aN}(hs:∀q∈f.s.2,BX q)(hb:b<256)(_hk:k<2 ^ 40)(hm:m<2 ^ 40)(hn:m<n)(GU:nx.length=f.s.2.length){B:List aV}{es:aN}(h:LB B bm a1 a2 a3 c m q b f nx) :
  zj prog gl (n+1+1) 150 [.int .i64 (k:Nat),.ptr a1 0,.ptr a2 0,.ptr a3 0] ⟨B,es⟩=some (.ret (.bq []),⟨B.set c (.cells (dM m (xa f nx b k q)) 5),es⟩):=by
 suffices bL:(go ⟨prog,gl,zj prog gl (n+1),eA⟩ (n+1) (Fx prog f150.results.toList λw H1=>w=.bq []/\H1=⟨B.set c (.cells (dM m (xa f nx b k q)) 5),[]⟩) [.c (f150.body.getD .skip)] .normal ⟨[.int .i64 (k:Nat),.ptr a1 0,.ptr a2 0,.ptr a3 0]++List.replicate 30 (.bq []),⟨B,[]⟩,[],[]⟩) by
  obtain⟨w,H1,h0,rfl,rfl⟩:=zQ (gl:=gl) (f:=150) (bs:=B) (es:=es) (args:=[.int .i64 (k:Nat),.ptr a1 0,.ptr a2 0,.ptr a3 0]) (n:=n+1) (hg.hk _ _ (by decide)) (λH=>hg.fG _ _ _ _ (by decide)) func150 rfl (by rw[hg.uq];exact bL)
  rw[h0,show(V.bq []).top=0 from rfl,Uq]
 obtain⟨tA,hA⟩:=h.A;obtain⟨tY,hY⟩:=h.Y;obtain⟨tD,hD⟩:=h.D;obtain⟨mc,tM,hM,Dw,ZB⟩:=h.M;have lA:zk prog ⟨B,[]⟩ gl.g 141 (.ptr a1 0)=some (.ptr bm 0):=zq eS hA rfl;have lY:zk prog ⟨B,[]⟩ gl.g 5 (.ptr a2 0)=some (.int .u8 (b:Nat)):=zq sP hY rfl;have lD:zk prog ⟨B,[]⟩ gl.g 205 (.ptr a3 0)=some (cG m c):=zq sS hD rfl
 have lS:zk prog ⟨B,[]⟩ gl.g 26 (.ptr bm 0)=some (A2.qv f.s):=zq mY hM Dw;have lN:zk prog ⟨B,[]⟩ gl.g 201 (.ptr bm 4)=some (zl 1 205 (nx.map λp=>cG m p.1)):=zq iq hM ZB;simp only[f150,fQ,zh];refine qG (tk:=[]) (by kernel_rfl) (by kernel_rfl) ?_
 by_cases Ri:k<f.s.2.length
 ·obtain⟨s,AZ⟩:∃s,f.s.2[k]?=some s:=⟨_,gh Ri⟩;obtain⟨⟨cn,wn⟩,Er⟩:∃p,nx[k]?=some p:=⟨_,gh (by omega)⟩
  have hsq:BX s:=hs s (m_ AZ);have dw:Cx.bC ⟨prog,gl.g,zj prog gl (n+1),eA⟩ 110 [A2.qe s,.int .u8 (b:Nat)] ⟨B,[]⟩=some (.val (.bool (Ec s b)),⟨B,[]⟩):=zu func110 rfl (zjF hg hsq hb);have hd:decide (((k:Nat):Int)<((f.s.2.length:Nat):Int))=true:=by simp;omega
  have Ut:aW (A2.qe s)=A2.qe s:=rfl;simp only[BA,av,ak,aj,aq,aa,ah,aE,aA,au,zd,ze,bS,bT,j5,qg,jn,cw,wI,List.replicate,lA,lY,lS,eS,mY,sP,Dt,l8,mQ,A2.ey,xK,qU,hd,zmt AZ,zoY,Ut,dw]
  have hX:=h.X _ (m_ Er);have hjc:Cx.bC ⟨prog,gl.g,zj prog gl (n+1),eA⟩ 151 [cG m c,cG m cn] ⟨B,[]⟩=some (.val (.bq []),⟨B.set c (.cells (dM m (q ||| wn)) 5),[]⟩):=zu func151 rfl (zkF hg hm hX.2.1 hX.2.2 h.Q hX.1 hn)
  have mZ:∀c,aW (cG m c)=cG m c:=λ_=>rfl;cases hh:Ec s b with
  | true =>
   simp only[]
   refine .inl ⟨trivial,?_⟩;refine qG (tk:=[]) (by kernel_rfl) (by kernel_rfl) ?_
   simp only[BA,av,ak,aq,aa,ah,aE,aA,au,zd,ze,bS,bT,lA,lD,lN,eS,sS,iq,Du,mZ,zpJ Er,zoZ,hjc];simp only[zp,Fx]
   first|refine⟨rfl,[],rfl,rfl,?_⟩|refine⟨trivial,[],rfl,rfl,?_⟩|refine⟨[],rfl,rfl,?_⟩
   simp[xa,AZ,Er,hh]
  | false =>
   simp only[]
   refine .inr ⟨by first|rfl|trivial,?_⟩
   simp only[zp,Fx]
   first|refine⟨rfl,[],rfl,rfl,?_⟩|refine⟨trivial,[],rfl,rfl,?_⟩|refine⟨[],rfl,rfl,?_⟩
   simp[xa,AZ,Er,hh,jZ h.Q]
 ·have hd:decide (((k:Nat):Int)<((f.s.2.length:Nat):Int))=false:=by simp;omega
  simp only[BA,av,ak,aj,aq,aa,ah,aE,aA,au,zd,ze,bS,bT,j5,qg,jn,cA,wJ,List.replicate,lA,lY,lS,eS,mY,sP,Dt,l8,mQ,A2.ey,xK,qU,hd];refine .inr ⟨by first|rfl|trivial,?_⟩
  simp only[]
  first|refine⟨rfl,[],rfl,rfl,?_⟩|refine⟨trivial,[],rfl,rfl,?_⟩|refine⟨[],rfl,rfl,?_⟩
  simp[xa,uc (Nat.le_of_not_lt Ri),jZ h.Q]
def BY(f:A2.F)(nx:aN)(b:Nat)(l:bN)(q:Nat):Nat:=l.foldl (λq k=>xa f nx b k q) q
end
section
variable{gl:Gl}
theorem Uu{cx:Cx}{takes:bY}{dst:fH}{type:aB}{pos:String}{after:Array Edge}{guard:oZ}{env:aD}{H:Hp}{lk:aN}{df:bO}{fn:Fn}{first cap:rL} :
  cx.op takes ⟨dst,.makeFunc fn first cap,type,pos,after,guard⟩ env H lk df=iB env H lk df ((av env first.toList).bind λa=>(av env cap.toList).bind λc=>some (.fn fn a c)):=by
 simp only[Cx.op];exact vU rfl
theorem zmu{cx:Cx}{x:aX}{type:aB}{pos:String}{after:Array Edge}{guard:oZ}{env:aD}{H:Hp}{lk:aN}{df:bO}:cx.op [] ⟨none,.move x,type,pos,after,guard⟩ env H lk df=iB env H lk df (ak env x):=by
 simp only[Cx.op];exact vU rfl
theorem MB:prog.underlying 28=some (.slice 27):=by kernel_rfl
theorem om:qD prog 28=some false:=by kernel_rfl
theorem iT:qD prog 3=some false:=by kernel_rfl
theorem tU:z4 prog 3=some 1:=by kernel_rfl
theorem Uv:qQ prog 3=some (.int .i64 0):=by kernel_rfl
theorem Rj:qQ prog 205=some .aG:=by kernel_rfl
theorem Rk{H:Hp}{p:A2.f_}:jb prog H 28 (A2.rv p)=some ((p.2.length:Nat):Int):=by
 rcases Sx.cH 1 p.1 (p.2.map A2.iv) with e|⟨e0,e⟩
 ·simp[A2.rv,e,jb]
 ·have:p.2=[]:=by simpa using e0
  rw[A2.rv,e,this];simp[jb]
def ED(ns:Nat)(k:Nat)(z:Int):Int:=if ns<=k/\z<0 then (k:Int) - ns else z
theorem ziu(hg:GS gl){n bm a1 a2 k:Nat}{z:Int}{f:A2.F}{tA tZ tM:aB}{mc:aD}(hk:k<2 ^ 40)(ov:f.s.2.length<2 ^ 40){B:List aV}{es:aN}(hA:nth B a1=some (.cells [.ptr bm 0] tA))(hZ:nth B a2=some (.cells [.int .i64 z] tZ))(hM:nth B bm=some (.cells mc tM))(Dw:nth mc 0=some (A2.qv f.s))(_hz:-1<=z/\z<2 ^ 40) :
  zj prog gl (n+1) 149 [.int .i64 (k:Nat),.ptr a1 0,.ptr a2 0] ⟨B,es⟩=some (.ret (.bq []),⟨B.set a2 (.cells [.int .i64 (ED f.s.2.length k z)] tZ),es⟩):=by
 suffices bL:(go ⟨prog,gl,zj prog gl n,eA⟩ n (Fx prog f149.results.toList λw H1=>w=.bq []/\H1=⟨B.set a2 (.cells [.int .i64 (ED f.s.2.length k z)] tZ),[]⟩) [.c (f149.body.getD .skip)] .normal ⟨[.int .i64 (k:Nat),.ptr a1 0,.ptr a2 0]++List.replicate 21 (.bq []),⟨B,[]⟩,[],[]⟩) by
  obtain⟨w,H1,h0,rfl,rfl⟩:=zQ (gl:=gl) (f:=149) (bs:=B) (es:=es) (args:=[.int .i64 (k:Nat),.ptr a1 0,.ptr a2 0]) (n:=n) (hg.hk _ _ (by decide)) (λH=>hg.fG _ _ _ _ (by decide)) func149 rfl (by rw[hg.uq];exact bL)
  rw[h0,show(V.bq []).top=0 from rfl,Uq]
 have lA:zk prog ⟨B,[]⟩ gl.g 141 (.ptr a1 0)=some (.ptr bm 0):=zq eS hA rfl;have lZ:zk prog ⟨B,[]⟩ gl.g 3 (.ptr a2 0)=some (.int .i64 z):=zq iT hZ rfl;have lS:zk prog ⟨B,[]⟩ gl.g 26 (.ptr bm 0)=some (A2.qv f.s):=zq mY hM Dw;simp only[f149,fQ,zh];refine zi ?_
 by_cases Ri:f.s.2.length<=k
 ·have hd:decide (((f.s.2.length:Nat):Int)<=((k:Nat):Int))=true:=by simp;omega
  simp only[BA,ak,aj,aq,aa,ah,zd,ze,bS,bT,j4,qg,jn,cw,wI,List.replicate,lA,lZ,lS,l8,mQ,A2.ey,xK,qU,Tp,ge_iff_le,hd]
  by_cases Ki:z<0
  ·refine .inl ⟨by simpa using Ki,?_⟩
   refine zi ?_;have hw:IntKind.i64.wrap (((k:Nat):Int) - ((f.s.2.length:Nat):Int))=((k:Nat):Int) - ((f.s.2.length:Nat):Int):=kS (by omega) (by omega)
   have hgZ:(⟨B,[]⟩:Hp).get a2=some (.cells [.int .i64 z] tZ):=hZ;simp only[BA,ak,aq,aa,ah,zd,ze,bS,bT,lA,lS,l8,mQ,A2.ey,xK,jX,hw];rw[zy tU hgZ rfl rfl (by simp) rfl,jT (by simp[V.top])]
   simp only[bu,aq,V.laid,Vm.storeCells,zp,Fx]
   first|refine⟨rfl,[],rfl,rfl,?_⟩|refine⟨trivial,[],rfl,rfl,?_⟩|refine⟨[],rfl,rfl,?_⟩
   simp only[ED,if_pos (And.intro Ri Ki)];rfl
  ·refine .inr ⟨by simpa using Ki,?_⟩
   simp only[zp,Fx]
   first|refine⟨rfl,[],rfl,rfl,?_⟩|refine⟨trivial,[],rfl,rfl,?_⟩|refine⟨[],rfl,rfl,?_⟩
   rw[ED,if_neg (λe=>Ki e.2),jZ hZ]
 ·have hd:decide (((f.s.2.length:Nat):Int)<=((k:Nat):Int))=false:=by simp;omega
  simp only[BA,ak,aj,aq,aa,ah,zd,ze,bS,bT,j4,qg,jn,cA,wJ,List.replicate,lA,lZ,lS,l8,mQ,A2.ey,xK,qU,Tp,ge_iff_le,hd];refine .inr ⟨by first|rfl|trivial,?_⟩
  simp only[]
  first|refine⟨rfl,[],rfl,rfl,?_⟩|refine⟨trivial,[],rfl,rfl,?_⟩|refine⟨[],rfl,rfl,?_⟩
  rw[ED,if_neg (λe=>Ri e.1),jZ hZ]
def wj(ns:Nat)(l:bN)(z:Int):Int:=l.foldl (λz k=>ED ns k z) z
theorem zjG{ns k:Nat}{z:Int}(h:-1<=z/\z<2 ^ 40)(hk:k<2 ^ 40):-1<=ED ns k z/\ED ns k z<2 ^ 40:=by
 unfold ED;split<;>omega
theorem zjH{m w k:Nat}(h:k∈wi m w):k<8 * m:=by
 simpa using (List.mem_filter.1 h).1
theorem zkH(hg:GS gl){n bm b m w:Nat}{f:A2.F}{tM:aB}{mc:aD}(hm:m<2 ^ 36)(N3:m<n)(hn:300<=n)(ov:f.s.2.length<2 ^ 40){bs:List aV}{es:aN}(hM:nth bs bm=some (.cells mc tM))(Dw:nth mc 0=some (A2.qv f.s))(hb:nth bs b=some (.cells (dM m w) 5)) :
  zj prog gl (n+1+1+1) 112 [.ptr bm 0,cG m b] ⟨bs,es⟩=some (.ret (.int .i64 (wj f.s.2.length (wi m w) (-1))),⟨bs,es⟩):=by
 have lO:b<bs.length:=by rw[zg] at hb;exact(c_.1 hb).1
 have BO:bm<bs.length:=by rw[zg] at hM;exact(c_.1 hM).1
 let Hz:Int->List aV:=λz=>bs++[.cells [.ptr bm 0] 141,.cells [.int .i64 z] 3]
 have g1:∀z,nth (Hz z) bs.length=some (.cells [.ptr bm 0] 141):=λz=>by
  show nth _ _=_;rw[zg,fE (dI _)];simp
 have g2:∀z,nth (Hz z) (bs.length+1)=some (.cells [.int .i64 z] 3):=λz=>by
  show nth _ _=_;rw[zg,fE (by omega)];simp
 have gO:∀z d,d<bs.length->nth (Hz z) d=nth bs d:=λz d hd=>by
  show nth _ _=_;rw[zg,zg,gb hd]
 have rO:∀z y,(Hz z).set (bs.length+1) (.cells [.int .i64 y] 3)=Hz y:=λz y=>by
  show(bs++_).set _ _=_;rw[uM _ _ (by omega)];simp[Hz]
 let I:bN->Hp->Prop:=λl H=>(∀k∈l,k<8 * m)/\∃z iD,-1<=z/\z<2 ^ 40/\H=⟨Hz z,iD⟩/\iD=[]/\wj f.s.2.length l z=wj f.s.2.length (wi m w) (-1)
 have F2:=zhG hg (F:=149) (caps:=[.ptr bs.length 0,.ptr (bs.length+1) 0]) (m:=m) (w:=w) (b:=b) (n:=n+1) rfl (by omega) (by omega) (by omega) I (λl H hI=>by
   obtain⟨_,z,iD,_,_,rfl,_,_⟩:=hI;exact(gO z b lO).trans hb) (λk l H hk hI=>by
   obtain⟨hl,z,iD,z1,z2,rfl,rfl,hz⟩:=hI;have o7:k<2 ^ 40:=by omega
   refine⟨⟨Hz (ED f.s.2.length k z),[]⟩,zu func149 rfl ?_,λj hj=>hl j (dR _ hj),_,[],(zjG ⟨z1,z2⟩ o7).1,(zjG ⟨z1,z2⟩ o7).2,rfl,rfl,?_⟩
   ·have:=ziu hg (n:=n) (es:=[]) o7 ov (g1 z) (g2 z) ((gO z bm BO).trans hM) Dw ⟨z1,z2⟩;rw[rO] at this;exact this
   ·rw[<- hz];rfl) (bs:=Hz (-1)) (es:=[]) ⟨λk hk=>zjH hk,-1,[],by omega,by omega,rfl,rfl,rfl⟩
 obtain⟨H',dw,_,zf,iD,zf1,zf2,rfl,rfl,ZC⟩:=F2;have F3:zW (Hz (-1)).length [] 0 ⟨Hz zf,[]⟩=⟨Hz zf,[]⟩:=by
  have:=z8 (bs:=Hz zf) (ls:=[]) (es:=[]) (t:=0) (eg _);rw[mT] at this;rw[show(Hz (-1)).length=(Hz zf).length by simp[Hz]]
  exact this
 rw[F3] at dw;have ZD:Cx.bC ⟨prog,gl.g,zj prog gl (n+1+1),eA⟩ 148 [cG m b,.fn (.func 149) [] [.ptr bs.length 0,.ptr (bs.length+1) 0]] ⟨Hz (-1),[]⟩=some (.val (.bq []),⟨Hz zf,[]⟩):=zu func148 rfl dw;have MC:zf=wj f.s.2.length (wi m w) (-1):=ZC
 suffices bL:(go ⟨prog,gl,zj prog gl (n+1+1),eA⟩ (n+1+1) (Fx prog f112.results.toList λw H1=>w=.int .i64 zf/\H1=⟨Hz zf,[]⟩) [.c (f112.body.getD .skip)] .normal ⟨[.ptr bm 0,cG m b]++List.replicate 8 (.bq []),⟨bs,[]⟩,[],[]⟩) by
  obtain⟨w,H1,h0,rfl,rfl⟩:=zQ (gl:=gl) (f:=112) (bs:=bs) (es:=es) (args:=[.ptr bm 0,cG m b]) (n:=n+1+1) (hg.hk _ _ (by decide)) (λH=>hg.fG _ _ _ _ (by decide)) func112 rfl (by rw[hg.uq];exact bL)
  rw[h0,<- MC];have:=z8 (bs:=bs) (ls:=[.cells [.ptr bm 0] 141,.cells [.int .i64 zf] 3]) (es:=es) (t:=0) (eg _);exact congrArg (λx=>some (Out.ret _,x)) this
 simp only[f112,fQ,zh];refine zi ?_;simp only[BA,aj,aq,zc,Nat.reduceAdd,zd,bS,bT,List.replicate,z7 (v:=.ptr bm 0) rfl];refine zi ?_;have hgN:(⟨bs++[.cells [.ptr bm 0] 141,.cells [.int .i64 0] 3],[]⟩:Hp).get (bs.length+1)=some (.cells [.int .i64 0] 3):=g2 0
 have hV:V.laid (.ptr bm 0)=[.ptr bm 0]:=rfl;simp only[BA,ak,aj,aq,zc,zd,ze,bS,bT,hV,Uv,zH (show dz (V.int .i64 0)=true from rfl),V.cells];rw[zy tU hgN rfl rfl (by simp) rfl,jT (by simp[V.top])]
 have Q2:(⟨bs++[.cells [.ptr bm 0] 141,.cells [.int .i64 0] 3],[]⟩:Hp).set (bs.length+1) (.cells (Vm.storeCells [.int .i64 0] 0 (V.laid (.int .i64 (-1)))) 3)=⟨Hz (-1),[]⟩:=congrArg (λx=>Hp.mk x []) (rO 0 (-1));rw[Q2];simp only[bu,aq]
 refine zi ?_;have mZ:∀c,aW (cG m c)=cG m c:=λ_=>rfl;have Ab:∀a c,aW (V.fn (.func 149) a c)=.fn (.func 149) a c:=λ_ _=>rfl;simp only[BA,av,ak,aq,aA,zd,ze,bS,bT,Uu,mZ,Ab,ZD];refine zi ?_
 have lZ:zk prog ⟨Hz zf,[]⟩ gl.g 3 (.ptr (bs.length+1) 0)=some (.int .i64 zf):=zq iT (g2 zf) rfl;simp only[BA,ak,aq,zd,ze,bS,bT,lZ,go_ret]
 first|refine⟨rfl,[.int .i64 zf],?_,rfl,rfl⟩|refine⟨trivial,[.int .i64 zf],?_,rfl,trivial⟩|refine⟨trivial,[.int .i64 zf],?_,rfl,rfl⟩|refine⟨rfl,[.int .i64 zf],?_,rfl,trivial⟩
 simp only[zx,zd,ze]
theorem zkI(hg:GS gl){n bm b m w y:Nat}{f:A2.F}{nx:aN}{tM:aB}{mc:aD}(hm:m<2 ^ 36)(N3:m<n)(hn:300<=n)(hy:y<256)(hs:∀q∈f.s.2,BX q)(ov:f.s.2.length<2 ^ 36)(hnf:f.f.2.length<2 ^ 36)(HO:m=(f.s.2.length+f.f.2.length) / 8+1)(GU:nx.length=f.s.2.length){bs:List aV}{es:aN}
  (hM:nth bs bm=some (.cells mc tM)) (Dw:nth mc 0=some (A2.qv f.s)) (Uw:nth mc 2=some (A2.rv f.f)) (ZB:nth mc 4=some (zl 1 205 (nx.map λp=>cG m p.1))) (hX:∀p∈nx,nth bs p.1=some (.cells (dM m p.2) 5)/\p.2<2 ^ (8 * m)) (hb:nth bs b=some (.cells (dM m w) 5)) :
  zj prog gl (n+1+1+1+1) 114 [.ptr bm 0,cG m b,.int .u8 (y:Nat)] ⟨bs,es⟩=some (.ret (cG m (bs.length+2)),⟨bs++[.cells [.ptr bm 0] 141,.cells [.int .u8 (y:Nat)] 5,.cells (dM m (BY f nx y (wi m w) 0)) 5,.cells [cG m (bs.length+2)] 205],es⟩):=by
 have lO:b<bs.length:=by rw[zg] at hb;exact(c_.1 hb).1
 have BO:bm<bs.length:=by rw[zg] at hM;exact(c_.1 hM).1
 let Hz:Nat->List aV:=λq=>bs++[.cells [.ptr bm 0] 141,.cells [.int .u8 (y:Nat)] 5,.cells (dM m q) 5,.cells [cG m (bs.length+2)] 205]
 have gA:∀z,nth (Hz z) bs.length=some (.cells [.ptr bm 0] 141):=λz=>by
  show nth _ _=_;rw[zg,fE (dI _)];simp
 have gY:∀z,nth (Hz z) (bs.length+1)=some (.cells [.int .u8 (y:Nat)] 5):=λz=>by
  show nth _ _=_;rw[zg,fE (by omega)];simp
 have gQ:∀z,nth (Hz z) (bs.length+2)=some (.cells (dM m z) 5):=λz=>by
  show nth _ _=_;rw[zg,fE (by omega)];simp
 have gD:∀z,nth (Hz z) (bs.length+3)=some (.cells [cG m (bs.length+2)] 205):=λz=>by
  show nth _ _=_;rw[zg,fE (by omega)];simp
 have gO:∀z d,d<bs.length->nth (Hz z) d=nth bs d:=λz d hd=>by
  show nth _ _=_;rw[zg,zg,gb hd]
 have rO:∀z q,(Hz z).set (bs.length+2) (.cells (dM m q) 5)=Hz q:=λz q=>by
  show(bs++_).set _ _=_;rw[uM _ _ (by omega)];simp[Hz]
 have ZE:∀q,LB (Hz q) bm bs.length (bs.length+1) (bs.length+3) (bs.length+2) m q y f nx:=λq =>
  ⟨⟨_,gA q⟩,⟨_,gY q⟩,⟨_,gD q⟩,gQ q,⟨mc,tM,(gO q bm BO).trans hM,Dw,ZB⟩,λp hp=>by
   obtain⟨h1,h2⟩:=hX p hp;have bR:p.1<bs.length:=by rw[zg] at h1;exact(c_.1 h1).1
   exact⟨(gO q _ bR).trans h1,h2,by omega⟩⟩
 let I:bN->Hp->Prop:=λl H=>(∀k∈l,k<8 * m)/\∃q,H=⟨Hz q,[]⟩/\BY f nx y l q=BY f nx y (wi m w) 0
 have F2:=zhG hg (F:=150) (caps:=[.ptr bs.length 0,.ptr (bs.length+1) 0,.ptr (bs.length+3) 0]) (m:=m) (w:=w) (b:=b) (n:=n+1+1) rfl (by omega) (by omega) (by omega) I (λl H hI=>by
   obtain⟨_,q,rfl,_⟩:=hI;exact(gO q b lO).trans hb) (λk l H hk hI=>by
   obtain⟨hl,q,rfl,hz⟩:=hI;refine⟨⟨Hz (xa f nx y k q),[]⟩,zu func150 rfl ?_,λj hj=>hl j (dR _ hj),_,rfl,?_⟩
   ·have:=zit hg (n:=n) (es:=[]) (k:=k) hs hy (by omega) (by omega) N3 GU (ZE q)
    rw[rO] at this;exact this
   ·rw[<- hz];rfl) (bs:=Hz 0) (es:=[]) ⟨λk hk=>zjH hk,0,rfl,rfl⟩
 obtain⟨H',dw,_,qf,rfl,ZC⟩:=F2;have F3:zW (Hz 0).length [] 0 ⟨Hz qf,[]⟩=⟨Hz qf,[]⟩:=by
  have:=z8 (bs:=Hz qf) (ls:=[]) (es:=[]) (t:=0) (eg _);rw[mT] at this;rw[show(Hz 0).length=(Hz qf).length by simp[Hz]]
  exact this
 rw[F3] at dw;have ZD:Cx.bC ⟨prog,gl.g,zj prog gl (n+1+1+1),eA⟩ 148 [cG m b,.fn (.func 150) [] [.ptr bs.length 0,.ptr (bs.length+1) 0,.ptr (bs.length+3) 0]] ⟨Hz 0,[]⟩=some (.val (.bq []),⟨Hz qf,[]⟩):=zu func148 rfl dw;have MC:qf=BY f nx y (wi m w) 0:=ZC
 suffices bL:(go ⟨prog,gl,zj prog gl (n+1+1+1),eA⟩ (n+1+1+1) (Fx prog f114.results.toList λw H1=>w=cG m (bs.length+2)/\H1=⟨Hz qf,[]⟩) [.c (f114.body.getD .skip)] .normal ⟨[.ptr bm 0,cG m b,.int .u8 (y:Nat)]++List.replicate 23 (.bq []),⟨bs,[]⟩,[],[]⟩) by
  obtain⟨w,H1,h0,rfl,rfl⟩:=zQ (gl:=gl) (f:=114) (bs:=bs) (es:=es) (args:=[.ptr bm 0,cG m b,.int .u8 (y:Nat)]) (n:=n+1+1+1) (hg.hk _ _ (by decide)) (λH=>hg.fG _ _ _ _ (by decide)) func114 rfl (by rw[hg.uq];exact bL)
  rw[h0,<- MC,yK (by simp only[V.top,cG];omega)]
  rfl
 simp only[f114,fQ,zh];refine zi ?_;simp only[BA,aj,aq,zc,Nat.reduceAdd,zd,ze,bS,bT,List.replicate,z7 (v:=.ptr bm 0) rfl,z7 (v:=.int .u8 (y:Nat)) rfl];refine znR (tk:=[]) rfl rfl (by kernel_rfl) (by kernel_rfl) (by simp) (by kernel_rfl) ?_
 simp only[List.reverse_cons,List.reverse_nil,bg,a_,C3];have hV:V.laid (.ptr bm 0)=[.ptr bm 0]:=rfl;have hV':V.laid (.int .u8 (y:Nat))=[.int .u8 (y:Nat)]:=rfl;simp only[hV,hV'];obtain⟨Kj,I1⟩:∃x:List aV,x=bs++[.cells [.ptr bm 0] 141,.cells [.int .u8 (y:Nat)] 5]:=⟨_,rfl⟩;rw[<- I1];have g2:∀d,d<bs.length->nth Kj d=nth bs d:=λd hd=>by
  rw[I1,zg,zg,gb hd]
 have hgA:(⟨Kj,[]⟩:Hp).get bs.length=some (.cells [.ptr bm 0] 141):=by
  show nth _ _=_;rw[I1,zg,fE (dI _)];simp
 have hgM:(⟨Kj,[]⟩:Hp).get bm=some (.cells mc tM):=(g2 bm BO).trans hM;have lA:zk prog ⟨Kj,[]⟩ gl.g 141 (.ptr bs.length 0)=some (.ptr bm 0):=zq eS hgA rfl;have lS:zk prog ⟨Kj,[]⟩ gl.g 26 (.ptr bm 0)=some (A2.qv f.s):=zq mY hgM Dw;have lF:zk prog ⟨Kj,[]⟩ gl.g 28 (.ptr bm 2)=some (A2.rv f.f):=zq om hgM Uw
 have uT:Cx.bC ⟨prog,gl.g,zj prog gl (n+3),eA⟩ 108 [.int .i64 ((f.s.2.length+f.f.2.length:Nat):Int)] ⟨Kj,[]⟩=some (.val (cG m (bs.length+2)),⟨bs++[.cells [.ptr bm 0] 141,.cells [.int .u8 (y:Nat)] 5,.cells (dM m 0) 5],[]⟩):=by
  refine zu func108 rfl ?_;have:=xw hg (n:=n+2) (k:=f.s.2.length+f.f.2.length) (by omega) (bs:=Kj) (es:=[])
  rw[<- HO] at this;rw[this];simp[I1,cG]
 simp only[BA,av,ak,aj,aq,aa,ah,aA,au,zd,ze,bS,bT,zmu,lA,lS,lF,eS,mY,om,l8,mQ,Af,A2.ey,A2.bH,xK,Rk,xp (show f.s.2.length+f.f.2.length<2 ^ 60 by omega),uT]
 simp only[zp,zoQ];refine⟨trivial,cG m (bs.length+2),_,1,.aG,rfl,sR,Rj,rfl,rfl,rfl,rfl,?_⟩;have FK:(bs++[aV.cells [.ptr bm 0] 141,.cells [.int .u8 (y:Nat)] 5,.cells (dM m 0) 5]).length=bs.length+3:=by simp
 have hHz:(⟨bs++([aV.cells [.ptr bm 0] 141,.cells [.int .u8 (y:Nat)] 5,.cells (dM m 0) 5]++[.cells (V.laid (cG m (bs.length+2))) 205]),[]⟩:Hp)=⟨Hz 0,[]⟩:=rfl;simp only[bS,bT,zb,FK];rw[hHz];refine zi ?_;have mZ:∀c,aW (cG m c)=cG m c:=λ_=>rfl;have e_:∀c env t,qK env t (some (cG m c))=some (cG m c,env):=λ_ _ _=>rfl
 have Ab:∀a c,aW (V.fn (.func 150) a c)=.fn (.func 150) a c:=λ_ _=>rfl;simp only[BA,av,ak,aq,aA,zd,ze,bS,bT,Uu,mZ,Ab,ZD];refine zi ?_
 have lD:zk prog ⟨Hz qf,[]⟩ gl.g 205 (.ptr (bs.length+3) 0)=some (cG m (bs.length+2)):=zq sS (gD qf) rfl;simp only[BA,ak,aq,zd,ze,bS,bT,lD,mZ,e_,go_ret]
 first|refine⟨rfl,[cG m (bs.length+2)],?_,rfl,rfl⟩|refine⟨trivial,[cG m (bs.length+2)],?_,rfl,trivial⟩|refine⟨trivial,[cG m (bs.length+2)],?_,rfl,rfl⟩|refine⟨rfl,[cG m (bs.length+2)],?_,rfl,trivial⟩
 simp only[zx,zd,ze]
end
end Go.Proofs.YthohlnmcjkjeiaaGreatDoor
namespace Go.Proofs.YthohlnmcjkjeiaaGreatDoor.A2
open Go Go.Vm Go.Vm.Sx
open Go.Proofs.Tryz
set_option maxRecDepth 100000
section
set_option linter.unusedSectionVars false
variable{gl:Gl}
end
section
set_option linter.unusedSectionVars false
variable{gl:Gl}
def oT(n:Nat)(rules:List Int)(rule:Int)(l:List Int)(i:Nat):Bool :=
 bif (i == 0 || !nD (gi l i) (gi l (i - 1))) && !dj (gi l i) 0 then (bif gi l i == (n:Int)+rule then true else bif nD (n:Int) (gi l i) then false else gi rules (gi l i).toNat == rule) else false
end
section
set_option linter.unusedSectionVars false
variable{gl:Gl}
theorem zkJ{l:List Int}(h:nG l=true){j:Nat}(hj:j+1<l.length):gi l j<=gi l (j+1):=by
 have:=cL.1 h (l.length - 1 - (j+1)) (by omega)
 simp only[Gq] at this;have e1:l.length - 1 - (l.length - 1 - (j+1))=j+1:=by omega
 rw[e1] at this;have e2:j+1 - 1=j:=by omega
 rw[e2] at this;simpa[dj] using this
theorem pF{l : List Int}(h : nG l = true) : ∀{j i : Nat}, i <= j -> j < l.length -> gi l i <= gi l j
  | 0, i, hi, _ => by have : i = 0 := by omega
                      subst this; exact Int.le_refl _
  | j + 1, i, hi, hj => by
    rcases eX i (j + 1) with h1 | h1
    · exact Int.le_trans (pF h (by omega) (by omega)) (zkJ h hj)
    · have : i = j + 1 := by omega
      subst this; exact Int.le_refl _
def nH(n:Nat)(r:List Int)(fs ns:List (List Int)):Bool :=
 bif wP (λi=>wP (oT n r (i:Int) (gr fs i)) (gr fs i).length) fs.length then wP (λi=>wP (oT n r (gi r i) (gr ns i)) (gr ns i).length) n else false
def Ed(n:Nat)(r:List Int)(fs ns:List (List Int)):Bool :=
 bif (((dj 1000 (n:Int) || dj 200 (fs.length:Int)) || !((r.length:Int) == (n:Int))) || !((ns.length:Int) == (n:Int))) then false else
 bif nG r then bif dj 0 (n:Int) then bif !dj (gi r 0) 0 then bif nD (fs.length:Int) (gi r (n - 1)) then false else nH n r fs ns else false else nH n r fs ns else false
end
section
set_option maxHeartbeats 1000000
variable{gl:Gl}{ef:bN}
theorem zqr(hg:GK gl ef)(h:ef.any (Nat.beq 147)=false)(x:Int):m8 2 prog gl 147 [.int .i64 x] (.bool false):=by
 refine vw hg func147 rfl h rfl 1 λn hn bs=>?_;simp only[f147,zh];refine rg ?_;simp only[BW,List.replicate];refine rg ?_;simp only[BW,bne,beq_self_eq_true];exact fI rfl ⟨rfl,[],by simp⟩
theorem zqs(hg:GK gl ef)(h:ef.any (Nat.beq 147)=false)(h1:ef.any (Nat.beq 107)=false)(x y:Int):m8 3 prog gl 107 [.int .i64 x,.int .i64 y] (.bool (dj x y)):=by
 refine vw hg func107 rfl h1 rfl 2 λn hn bs=>?_;have c:∀H,Cx.bC ⟨prog,gl.g,zj prog gl n,nU⟩ 147 [.int .i64 x] H=some (.val (.bool false),H):=jD func147 rfl (zqr hg h x n hn);simp only[f107,zh];refine rg ?_;simp only[BW,Nat.reduceAdd,List.replicate];refine rg ?_;simp only[BW,c]
 exact fI rfl ⟨rfl,[],by simp⟩
theorem zqS(hg:GK gl ef)(h:ef.any (Nat.beq 147)=false)(h1:ef.any (Nat.beq 107)=false)(h2:ef.any (Nat.beq 69)=false)(p:cE)(hp:p.2.length * 8<=reachBytes):m8 (p.2.length+6) prog gl 69 [iv p] (.bool (nG p.2)):=by
 have hr:=dY;refine vw hg func69 rfl h2 rfl (p.2.length+5) λn hn bs=>?_;simp only[f69,zh];refine rg ?_;simp only[BW,List.replicate];refine rg ?_;have D5:IntKind.i64.wrap ((p.2.length:Int) - 1)=(p.2.length:Int) - 1 - ((0:Nat):Int):=by rw[xH (by omega) (by omega)];simp
 simp only[BW,kO,bB,jX,D5];refine qh (λm st=>∃k env,m+k=p.2.length/\st=⟨env,⟨bs,[]⟩,[],[]⟩/\Ks 21 [(0,iv p),(3,.int .i64 ((p.2.length:Int) - 1 - (k:Nat)))] env/\∀j,j<k->(!dj (gi p.2 (p.2.length - 1 - j)) (gi p.2 (p.2.length - 1 - j - 1)))=true) p.2.length (by omega) ⟨0,_,rfl,rfl,gF rfl,λj h=>by omega⟩ ?_
 rintro m st ⟨k,env,De,rfl,⟨j,rfl⟩,dF⟩;simp only[sh,rT,Nat.reduceBEq,Nat.reduceAdd,mJ,oq];simp only[zh];refine rg ?_
 by_cases hk:(0:Int)<(p.2.length:Int) - 1 - (k:Int)
 ·simp only[BW,gt_iff_lt,hk];refine qG (tk:=[]) (by kernel_rfl) (by kernel_rfl) ?_
  have e0:(p.2.length:Int) - 1 - (k:Int)=((p.2.length - 1 - k:Nat):Int):=by omega
  have AZ:IntKind.i64.wrap ((p.2.length:Int) - 1 - (k:Int) - 1)=((p.2.length - 1 - k - 1:Nat):Int):=by rw[xH (by omega) (by omega)];omega
  have g1:=w6 (p:=p) (i:=p.2.length - 1 - k) (by omega)
  have g2:=w6 (p:=p) (i:=p.2.length - 1 - k - 1) (by omega)
  rw[<- e0] at g1;have c:∀H,Cx.bC ⟨prog,gl.g,zj prog gl n,nU⟩ 107 [.int .i64 (gi p.2 (p.2.length - 1 - k)),.int .i64 (gi p.2 (p.2.length - 1 - k - 1))] H=some (.val (.bool (dj (gi p.2 (p.2.length - 1 - k)) (gi p.2 (p.2.length - 1 - k - 1)))),H):=jD func107 rfl (zqs hg h h1 _ _ n (by omega))
  cases hc:dj (gi p.2 (p.2.length - 1 - k)) (gi p.2 (p.2.length - 1 - k - 1)) with
  | true =>
   rw[hc] at c;simp only[BW,bB,g1,g2,fA,xu,jX,AZ,c];refine rg ?_;simp only[BW];have hb:nG p.2=false:=by
    unfold nG;rw[<- Jn,cL];intro hx;have:=hx k (by omega)
    rw[hc] at this;cases this
   exact fI rfl ⟨by rw[hb],[],by simp⟩
  | false =>
   rw[hc] at c;simp only[BW,bB,g1,g2,fA,xu,jX,AZ,c];refine rg ?_;have OP:IntKind.i64.wrap ((p.2.length:Int) - 1 - (k:Int) - 1)=(p.2.length:Int) - 1 - ((k+1:Nat):Int):=by rw[xH (by omega) (by omega)];omega
   simp only[BW,jX,OP]
   exact⟨m - 1,by omega,k+1,_,by omega,rfl,gF rfl,λj hj=>by
    rcases eX j k with h|h
    ·exact dF j h
    ·obtain rfl:j=k:=by omega
     rw[hc];rfl⟩
 ·simp only[BW,gt_iff_lt,hk];refine rg ?_;simp only[BW]
  exact fI rfl ⟨by
   have hb:nG p.2=true:=cL.2 λj hj=>dF j (by omega)
   rw[hb],[],by simp⟩
theorem zqT(hg:GK gl ef)(h70:ef.any (Nat.beq 70)=false)(n0:Nat)(f:F)(AU:f.r.2.length=n0)(p:cE)(hp:WI p)(rule:Int)(hw:IntKind.i64.wrap ((n0:Int)+rule)=(n0:Int)+rule){n:Nat}(hn:p.2.length+2<=n){bs:List aV}{es:aN}{b1 b2:Nat}(e1:nth bs b1=some (.cells [.int .i64 (n0:Nat)] 3))(e2:nth bs b2=some (.cells (fc f) 30)) :
  zj prog gl n 70 [iv p,.int .i64 rule,.ptr b1 0,.ptr b2 0] ⟨bs,es⟩=some (.ret (.bool (wP (oT n0 f.r.2 rule p.2) p.2.length)),⟨bs,es⟩):=by
 have hr:=dY;have HG:=hp.1;obtain⟨n,rfl⟩:∃k,n=k+1:=⟨n - 1,by omega⟩
 refine zqj hg func70 rfl h70 rfl ?_;have l1:zk prog ⟨bs,[]⟩ gl.g 3 (.ptr b1 0)=some (.int .i64 (n0:Nat)):=zq fA e1 rfl;have l2:zk prog ⟨bs,[]⟩ gl.g 27 (.ptr b2 1)=some (iv f.r):=zq gJ e2 rfl;simp only[f70,zh];refine rg ?_;simp only[BW,Nat.reduceAdd,List.replicate];refine rg ?_
 simp only[BW,kO,bB];refine qh (λm st=>∃i env,m+i=p.2.length/\st=⟨env,⟨bs,[]⟩,[],[]⟩/\Ks 53 [(0,iv p),(1,.int .i64 rule),(2,.ptr b1 0),(3,.ptr b2 0),(9,iv p),(10,.int .i64 (p.2.length:Nat)),(11,.int .i64 (i:Nat))] env/\∀j,j<i->oT n0 f.r.2 rule p.2 j=true) p.2.length (by omega) ⟨0,_,rfl,rfl,gF rfl,λj h=>by omega⟩ ?_
 rintro m st ⟨i,env,sG,rfl,⟨j,rfl⟩,dF⟩;simp only[sh,rT,Nat.reduceBEq,Nat.reduceAdd,mJ,oq];simp only[zh];refine rg ?_;simp only[BW,qo]
 by_cases hi:i<p.2.length
 ·refine .inl ⟨by simp;omega,?_⟩
  have g1:=w6 hi;have g2:=w6 (p:=p) (i:=i - 1) (by omega)
  refine rg ?_;simp only[BW,bB,g1,xu];obtain⟨B,hB⟩:∃B,B=oT n0 f.r.2 rule p.2 i:=⟨_,rfl⟩;refine Oa 53 [(0,iv p),(1,.int .i64 rule),(2,.ptr b1 0),(3,.ptr b2 0),(9,iv p),(10,.int .i64 (p.2.length:Nat)),(11,.int .i64 (i:Nat)),(51,.bool (!B))] ?_ λenv ⟨j,e⟩=>?_
  ·refine rg ?_;unfold oT at hB;generalize gi p.2 i=x at g1 hB ⊢
   by_cases iH:0<i/\x<=gi p.2 (i - 1)
   ·obtain⟨c3,c4⟩:=iH;obtain rfl:B=false:=by rw[hB];simp[nD,c4,show i≠0 by omega]
    have lQ:IntKind.i64.wrap ((i:Int) - 1)=((i - 1:Nat):Int):=by rw[xH (by omega) (by omega)];omega
    simp only[BW,gt_iff_lt,show(0:Int)<(i:Int) by omega,jX,lQ,bB,g2,xu,ge_iff_le,c4]
    exact⟨_,rfl,gF rfl⟩
   have gq:(i == 0 || !nD x (gi p.2 (i - 1)))=true:=by
    rcases Jl i with rfl|c3
    ·rfl
    ·have:¬x<=gi p.2 (i - 1):=λh=>iH ⟨c3,h⟩;simp[nD,this]
   rw[gq,s5] at hB;have lQ:0<(i:Int)->IntKind.i64.wrap ((i:Int) - 1)=((i - 1:Nat):Int):=λ_=>by rw[xH (by omega) (by omega)];omega
   rcases (show(¬(0:Int)<(i:Int)/\¬(i:Int)<0)\/((0:Int)<(i:Int)/\¬x<=gi p.2 (i - 1)) by
    rcases Jl i with rfl|c3
    ·exact .inl ⟨by omega,by omega⟩
    ·exact .inr ⟨by omega,λh=>iH ⟨c3,h⟩⟩) with⟨c4,c5⟩|⟨c4,c5⟩
   all_goals
    by_cases a1:x<0
    ·obtain rfl:B=false:=by rw[hB];simp[dj,a1]
     simp only[BW,gt_iff_lt,c4,c5,jX,lQ,bB,g2,xu,a1];exact⟨_,rfl,gF rfl⟩
    cases a2:x == (n0:Int)+rule with
    | true =>
     obtain rfl:B=true:=by rw[hB,a2];simp[dj,a1]
     simp only[BW,gt_iff_lt,c4,c5,jX,lQ,bB,g2,xu,a1,l1,kg,hw,bne,a2];exact⟨_,rfl,gF rfl⟩
    | false =>
    by_cases a3:(n0:Int)<=x
    ·obtain rfl:B=false:=by rw[hB,a2];simp[dj,nD,a1,a3]
     simp only[BW,gt_iff_lt,c4,c5,jX,lQ,bB,g2,xu,ge_iff_le,a1,l1,kg,hw,bne,a2,a3];exact⟨_,rfl,gF rfl⟩
    obtain⟨y,rfl⟩:∃y:Nat,x=y:=⟨x.toNat,by omega⟩
    have g3:=w6 (p:=f.r) (i:=y) (by omega)
    obtain rfl:B=(gi f.r.2 y == rule):=by rw[hB,a2];simp[dj,nD,a1,a3]
    simp only[BW,gt_iff_lt,c4,c5,jX,lQ,bB,g2,xu,ge_iff_le,a1,l1,kg,hw,bne,a2,a3,iM,l2,g3];exact⟨_,rfl,gF rfl⟩
  subst e;simp only[sh,rT,Nat.reduceBEq,Nat.reduceAdd,mJ,oq];cases B with
  | false =>
   simp only[BW];refine rg ?_;simp only[BW];have hb:wP (oT n0 f.r.2 rule p.2) p.2.length=false:=by
    rw[<- Jn,cL];exact λh=>by rw[h i hi] at hB;cases hB
   exact fI rfl ⟨by rw[hb],[],by simp⟩
  | true =>
   simp only[BW];refine rg ?_;simp only[BW,qc (show i<2 ^ 60 by omega)]
   exact⟨m - 1,by omega,i+1,_,by omega,rfl,gF rfl,λj hj=>by
    rcases eX j i with h|h
    ·exact dF j h
    ·obtain rfl:j=i:=by omega
     exact hB.symm⟩
 ·obtain rfl:i=p.2.length:=by omega
  refine .inr ⟨by simp,?_⟩
  refine rg ?_;simp only[BW];exact fI (v:=.bool true) rfl ⟨by rw[cL.2 dF],[],by simp⟩
end
section
set_option maxHeartbeats 2000000
variable{gl:Gl}{ef:bN}
theorem Rm:prog.underlying 26=some (.slice 50):=by kernel_rfl
theorem Kk:qD prog 26=some false:=by kernel_rfl
theorem zjI{H:Hp}{p:Bool×List Q4}:jb prog H 26 (qv p)=some (p.2.length:Int):=by
 unfold qv;rcases cH 4 p.1 (p.2.map qe) with h|⟨h0,h⟩<;>rw[h]
 ·simp[jb]
 ·simp only[List.map_eq_nil_iff] at h0;simp[jb,h0]
section
variable{bs:List aV}{es:aN}{cs:aD}{ty t:aB}{g:Nat->Nat->bX}{off:Nat}{z w:Int}{y:aV}{env:aD}{df:bO}
theorem Bv(ha:qD prog t=some false):zk prog ⟨bs++[.cells cs ty,y],es⟩ g t (.ptr bs.length off)=nth cs off:=by
 have hg:(⟨bs++[.cells cs ty,y],es⟩:Hp).get bs.length=some (.cells cs ty):=by
  show nth _ _=_;rw[zg,fE (dI _)];simp
 cases h:nth cs off with
 | some v=>exact zq ha hg h
 | none=>simp[zk,qy,ha,hg,h,wW]
theorem Ux{x:aV}:nth (bs++[x,y]) (bs.length+1)=some y:=by
 rw[zg,fE (by omega),show bs.length+1 - bs.length=1 by omega];rfl
theorem I2{x:aV}:zk prog ⟨bs++[x,.cells [.int .i64 z] 3],es⟩ g 3 (.ptr (bs.length+1) 0)=some (.int .i64 z):=zq (cs:=[.int .i64 z]) (ty:=3) fA Ux rfl
theorem zqU{x:aV}:qr prog 3 ⟨bs++[x,.cells [.int .i64 z] 3],es⟩ [] df (some (.int .i64 w,env)) (some (.ptr (bs.length+1) 0))=some (.skip,⟨env,⟨bs++[x,.cells [.int .i64 w] 3],es⟩,[],df⟩):=by
 rw[zy (H:=⟨bs++[x,.cells [.int .i64 z] 3],es⟩) (b:=bs.length+1) (cs:=[.int .i64 z]) (ty:=3) IP (show _=_ from Ux) rfl rfl (by simp) (wh rfl (by simp)),jT (eg _)]
 simp only[Hp.set];rw[uM _ _ (by omega),show bs.length+1 - bs.length=1 by omega]
 rfl
end
theorem G2(f:F):nth (fc f) 0=some (qv f.s)/\nth (fc f) 1=some (iv f.r)/\nth (fc f) 2=some (rv f.f)/\nth (fc f) 3=some (rv f.n):=⟨rfl,rfl,rfl,rfl⟩
def zo0(ef:bN):Bool:=[147,107,69,70,24].all (λf=>!ef.any (Nat.beq f))
theorem ZF(hg:GK gl ef)(eT:zo0 ef=true)(f:F)(hf:WF f):Kn prog gl 24 [fv f] (.bool (Ed f.s.2.length f.r.2 (rowsOf f.f) (rowsOf f.n))):=by
 simp only[zo0,List.all_cons,List.all_nil,Bool.and_true,eo,Gq] at eT;obtain⟨ZG,ZH,n69,n70,n24⟩:=eT;have HZ:(2000:Nat)<=reachBytes:=by decide
 have J3:=dY;have ZI:=hf.r.1;refine⟨_,vw hg func24 rfl n24 rfl (reachBytes+10) λn hn bs=>?_⟩;have WM:=hf.fi.1;have cI:=hf.ne.1;simp only[f24,zh];refine rg ?_;simp only[BW,List.replicate,Od,z7 (YL f),T'];have hz:(V.int .i64 0).cells=[.int .i64 0]:=rfl
 have la:zk prog ⟨bs++[.cells (fc f) 30],[]⟩ gl.g 26 (.ptr bs.length 0)=some (qv f.s):=eY Kk;have lb:zk prog ⟨bs++[.cells (fc f) 30],[]⟩ gl.g 28 (.ptr bs.length 2)=some (rv f.f):=eY gI;have lc:∀z,zk prog ⟨bs++[.cells (fc f) 30,.cells [.int .i64 z] 3],[]⟩ gl.g 26 (.ptr bs.length 0)=some (qv f.s):=λz=>Bv Kk
 have ld:∀z,zk prog ⟨bs++[.cells (fc f) 30,.cells [.int .i64 z] 3],[]⟩ gl.g 28 (.ptr bs.length 2)=some (rv f.f):=λz=>Bv gI;refine wC (tk:=[]) (by kernel_rfl) ?_
 apply Exists.intro;apply And.intro;refine oF 0 (.ptr bs.length 0) (by simp only[BW,iM]) ?_
 dsimp only[aq]
 refine oL 1 (qv f.s) (by simp only[BW,la,ey]) (λc h=>by cases h) ?_
 dsimp only[aq]
 refine oL 3 (.int .i64 (f.s.2.length:Nat)) (by simp only[BW,zjI,ey]) (λc h=>by cases h) ?_
 dsimp only[aq]
 refine oF 0 (.ptr bs.length 2) (by simp only[BW,iM]) ?_
 dsimp only[aq]
 refine oL 8 (rv f.f) (by simp only[BW,lb,bH]) (λc h=>by cases h) ?_
 dsimp only[aq]
 refine oL 24 (.int .i64 (f.f.2.length:Nat)) (by simp only[BW,jS,bH]) (λc h=>by cases h) ?_
 dsimp only[aq]
 refine zdS (m:=0) (v:=.ptr (bs.length+1) 0) (H1:=⟨bs++[.cells (fc f) 30,.cells [.int .i64 0] 3],[]⟩) (cK:=_) (eB:=[]) (eu:=[]) (cs':=[⟨64,⟨bs++[.cells (fc f) 30,.cells [.int .i64 0] 3],[]⟩,[],[]⟩,⟨0,⟨bs++[.cells (fc f) 30],[]⟩,[],[]⟩]) (by kernel_rfl) rfl (by simp only[BW,YR,zH (show dz (.int .i64 0)=true from rfl),hz];rfl) (by kernel_rfl) (by kernel_rfl) (by kernel_rfl) (λK=>jK (by kernel_rfl) rfl (λc h=>by cases h) (zhC λq hq=>?_)) ?_
 ·simp only[dH,Ap,uR] at hq;rcases hq with rfl|rfl|rfl|rfl|rfl|rfl
  ·refine .inr ⟨rfl,.inr (.inr ?_)⟩;simp only[jc];exact yg (by simp only[BW,jS,bH];rfl)
  ·refine .inr ⟨rfl,.inr (.inr ?_)⟩;simp only[jc];exact yg (by simp only[BW,ld,bH];rfl)
  ·exact .inr ⟨rfl,.inl rfl⟩
  ·refine .inr ⟨rfl,.inr (.inr ?_)⟩;simp only[jc];exact yg (by simp only[BW,zjI,ey];rfl)
  ·refine .inr ⟨rfl,.inr (.inr ?_)⟩;simp only[jc];exact yg (by simp only[BW,lc,ey];rfl)
  ·exact .inr ⟨rfl,.inl rfl⟩
 dsimp only[aq]
 refine wD (m:=71) (H1:=⟨bs++[.cells (fc f) 30,.cells [.int .i64 (f.s.2.length:Nat)] 3],[]⟩) (cK:=_) (eB:=[]) (eu:=[]) (cs':=[⟨192,⟨bs++[.cells (fc f) 30,.cells [.int .i64 (f.s.2.length:Nat)] 3],[]⟩,[],[]⟩,⟨64,⟨bs++[.cells (fc f) 30,.cells [.int .i64 0] 3],[]⟩,[],[]⟩,⟨0,⟨bs++[.cells (fc f) 30],[]⟩,[],[]⟩]) (by kernel_rfl) rfl (by simp only[BW,zqU];rfl) (by kernel_rfl) (by kernel_rfl) (λK=>jK (by kernel_rfl) rfl (λc h=>by rw[oX.1 h];kernel_rfl) (zhC λq hq=>?_)) ?_
 ·simp only[dH,Ap,uR] at hq;rcases hq with rfl|rfl|rfl|rfl|rfl|rfl|rfl
  ·exact .inl ⟨rfl,by kernel_rfl⟩
  ·refine .inr ⟨rfl,.inr (.inr ?_)⟩;simp only[jc];exact yg (by simp only[BW,jS,bH];rfl)
  ·refine .inr ⟨rfl,.inr (.inr ?_)⟩;simp only[jc];exact yg (by simp only[BW,ld,bH];rfl)
  ·exact .inr ⟨rfl,.inl rfl⟩
  ·exact .inr ⟨rfl,.inr (.inl (by kernel_rfl))⟩
  ·exact .inr ⟨rfl,.inr (.inl (by kernel_rfl))⟩
  ·exact .inr ⟨rfl,.inl rfl⟩
 dsimp only[aq]
 refine oF 255 (.int .i64 (f.f.2.length:Nat)) (by simp only[BW]) wG
 simp only[aq,zh];have hch:Ed f.s.2.length f.r.2 (rowsOf f.f) (rowsOf f.n)=bif (((dj 1000 (f.s.2.length:Int) || dj 200 (f.f.2.length:Int)) || !((f.r.2.length:Int) == (f.s.2.length:Int))) || !((f.n.2.length:Int) == (f.s.2.length:Int))) then false else
   bif nG f.r.2 then bif dj 0 (f.s.2.length:Int) then bif !dj (gi f.r.2 0) 0 then bif nD (f.f.2.length:Int) (gi f.r.2 (f.s.2.length - 1)) then false else nH f.s.2.length f.r.2 (rowsOf f.f) (rowsOf f.n) else false else nH f.s.2.length f.r.2 (rowsOf f.f) (rowsOf f.n) else false:=by
  simp only[Ed,ez]
 rw[hch];refine rg ?_;have Uy:∀H,Cx.bC ⟨prog,gl.g,zj prog gl n,nU⟩ 69 [iv f.r] H=some (.val (.bool (nG f.r.2)),H):=jD func69 rfl (zqS hg ZG ZH n69 f.r ZI n (by omega))
 by_cases c1:(1000:Int)<f.s.2.length
 ·simp only[BW,I2,gt_iff_lt,c1];refine rg ?_;simp only[BW];exact fI rfl ⟨by simp[dj,c1],_,rfl⟩
 by_cases c2:(200:Int)<f.f.2.length
 ·simp only[BW,I2,gt_iff_lt,c1,c2];refine rg ?_;simp only[BW];exact fI rfl ⟨by simp[dj,c2],_,rfl⟩
 cases c3:((f.r.2.length:Int) == (f.s.2.length:Int)) with
 | false =>
  simp only[BW,I2,gt_iff_lt,c1,c2,iM,Bv gJ,G2,bB,kO,bne,c3];refine rg ?_;simp only[BW];exact fI rfl ⟨by simp,_,rfl⟩
 | true =>
 cases c4:((f.n.2.length:Int) == (f.s.2.length:Int)) with
 | false =>
  simp only[BW,I2,gt_iff_lt,c1,c2,iM,Bv gJ,G2,Bv gI,bB,bH,kO,jS,bne,c3,c4];refine rg ?_;simp only[BW];exact fI rfl ⟨by simp,_,rfl⟩
 | true =>
 cases c5:nG f.r.2 with
 | false =>
  rw[c5] at Uy;simp only[BW,I2,gt_iff_lt,c1,c2,iM,Bv gJ,G2,Bv gI,bB,bH,kO,jS,bne,c3,c4,Uy,iz];refine rg ?_;simp only[BW];exact fI rfl ⟨by simp,_,rfl⟩
 | true =>
 rw[c5] at Uy;simp only[BW,I2,gt_iff_lt,c1,c2,iM,Bv gJ,G2,Bv gI,bB,bH,kO,jS,bne,c3,c4,Uy,iz];have Ll:f.r.2.length=f.s.2.length:=by have:=eq_of_beq c3;omega
 have ov:f.n.2.length=f.s.2.length:=by have:=eq_of_beq c4;omega
 simp only[show dj 1000 (f.s.2.length:Int)=false by simp[dj,c1],show dj 200 (f.f.2.length:Int)=false by simp[dj,c2],Bool.or_self,oq,mJ]
 obtain⟨B,hB⟩:∃B,B=(dj 0 (f.s.2.length:Int) && (dj (gi f.r.2 0) 0 || nD (f.f.2.length:Int) (gi f.r.2 (f.s.2.length - 1)))):=⟨_,rfl⟩
 have Gw:(bif dj 0 (f.s.2.length:Int) then bif !dj (gi f.r.2 0) 0 then bif nD (f.f.2.length:Int) (gi f.r.2 (f.s.2.length - 1)) then false else nH f.s.2.length f.r.2 (rowsOf f.f) (rowsOf f.n) else false else nH f.s.2.length f.r.2 (rowsOf f.f) (rowsOf f.n))=(!B && nH f.s.2.length f.r.2 (rowsOf f.f) (rowsOf f.n)):=by
  rw[hB];cases dj 0 (f.s.2.length:Int)<;>cases dj (gi f.r.2 0) 0<;>cases nD (f.f.2.length:Int) (gi f.r.2 (f.s.2.length - 1))<;>simp
 rw[Gw];refine Oa 94 [(1,.ptr bs.length 0),(3,.ptr (bs.length+1) 0),(60,.bool B)] ?_ λenv ⟨j,e⟩=>?_
 ·refine rg ?_
  by_cases d1:(0:Int)<f.s.2.length
  ·have g1:=w6 (p:=f.r) (i:=0) (by omega)
   have g2:=w6 (p:=f.r) (i:=f.s.2.length - 1) (by omega)
   have lQ:IntKind.i64.wrap ((f.s.2.length:Int) - 1)=((f.s.2.length - 1:Nat):Int):=by rw[xH (by omega) (by omega)];omega
   have g1':zt prog 27 (iv f.r) 0=some (.vp [.int .i64 (gi f.r.2 0)]):=g1
   by_cases d2:gi f.r.2 0<0
   ·obtain rfl:B=true:=by rw[hB];simp only[dj,nD,d1,d2,decide_true,s5,Bool.true_or]
    simp only[BW,I2,gt_iff_lt,d1,iM,Bv gJ,G2,bB,g1',xu,d2];exact⟨_,rfl,gF rfl⟩
   ·obtain rfl:B=decide ((f.f.2.length:Int)<=gi f.r.2 (f.s.2.length - 1)):=by rw[hB];simp only[dj,nD,d1,d2,decide_true,decide_false,s5,uQ]
    simp only[BW,I2,gt_iff_lt,d1,iM,Bv gJ,G2,bB,g1',xu,d2,jX,lQ,g2,ge_iff_le];exact⟨_,rfl,gF rfl⟩
  ·obtain rfl:B=false:=by rw[hB];simp only[dj,d1,decide_false,EU]
   simp only[BW,I2,gt_iff_lt,d1];exact⟨_,rfl,gF rfl⟩
 subst e;simp only[sh,rT,Nat.reduceBEq,Nat.reduceAdd,mJ,oq];cases B with
 | true =>
  simp only[BW];refine rg ?_;simp only[BW];exact fI rfl ⟨rfl,_,rfl⟩
 | false =>
 have Rn:∀i,i<f.s.2.length->0<=gi f.r.2 i/\gi f.r.2 i<(f.f.2.length:Int):=λi hi=>by
  have h1:=pF c5 (i:=0) (j:=i) (by omega) (by omega)
  have h2:=pF c5 (i:=i) (j:=f.s.2.length - 1) (by omega) (by omega)
  have h3:(0:Int)<f.s.2.length:=by omega
  simp only[dj,nD,h3,decide_true,s5] at hB;have GN:=hB.symm;rw[KJ] at GN;simp only[decide_eq_false_iff_not] at GN;omega
 simp only[BW,s5];refine rg ?_;have cF:aW (V.fn (.func 70) [] [.ptr (bs.length+1) 0,.ptr bs.length 0])=.fn (.func 70) [] [.ptr (bs.length+1) 0,.ptr bs.length 0]:=rfl;have tF:∀env t,qK env t (some (.fn (.func 70) [] [.ptr (bs.length+1) 0,.ptr bs.length 0]))=some (.fn (.func 70) [] [.ptr (bs.length+1) 0,.ptr bs.length 0],env):=λ_ _=>rfl
 have cV:∀args H,Cx.mq ⟨prog,gl.g,zj prog gl n,nU⟩ (.fn (.func 70) [] [.ptr (bs.length+1) 0,.ptr bs.length 0]) args H=Cx.bC ⟨prog,gl.g,zj prog gl n,nU⟩ 70 (args.map aW++[.ptr (bs.length+1) 0,.ptr bs.length 0]) H:=λ_ _=>Zw rfl;simp only[BW,Uu,tF]
 obtain⟨P1,hP1⟩:∃P1:Nat->Bool,P1=λ(i:Nat)=>wP (oT f.s.2.length f.r.2 (i:Int) (gr (rowsOf f.f) i)) (gr (rowsOf f.f) i).length:=⟨_,rfl⟩;obtain⟨P2,Kl⟩:∃P2:Nat->Bool,P2=λ(i:Nat)=>wP (oT f.s.2.length f.r.2 (gi f.r.2 i) (gr (rowsOf f.n) i)) (gr (rowsOf f.n) i).length:=⟨_,rfl⟩
 have lP:nH f.s.2.length f.r.2 (rowsOf f.f) (rowsOf f.n)=bif wP P1 f.f.2.length then wP P2 f.s.2.length else false:=by
  simp only[nH,ez,hP1,Kl]
 rw[lP]
 have dw:∀(q:cE)(rule:Int),WI q->0<=rule->rule<=200->Cx.bC ⟨prog,gl.g,zj prog gl n,nU⟩ 70 [iv q,.int .i64 rule,.ptr (bs.length+1) 0,.ptr bs.length 0] ⟨bs++[.cells (fc f) 30,.cells [.int .i64 (f.s.2.length:Nat)] 3],[]⟩=some (.val (.bool (wP (oT f.s.2.length f.r.2 rule q.2) q.2.length)),⟨bs++[.cells (fc f) 30,.cells [.int .i64 (f.s.2.length:Nat)] 3],[]⟩):=λq rule hq h0 h1 =>
  zu func70 rfl (zqT hg n70 f.s.2.length f Ll q hq rule (xH (by omega) (by omega)) (by have:=hq.1;omega) Ux (by rw[zg,fE (dI _)];simp))
 refine rg ?_;simp only[BW,iM,Bv gI,G2,bH,jS]
 refine qh (λm st=>∃i env,m+i=f.f.2.length/\st=⟨env,⟨bs++[.cells (fc f) 30,.cells [.int .i64 (f.s.2.length:Nat)] 3],[]⟩,[],[]⟩/\Ks 94 [(1,.ptr bs.length 0),(5,.fn (.func 70) [] [.ptr (bs.length+1) 0,.ptr bs.length 0]),(63,rv f.f),(64,.int .i64 (f.f.2.length:Nat)),(65,.int .i64 (i:Nat))] env/\∀j,j<i->P1 j=true) f.f.2.length (by omega) ⟨0,_,rfl,rfl,gF rfl,λj h=>by omega⟩ ?_
 rintro m st ⟨i,env,sG,rfl,⟨j,rfl⟩,dF⟩;simp only[sh,rT,Nat.reduceBEq,Nat.reduceAdd,mJ,oq];simp only[zh];refine rg ?_;simp only[BW,qo]
 by_cases hi:i<f.f.2.length
 ·refine .inl ⟨by simp;omega,?_⟩
  obtain⟨q,hq⟩:∃q,f.f.2[i]?=some q:=⟨f.f.2[i],by simp[hi]⟩
  have hc:=dw q (i:Int) (hf.fi.2 q (m_ hq)) (by omega) (by omega)
  have ZJ:P1 i=wP (oT f.s.2.length f.r.2 (i:Int) q.2) q.2.length:=by
   rw[hP1];simp only[oR hq]
  rw[<- ZJ] at hc;refine rg ?_;simp only[BW,bH,yU hq,IY,bB,Zl];refine rg ?_;cases hp:P1 i with
  | false =>
   rw[hp] at hc;simp only[BW,bB,yL,wK,cF,cV,hc,iz];refine rg ?_;simp only[BW];have hb:wP P1 f.f.2.length=false:=by
    rw[<- Jn,cL];exact λh=>by rw[h i hi] at hp;cases hp
   exact fI rfl ⟨by rw[hb];rfl,_,rfl⟩
  | true =>
   rw[hp] at hc;simp only[BW,bB,yL,wK,cF,cV,hc,iz];refine rg ?_;simp only[BW,qc (show i<2 ^ 60 by omega)]
   exact⟨m - 1,by omega,i+1,_,by omega,rfl,gF rfl,λj hj=>by
    rcases eX j i with h|h
    ·exact dF j h
    ·obtain rfl:j=i:=by omega
     exact hp⟩
 ·obtain rfl:i=f.f.2.length:=by omega
  refine .inr ⟨by simp,?_⟩
  rw[cL.2 dF,mJ];refine rg ?_;simp only[BW,iM,Bv gI,G2,bH,jS]
  refine qh (λm st=>∃i env,m+i=f.n.2.length/\st=⟨env,⟨bs++[.cells (fc f) 30,.cells [.int .i64 (f.s.2.length:Nat)] 3],[]⟩,[],[]⟩/\Ks 94 [(1,.ptr bs.length 0),(5,.fn (.func 70) [] [.ptr (bs.length+1) 0,.ptr bs.length 0]),(77,rv f.n),(78,.int .i64 (f.n.2.length:Nat)),(79,.int .i64 (i:Nat))] env/\∀j,j<i->P2 j=true) f.n.2.length (by omega) ⟨0,_,rfl,rfl,gF rfl,λj h=>by omega⟩ ?_
  rintro m st ⟨i,env,sG,rfl,⟨j,rfl⟩,dF⟩;simp only[sh,rT,Nat.reduceBEq,Nat.reduceAdd,mJ,oq];simp only[zh];refine rg ?_;simp only[BW,qo]
  by_cases hi:i<f.n.2.length
  ·refine .inl ⟨by simp;omega,?_⟩
   obtain⟨q,hq⟩:∃q,f.n.2[i]?=some q:=⟨f.n.2[i],by simp[hi]⟩
   obtain⟨r0,r1⟩:=Rn i (by omega)
   have hc:=dw q (gi f.r.2 i) (hf.ne.2 q (m_ hq)) r0 (by omega)
   have g1:=w6 (p:=f.r) (i:=i) (by omega)
   have ZJ:P2 i=wP (oT f.s.2.length f.r.2 (gi f.r.2 i) q.2) q.2.length:=by
    rw[Kl];simp only[oR hq]
   rw[<- ZJ] at hc;refine rg ?_;simp only[BW,bH,yU hq,IY,bB,Zl];refine rg ?_;cases hp:P2 i with
   | false =>
    rw[hp] at hc;simp only[BW,iM,Bv gJ,G2,bB,g1,xu,yL,wK,cF,cV,hc,iz];refine rg ?_;simp only[BW];have hb:wP P2 f.s.2.length=false:=by
     rw[<- Jn,cL];exact λh=>by rw[h i (by omega)] at hp;cases hp
    exact fI rfl ⟨by rw[hb],_,rfl⟩
   | true =>
    rw[hp] at hc;simp only[BW,iM,Bv gJ,G2,bB,g1,xu,yL,wK,cF,cV,hc,iz];refine rg ?_;simp only[BW,qc (show i<2 ^ 60 by omega)]
    exact⟨m - 1,by omega,i+1,_,by omega,rfl,gF rfl,λj hj=>by
     rcases eX j i with h|h
     ·exact dF j h
     ·obtain rfl:j=i:=by omega
      exact hp⟩
  ·obtain rfl:i=f.n.2.length:=by omega
   refine .inr ⟨by simp,?_⟩
   refine rg ?_;simp only[BW];rw[ov] at dF;exact fI rfl ⟨by rw[cL.2 dF],_,rfl⟩
end
section
set_option linter.unusedSectionVars false
variable{gl:Gl}
def Uz(p:Bool×List cE):V:=lv 1 p.1 (p.2.map CR)
end
theorem c5:prog.cellsOf 5=1:=by kernel_rfl
theorem c78:prog.cellsOf 78=1:=by kernel_rfl
theorem c58:prog.cellsOf 58=1:=by kernel_rfl
theorem b5:prog.bytesOf 5=1:=by kernel_rfl
theorem b78:prog.bytesOf 78=24:=by kernel_rfl
theorem mk5(cs:aD):v7 prog 5 cs=cs.headD .dW:=by
 have:y5 prog 5=false:=by kernel_rfl
 simp[v7,this]
theorem zqV(cs:aD):v7 prog 78 cs=cs.headD .dW:=by
 have:y5 prog 78=false:=by kernel_rfl
 simp[v7,this]
def WB(t:cE):Prop:=t.2.length<2 ^ 60/\∀b∈t.2,0<=b/\b<256
theorem zpK{n:Nat}{xs:aD}(h:jk prog n 5 xs):∃z,xs=[be z]/\0<=z/\z<256:=by
 cases n with
 | zero=>exact h.elim
 | succ n =>
  simp only[jk,underlying5] at h;obtain⟨z,h,hw⟩:=h;refine⟨z,h,?_⟩;have tJ:IntKind.u8.min<=z/\z<=IntKind.u8.max:=by simpa[Lit.wf] using hw
  have e1:IntKind.u8.min=0:=by decide
  have e2:IntKind.u8.max=255:=by decide
  rw[e1,e2] at tJ;omega
theorem zoh{n:Nat}{xs:aD}(h:jk prog n 78 xs):∃p,xs=[CR p]/\WB p:=by
 cases n with
 | zero=>exact h.elim
 | succ n =>
  simp only[jk,underlying78,c5,b5] at h;rcases h with h|⟨ys,h,⟨_,hl⟩,hy⟩
  ·exact⟨(true,[]),h,by simp[WB]⟩
  ·obtain⟨l,h1,h2⟩:=l7 (h:=be) (Q:=λb=>0<=b/\b<256) ys λy FQ=>by
    obtain⟨cs,g1,g2⟩:=hy y FQ;obtain⟨z,g3,g4⟩:=zpK g1;rw[mk5,g3] at g2;exact⟨z,g2.symm,g4⟩
   subst h1;rw[gC] at hl;exact⟨(false,l),h,by have:=dY;show l.length<_;omega,h2⟩
theorem I3{n:Nat}{xs:aD}(h:jk prog n 58 xs):∃p,xs=[Uz p]/\p.2.length<2 ^ 60/\∀t∈p.2,WB t:=by
 cases n with
 | zero=>exact h.elim
 | succ n =>
  simp only[jk,underlying58,c78,b78] at h;rcases h with h|⟨ys,h,⟨_,hl⟩,hy⟩
  ·exact⟨(true,[]),h,by simp⟩
  ·obtain⟨l,h1,h2⟩:=l7 (h:=CR) (Q:=WB) ys λy FQ=>by
    obtain⟨cs,g1,g2⟩:=hy y FQ;obtain⟨z,g3,g4⟩:=zoh g1;rw[zqV,g3] at g2;exact⟨z,g2.symm,g4⟩
   subst h1;rw[gC] at hl;exact⟨(false,l),h,by have:=dY;show l.length<_;omega,h2⟩
end Go.Proofs.YthohlnmcjkjeiaaGreatDoor.A2
namespace Go.Proofs.YthohlnmcjkjeiaaGreatDoor
open Go.Proofs.Tryz
set_option maxRecDepth 10000
open Go Go.Vm
theorem ZK:prog.cellsOf 53=10:=by kernel_rfl
theorem c47:prog.cellsOf 55=21:=by kernel_rfl
theorem c41:prog.cellsOf 50=4:=by kernel_rfl
theorem c39:prog.cellsOf 48=1:=by kernel_rfl
theorem c43:prog.cellsOf 51=1:=by kernel_rfl
theorem c9:prog.cellsOf 9=1:=by kernel_rfl
theorem K7:prog.cellsOf 3=1:=by kernel_rfl
theorem c4':prog.cellsOf 4=1:=by kernel_rfl
theorem c22:prog.cellsOf 24=1:=by kernel_rfl
theorem c60:prog.cellsOf 60=3:=by kernel_rfl
theorem b47:prog.bytesOf 55=216:=by kernel_rfl
theorem zqW(cs:aD):v7 prog 53 cs=.agg cs:=by
 have:y5 prog 53=true:=by kernel_rfl
 simp only[v7,this,aF]
theorem zqX(cs:aD):v7 prog 55 cs=.agg cs:=by
 have:y5 prog 55=true:=by kernel_rfl
 simp only[v7,this,aF]
theorem p8{n:Nat}{xs:aD}(h:jk prog n 3 xs):∃z,xs=[.int .i64 z]:=by
 cases n with
 | zero=>exact h.elim
 | succ n =>
  simp only[jk,underlying3] at h;obtain⟨z,h,_⟩:=h;exact⟨z,h⟩
theorem zpL{n:Nat}{xs:aD}(h:jk prog n 4 xs):∃b,xs=[.bool b]:=by
 cases n with
 | zero=>exact h.elim
 | succ n =>
  simp only[jk,underlying4] at h;exact h
def QU(z:Int):Prop:=0<=z/\z<18446744073709551616
mutual
def QE:E->Prop
 | .mk _ _ s0 s1 s2 s3 _ _ _ _ args=>(QU s0/\QU s1/\QU s2/\QU s3)/\MD args
def MD:List E->Prop
 | []=>True
 | e::l=>QE e/\MD l
end
theorem UA{n:Nat}{xs:aD}(h:jk prog n 48 xs):∃z,xs=[.int .u64 z]/\QU z:=by
 cases n with
 | zero=>exact h.elim
 | succ n =>
  simp only[jk,underlying48] at h;obtain⟨z,h,hw⟩:=h;refine⟨z,h,?_⟩;have tJ:IntKind.u64.min<=z/\z<=IntKind.u64.max:=by simpa[Lit.wf] using hw
  have e1:IntKind.u64.min=0:=by decide
  have e2:IntKind.u64.max=18446744073709551615:=by decide
  rw[e1,e2] at tJ;exact⟨by omega,by omega⟩
theorem zpM{n:Nat}{xs:aD}(h:jk prog n 9 xs):∃s,xs=[.str s]/\(∀b∈s,b<256)/\s.length<=maxLen:=by
 cases n with
 | zero=>exact h.elim
 | succ n =>
  simp only[jk,underlying9] at h;exact h
theorem zoi{n:Nat}{xs:aD}(h:jk prog n 50 xs):∃a b c d,xs=[.int .u64 a,.int .u64 b,.int .u64 c,.int .u64 d]/\QU a/\QU b/\QU c/\QU d:=by
 cases n with
 | zero=>exact h.elim
 | succ n =>
  simp only[jk,underlying50,c41,c39] at h;obtain⟨hl,h⟩:=h
  match xs,hl with
  | [x,y,z,w],_ =>
   obtain⟨a,ha,ka⟩:=UA (h 0 (by omega))
   obtain⟨b,hb,kb⟩:=UA (h 1 (by omega))
   obtain⟨c,hc,kc⟩:=UA (h 2 (by omega))
   obtain⟨d,hd,kd⟩:=UA (h 3 (by omega))
   simp at ha hb hc hd;exact⟨a,b,c,d,by rw[ha,hb,hc,hd],ka,kb,kc,kd⟩
theorem Dx:∀(ys:aD),(∀y∈ys,∃e,enc e=y/\Wf e/\Can e/\QE e)->∃l,fe l=ys/\Iu l/\Eb l/\MD l
 | [],_=>⟨[],rfl,trivial,trivial,trivial⟩
 | y::ys,h=>by
  obtain⟨e,h1,h2,h5,h7⟩:=h y eH;obtain⟨l,h3,h4,h6,h8⟩:=Dx ys λz hz=>h z (dR _ hz);exact⟨e::l,by simp[fe,h1,h3],⟨h2,h4⟩,⟨h5,h6⟩,h7,h8⟩
theorem l7{α:Type}{h:α->V}{Q:α->Prop}:∀(ys:aD),(∀y∈ys,∃a,h a=y/\Q a)->∃l:List α,l.map h=ys/\∀a∈l,Q a
 | [],_=>⟨[],rfl,λ_ h=>by simp at h⟩
 | y::ys,hy=>by
  obtain⟨a,h1,h2⟩:=hy y (eH ..);obtain⟨l,h3,h4⟩:=l7 ys λz hz=>hy z (dR _ hz);refine⟨a::l,by simp[h1,h3],λb hb=>?_⟩
  rcases dH.1 hb with rfl|hb
  ·exact h2
  ·exact h4 b hb
mutual
theorem CW:∀(n:Nat)(xs:aD),jk prog n 53 xs->∃e,enc e=.agg xs/\Wf e/\Can e/\QE e
 | 0,_,h=>h.elim
 | n+1,xs,h=>by
  simp only[jk,underlying53,ZK] at h;obtain⟨hl,h⟩:=h;have f0:=h ⟨ "Op",3,0,false,"","",0⟩ (by simp)
  have f1:=h ⟨ "At",3,1,false,"","",8⟩ (by simp)
  have f2:=h ⟨ "Set",50,2,false,"","",16⟩ (by simp)
  have f3:=h ⟨ "Text",9,6,false,"","",48⟩ (by simp)
  have f4:=h ⟨ "Min",3,7,false,"","",64⟩ (by simp)
  have f5:=h ⟨ "Max",3,8,false,"","",72⟩ (by simp)
  have f6:=h ⟨ "Args",51,9,false,"","",80⟩ (by simp)
  clear h;simp only[K7,c41,c9,c43] at f0 f1 f2 f3 f4 f5 f6
  match xs,hl with
  | [x0,x1,x2,x3,x4,x5,x6,x7,x8,x9],_ =>
   simp only[ud,mg,uN,As] at f0 f1 f2 f3 f4 f5 f6;obtain⟨op,h0⟩:=p8 f0;obtain⟨pl,h1⟩:=p8 f1;obtain⟨a,b,c,d,h2,hq⟩:=zoi f2;obtain⟨s,h3,_,hs⟩:=zpM f3;obtain⟨mn,h4⟩:=p8 f4;obtain⟨mx,h5⟩:=p8 f5;obtain⟨nl,l,h6,h7,h8,h9,BR,P_⟩:=ME n x9 f6;simp only[Aq,At] at h0 h1 h2 h3 h4 h5;obtain⟨rfl,rfl,rfl,rfl⟩:=h2;subst h0 h1 h3 h4 h5 h6
   exact⟨.mk op pl a b c d s mn mx nl l,rfl,⟨hs,h7,h8⟩,⟨BR,h9⟩,hq,P_⟩
theorem ME:∀(n:Nat)(v:V),jk prog n 51 [v]->∃nl l,v=ye nl (fe l)/\l.length<=maxLen/\Iu l/\Eb l/\(nl=true->l=[])/\MD l
 | 0,_,h=>h.elim
 | n+1,v,h=>by
  simp only[jk,underlying51,ZK] at h;rcases h with h|⟨ys,h,⟨hl,_⟩,hy⟩
  ·simp only[Aq,At] at h;exact⟨true,[],by rw[h];rfl,by simp,trivial,trivial,λ_=>rfl,trivial⟩
  ·simp only[Aq,At] at h;obtain⟨l,h1,h2,h3,h4⟩:=Dx ys λy FQ=>by
    obtain⟨cs,g1,g2⟩:=hy y FQ;rw[zqW] at g2;rw[g2];exact CW n cs g1
   subst h1;rw[fD] at hl;exact⟨false,l,by rw[h];rfl,hl,h2,h3,(λh=>by cases h),h4⟩
end
theorem zoj{n:Nat}{xs:aD}(h:jk prog n 55 xs):∃c:Cr,BS c=.agg xs/\Mb c/\IV c/\QE c.1/\QE c.2.2:=by
 cases n with
 | zero=>exact h.elim
 | succ n =>
  simp only[jk,underlying55,c47] at h;obtain⟨hl,h⟩:=h;have f0:=h ⟨ "Head",53,0,false,"","",0⟩ (by simp)
  have f1:=h ⟨ "HasTrail",4,10,false,"","",104⟩ (by simp)
  have f2:=h ⟨ "Trail",53,11,false,"","",112⟩ (by simp)
  clear h;simp only[ZK,c4'] at f0 f1 f2;rw[mg] at f0;obtain⟨a,ha,wa,ka,qa⟩:=CW n _ f0;obtain⟨t,ht⟩:=zpL f1;obtain⟨b,hb,wb,kb,qb⟩:=CW n _ f2;refine⟨(a,t,b),?_,⟨wa,wb⟩,⟨ka,kb⟩,qa,qb⟩;rw[qA,V.agg.injEq] at ha hb;simp only[BS,iS,ha,hb];rw[V.agg.injEq,bh,<- ht];have e3:(xs.drop 11).take 10=xs.drop 11:=p9 (by simp;omega)
  have e4:xs.drop 11=(xs.drop 10).drop 1:=by rw[List.drop_drop]
  rw[e3,e4,BH,BH]
theorem zok{n:Nat}{v:V}(h:jk prog n 24 [v]):∃nl l,v=z0 nl l/\l.length<=maxLen/\l.length * 216<=reachBytes/\(∀c∈l,Mb c)/\(∀c∈l,IV c)/\∀c∈l,QE c.1/\QE c.2.2:=by
 cases n with
 | zero=>exact h.elim
 | succ n =>
  simp only[jk,underlying24,c47,b47] at h;rcases h with h|⟨ys,h,⟨hl,hb⟩,hy⟩
  ·simp only[Aq,At] at h;exact⟨true,[],by rw[h];rfl,by simp,by simp,by simp,by simp,by simp⟩
  ·simp only[Aq,At] at h;obtain⟨l,h1,h2⟩:=l7 (h:=BS) (Q:=λc=>Mb c/\IV c/\QE c.1/\QE c.2.2) ys λy FQ=>by
    obtain⟨cs,g1,g2⟩:=hy y FQ;rw[zqX] at g2;rw[g2];exact zoj g1
   subst h1;rw[gC] at hl hb;refine⟨false,l,by rw[h];rfl,hl,hb,λc hc=>(h2 c hc).1,λc hc=>(h2 c hc).2.1,λc hc=>(h2 c hc).2.2⟩
structure Bw where
 nl:Bool
 l:List Cr
 a:A2.f_
 t:Bool×List A2.cE
def vx(p:Bw):aD:=[z0 p.nl p.l,A2.rv p.a,A2.Uz p.t]
structure By(p:Bw):Prop where
 len:p.l.length<=maxLen
 Cy:p.l.length * 216<=reachBytes
 wf:∀c∈p.l,Mb c
 can:∀c∈p.l,IV c
 q:∀c∈p.l,QE c.1/\QE c.2.2
 a:A2.WR p.a
 tl:p.t.2.length<2 ^ 60
 t:∀t∈p.t.2,A2.WB t
theorem zol{n:Nat}{xs:aD}(h:jk prog n 60 xs):∃p,xs=vx p/\By p:=by
 cases n with
 | zero=>exact h.elim
 | succ n =>
  simp only[jk,underlying60,c60] at h;obtain⟨hl,h⟩:=h
  match xs,hl with
  | [x,y,z],_ =>
   have f0:=h ⟨ "L",24,0,false,"","",0⟩ (by simp)
   have f1:=h ⟨ "Active",28,1,false,"","",24⟩ (by simp)
   have f2:=h ⟨ "Texts",58,2,false,"","",48⟩ (by simp)
   simp only[c22,A2.QH,A2.c58,ud,mg,uN,As] at f0 f1 f2;obtain⟨nl,l,rfl,k1,k2,k3,k4,k5⟩:=zok f0;obtain⟨p,hp,wp⟩:=A2.IN f1;obtain⟨q,hq,lq,wq⟩:=A2.I3 f2;simp at hp hq;subst hp hq;exact⟨⟨nl,l,p,q⟩,rfl,k1,k2,k3,k4,k5,wp,lq,wq⟩
end Go.Proofs.YthohlnmcjkjeiaaGreatDoor
namespace Go.Proofs.YthohlnmcjkjeiaaGreatDoor.A2
open Go.Proofs.Tryz
set_option maxRecDepth 100000
section
open Go Go.Vm Go.Vm.Sx
set_option maxHeartbeats 2000000
variable{gl:Gl}{ef:bN}
theorem gK:zB prog 60 0=some 0/\zB prog 60 1=some 1/\zB prog 60 2=some 2:=⟨by kernel_rfl,by kernel_rfl,by kernel_rfl⟩
theorem Km:qD prog 24=some false:=by kernel_rfl
theorem zjJ(p:Bw):dz (.agg (vx p))=true:=rfl
theorem zjK(q:Bool×List cE):aW (Uz q)=Uz q:=PY ..
theorem ze2(p:Bw):(V.agg (vx p)).laid=vx p:=by simp[V.laid,vx,je,bH,zjK]
theorem zjL(p:Bw)(env:aD)(t:Nat):qK env t (some (.agg (vx p)))=some (.agg (vx p),env):=rfl
theorem zom(c:Cr):(iS c).drop 11=aK c.2.2:=by
 simp only[iS];rw[List.drop_left' (by simp[zZ])]
theorem zqt{H:Hp}{g:Nat->Nat->bX}{c:Cr}:zk prog H g 53 (.vp (iS c))=some (.agg (aK c.1)):=by
 have h:(iS c).take 10=aK c.1:=by
  simp only[iS,bh];rw[List.take_left' (zZ c.1)]
 simp[zk,qy,Bi,sH,NL,w5,h]
theorem rG:∀(l:List Cr)(n:Int)(c:Cr),fh n (l++[c])=IntKind.i64.wrap (IntKind.i64.wrap (fh n l+eC c.1 0)+eC c.2.2 0)
 | [],n,c=>by simp only[bg,fh]
 | a::l,n,c=>by simp only[a_,fh,rG l]
def sU(p:Bw):Bool:=dj 500 (fh 0 p.l) || dj 16 (p.a.2.length:Int)
theorem zqY{a:aX}{t:aB}{x:V}:qP prog .neq 37 a (.const .nilIface) (some (.ec t x)) (some .bM)=some (.bool true):=by kernel_rfl
theorem Ro{a:aX}:qP prog .neq 37 a (.const .nilIface) (some .bM) (some .bM)=some (.bool false):=by cases a<;>kernel_rfl
theorem zqZ{a:aX}{t:aB}{x:V}:qP prog .eql 37 a (.const .nilIface) (some (.ec t x)) (some .bM)=some (.bool false):=by kernel_rfl
theorem zq0{a:aX}:qP prog .eql 37 a (.const .nilIface) (some .bM) (some .bM)=some (.bool true):=by cases a<;>kernel_rfl
theorem zqu(l:List Cr):∃K,∀c∈l,Go.Proofs.YthohlnmcjkjeiaaGreatDoor.hg c.1<=K/\Go.Proofs.YthohlnmcjkjeiaaGreatDoor.hg c.2.2<=K:=by
 induction l with
 | nil=>exact⟨0,λc h=>by cases h⟩
 | cons a l ih =>
  obtain⟨K,hK⟩:=ih;refine⟨max K (max (Go.Proofs.YthohlnmcjkjeiaaGreatDoor.hg a.1) (Go.Proofs.YthohlnmcjkjeiaaGreatDoor.hg a.2.2)),λc h=>?_⟩;rcases dH.1 h with rfl|h
  ·omega
  ·have:=hK c h;omega
theorem yM(f:F):aW (fv f)=fv f:=by simp[fv,fc,qX]
def zF:aD:=fc ⟨(true,[]),(true,[]),(true,[]),(true,[])⟩
theorem I4:qQ prog 30=some (.agg zF):=by kernel_rfl
theorem Rp:prog.underlying 61=some (.slice 66):=by kernel_rfl
theorem UB{H:Hp}{vs:aD}{o:ug}:jb prog H 61 (.sl 2 vs o)=some (vs.length:Int):=by simp[jb]
theorem Ko:qD prog 30=some true:=by kernel_rfl
theorem F4:z4 prog 30=some 4:=by kernel_rfl
section
variable{bs:List aV}{es:aN}{env:aD}{df:bO}{x:aV}{g:Nat->Nat->bX}
theorem UC(f:F):qr prog 30 ⟨bs++[x,.cells zF 30],es⟩ [] df (some (fv f,env)) (some (.ptr (bs.length+1) 0))=some (.skip,⟨env,⟨bs++[x,.cells (fc f) 30],es⟩,[],df⟩):=by
 have h:=JT (P:=prog) (t:=30) (n:=4) (B:=bs) (ls:=[x,.cells zF 30]) (k:=1) (off:=0) (cs:=zF) (ty:=30) (v:=fv f) (env:=env) (lk:=[]) (df:=df) (es:=es) F4 rfl (YL f) (by rw[T'];rfl) (by decide) rfl (sM f)
 rw[h,T',wO (by rfl)]
 rfl
theorem zqv(f:F):zk prog ⟨bs++[x,.cells (fc f) 30],es⟩ g 30 (.ptr (bs.length+1) 0)=some (fv f):=by
 have h:Hp.get ⟨bs++[x,.cells (fc f) 30],es⟩ (bs.length+1)=some (.cells (fc f) 30):=Ux;rw[qY Ko F4 h (by simp[fc])];rfl
end
inductive Rq(k:Nat)(gl:Gl)(p:Bw):V->Prop
 |big (h:sU p=true):Rq k gl p (.bq [.aG,.bool false])
 |ref (h:sU p=false) (f:F) (t:aB) (o:Nat) (th:m8 k prog gl 14 [z0 p.nl p.l] (.bq [fv f,.ec t (.obj o)])):Rq k gl p (.bq [.aG,.bool false])
 |bad (h:sU p=false) (f:F) (t:aB) (o:Nat) (th:m8 k prog gl 14 [z0 p.nl p.l] (.bq [fv f,.bM])) (rV:m8 k prog gl 30 [fv f,rv p.a] (.bq [.aG,.ec t (.obj o)])):Rq k gl p (.bq [.aG,.bool false])
 |go (h:sU p=false) (f:F) (vs:aD) (ht:aI vs=0) (th:m8 k prog gl 14 [z0 p.nl p.l] (.bq [fv f,.bM])) (rV:m8 k prog gl 30 [fv f,rv p.a] (.bq [.sl 2 vs .no,.bM])) (hl:vs.length=p.a.2.length):Rq k gl p (.bq [.sl 2 vs .no,.bool true])
theorem I5(hg:GK gl ef)(h71:ef.any (Nat.beq 71)=false)(Ag:ef.any (Nat.beq 25)=false)(p:Bw)(hp:By p){R:V}{k:Nat}(hR:Rq k gl p R):Kn prog gl 25 [.agg (vx p)] R:=by
 have J3:=dY;have HG:=hp.Cy
 have hpa:=hp.a.1;have dr:R.top=0:=by
  cases hR with
  | go h f vs ht th rV hl=>simp[V.top,aI,ht]
  | _=>rfl
 obtain⟨K,hK⟩:=zqu p.l;refine⟨_,vw hg func25 rfl Ag dr (p.l.length+K+k+10) λn hn bs=>?_⟩;have lA:∀g,zk prog ⟨bs++[.cells (vx p) 60],[]⟩ g 24 (.ptr bs.length 0)=some (z0 p.nl p.l):=λg=>FZ Km;have lB:∀g,zk prog ⟨bs++[.cells (vx p) 60],[]⟩ g 28 (.ptr bs.length 1)=some (rv p.a):=λg=>FZ gI;simp only[f25,zh];refine rg ?_
 simp only[BW,List.replicate,z7 (zjJ p),ze2];refine rg ?_;simp only[BW];refine rg ?_;simp only[BW]
 refine qh (λm st=>∃i env,m+i=p.l.length/\st=⟨env,⟨bs++[.cells (vx p) 60],[]⟩,[],[]⟩/\Ks 67 [(1,.ptr bs.length 0),(2,.aG),(3,.bool false),(4,.int .i64 (fh 0 (p.l.take i))),(5,.int .i64 (i:Nat))] env) p.l.length (by omega) ⟨0,_,rfl,rfl,gF rfl⟩ ?_
 rintro m st ⟨i,env,sG,rfl,⟨j,rfl⟩⟩;simp only[sh,rT,Nat.reduceBEq,Nat.reduceAdd,mJ,oq];simp only[zh];refine rg ?_;simp only[BW,qo,gK,lA,je,xq]
 by_cases hi:i<p.l.length
 ·refine .inl ⟨by simp;omega,?_⟩
  obtain⟨c,hc⟩:∃c,p.l[i]?=some c:=⟨p.l[i],by simp[hi]⟩
  have pQ:=m_ hc;obtain⟨w1,w2⟩:=hp.wf c pQ;obtain⟨k1,k2⟩:=hK c pQ;have c71:∀e,Wf e->Go.Proofs.YthohlnmcjkjeiaaGreatDoor.hg e<=K->∀H,Cx.bC ⟨prog,gl.g,zj prog gl n,nU⟩ 71 [.agg (aK e),.int .i64 0] H=some (.val (.int .i64 (eC e 0)),H):=λe w k=>by
   rw[<- qA];exact jD func71 rfl (zqp hg h71 e w 0 n (by omega))
  have v1:=c71 c.1 w1 k1;have v2:=c71 c.2.2 w2 k2;have IZ:fh 0 (p.l.take (i+1))=IntKind.i64.wrap (IntKind.i64.wrap (fh 0 (p.l.take i)+eC c.1 0)+eC c.2.2 0):=by
   rw[List.take_add_one,hc];exact rG _ _ _
  generalize fh 0 (p.l.take i)=s at IZ ⊢;generalize eC c.1 0=z1 at v1 IZ;generalize eC c.2.2 0=z2 at v2 IZ;have CB:=YD (nl:=p.nl) hc;refine wC (tk:=[]) (by kernel_rfl) ?_
  apply Exists.intro;apply And.intro;refine oF 0 (.int .i64 s) (by simp only[BW]) ?_
  dsimp only[aq]
  refine oF 0 (.ptr bs.length 0) (by simp only[BW,gK]) ?_
  dsimp only[aq]
  refine oL 2 (z0 p.nl p.l) (by simp only[BW,lA,je]) (λc h=>by cases h) ?_
  dsimp only[aq]
  refine oF 0 (.int .i64 (i:Nat)) (by simp only[BW]) ?_
  dsimp only[aq]
  refine oF 14 (.vp (iS c)) (by simp only[BW,je,CB]) ?_
  dsimp only[aq]
  refine oF 30 (.vp (iS c)) (by simp only[BW,pz,mg]) ?_
  dsimp only[aq]
  refine oL 62 (.agg (aK c.1)) (by simp only[BW,zqt]) (λc h=>by cases h) ?_
  dsimp only[aq]
  refine oH 126 128 (.int .i64 z1) (by simp only[BW,v1]) (λc h=>by cases h) (by kernel_rfl) ?_
  dsimp only[aq]
  refine oF 255 (.int .i64 (IntKind.i64.wrap (s+z1))) (by simp only[BW,kg]) ?_
  dsimp only[aq]
  refine oF 0 (.ptr bs.length 0) (by simp only[BW,gK]) ?_
  dsimp only[aq]
  refine oL 512 (z0 p.nl p.l) (by simp only[BW,lA,je]) (λc h=>by rw[oX.1 h];exact⟨rfl,rfl,rfl⟩) ?_
  dsimp only[aq]
  refine oF 0 (.int .i64 (i:Nat)) (by simp only[BW]) ?_
  dsimp only[aq]
  refine oF 3584 (.vp (iS c)) (by simp only[BW,je,CB]) ?_
  dsimp only[aq]
  refine oF 7680 (.vp (aK c.2.2)) (by simp only[BW,pz,zom]) ?_
  dsimp only[aq]
  refine oL 15872 (.agg (aK c.2.2)) (by simp only[BW,T4]) (λc h=>by rw[oX.1 h];exact⟨rfl,rfl,rfl⟩) ?_
  dsimp only[aq]
  refine oH 32510 32896 (.int .i64 z2) (by simp only[BW,v2]) (λc h=>by rw[oX.1 h];kernel_rfl) (by kernel_rfl) ?_
  dsimp only[aq]
  refine oF 65535 (.int .i64 (IntKind.i64.wrap (IntKind.i64.wrap (s+z1)+z2))) (by simp only[BW,kg]) ?_
  dsimp only[aq]
  refine oF 131071 (.int .i64 (IntKind.i64.wrap (IntKind.i64.wrap (s+z1)+z2))) (by simp only[BW]) wG
  simp only[aq];simp only[BW];refine rg ?_;simp only[BW,qc (show i<2 ^ 60 by omega),<- IZ]
  exact⟨m - 1,by omega,i+1,_,by omega,rfl,gF rfl⟩
 ·obtain rfl:i=p.l.length:=by omega
  refine .inr ⟨by simp,?_⟩
  rw[DF];have Cm:sU p=false->¬500<fh 0 p.l/\¬(16:Int)<p.a.2.length:=λh=>by
   simp only[sU,dj,KJ,decide_eq_false_iff_not] at h;exact h
  have oe:∀f:F,∀e,m8 k prog gl 14 [z0 p.nl p.l] (.bq [fv f,e])->∀H,Cx.bC ⟨prog,gl.g,zj prog gl n,nU⟩ 14 [z0 p.nl p.l] H=some (.val (.bq [fv f,e]),H):=λf e h=>jD func14 rfl (h n (by omega))
  have nI:∀f:F,∀v,m8 k prog gl 30 [fv f,rv p.a] v->∀H,Cx.bC ⟨prog,gl.g,zj prog gl n,nU⟩ 30 [fv f,rv p.a] H=some (.val v,H):=λf v h=>jD func30 rfl (h n (by omega))
  have qI:∀t o,aW (V.ec t (.obj o))=.ec t (.obj o):=λ_ _=>rfl;have qN:aW V.bM=.bM:=rfl;have tI:∀t o env s,qK env s (some (.ec t (.obj o)))=some (.ec t (.obj o),env):=λ_ _ _ _=>rfl;have tN:∀env s,qK env s (some V.bM)=some (.bM,env):=λ_ _=>rfl;have tS:∀vs env s,qK env s (some (.sl 2 vs .no))=some (.sl 2 vs .no,env):=λ_ _ _=>rfl;have hz:(V.agg zF).cells=zF:=rfl
  have ZL:∀g f,zk prog ⟨bs++[.cells (vx p) 60,.cells (fc f) 30],[]⟩ g 28 (.ptr bs.length 1)=some (rv p.a):=λg f=>Bv gI;refine rg ?_;cases hR with
  | big h =>
   by_cases a1:500<fh 0 p.l
   ·simp only[BW,gt_iff_lt,a1];refine rg ?_;simp only[BW];exact GY rfl rfl ⟨rfl,_,rfl⟩
   ·have a2:(16:Int)<p.a.2.length:=by
     simp only[sU,dj,a1,decide_false,uQ,decide_eq_true_eq] at h;exact h
    simp only[BW,gt_iff_lt,a1,gK,lB,bH,jS,a2];refine rg ?_;simp only[BW];exact GY rfl rfl ⟨rfl,_,rfl⟩
  | ref h f t o th =>
   obtain⟨a1,a2⟩:=Cm h;have MF:=oe f _ th;simp only[BW,gt_iff_lt,a1,gK,lB,bH,jS,a2];refine rg ?_;simp only[BW,gK,lA,je,MF,dA,yM,qI,I4,zH (show dz (.agg zF)=true from rfl),hz,Od,UC];refine rg ?_;simp only[BW,zqY,qI];refine rg ?_
   simp only[BW];exact GY rfl rfl ⟨rfl,_,rfl⟩
  | bad h f t o th rV =>
   obtain⟨a1,a2⟩:=Cm h;have MF:=oe f _ th;have Rr:=nI f _ rV;simp only[BW,gt_iff_lt,a1,gK,lB,bH,jS,a2];refine rg ?_;simp only[BW,gK,lA,je,MF,dA,yM,qN,I4,zH (show dz (.agg zF)=true from rfl),hz,Od,UC];refine rg ?_
   simp only[BW,Ro,qN];refine rg ?_;simp only[BW,zqv,gK,ZL,yM,bH,Rr,dA,qI];refine qG (tk:=[]) (by kernel_rfl) (by kernel_rfl) ?_
   simp only[BW,zqZ,qI];exact GY rfl rfl ⟨rfl,_,rfl⟩
  | go h f vs ht th rV hl =>
   obtain⟨a1,a2⟩:=Cm h;have MF:=oe f _ th;have Rr:=nI f _ rV;simp only[BW,gt_iff_lt,a1,gK,lB,bH,jS,a2];refine rg ?_;simp only[BW,gK,lA,je,MF,dA,yM,qN,I4,zH (show dz (.agg zF)=true from rfl),hz,Od,UC];refine rg ?_
   simp only[BW,Ro,qN];refine rg ?_;simp only[BW,zqv,gK,ZL,yM,bH,Rr,dA,qN];refine qG (tk:=[]) (by kernel_rfl) (by kernel_rfl) ?_
   simp only[BW,zq0,qN,tS,gI,gK,ZL,bH,jS,UB,hl,beq_self_eq_true];exact GY rfl rfl ⟨rfl,_,rfl⟩
end
section
open Go Go.Vm Go.Vm.Sx
end
section
open Go Go.Vm Go.Vm.Sx
set_option maxHeartbeats 2000000
variable{gl:Gl}{ef:bN}
theorem Rs:qD prog 60=some true:=by kernel_rfl
theorem Rt:z4 prog 60=some 3:=by kernel_rfl
theorem Ru:qQ prog 66=some (.agg [.aG,.aG]):=by kernel_rfl
theorem zqw{bs:List aV}{es:aN}{g:Nat->Nat->bX}{p:Bw}:zk prog ⟨bs++[.cells (vx p) 60],es⟩ g 60 (.ptr bs.length 0)=some (.agg (vx p)):=by
 rw[qY Rs Rt Oc (by simp[vx])];rfl
theorem zjM(p:Bw):aW (.agg (vx p))=.agg (vx p):=by simp[vx,qX]
theorem ZM{vs:aD}{i:Nat}{d:D}(h:nth vs i=some (ij d)):zt prog 61 (.sl 2 vs .no) (i:Int)=some (.vp [rv d.1,iv d.2]):=by
 have hk:¬((i:Int)<0):=by omega
 simp[zt,Bu,hk,h,ij,V.cells]
theorem zmw{H:Hp}{g:Nat->Nat->bX}{d:D}:zk prog H g 66 (.vp [rv d.1,iv d.2])=some (ij d):=by
 simp[zk,qy,Bt,Bu,NL,ij]
section
variable{bs:List aV}{es:aN}{env:aD}{df:bO}{x y:aV}{g:Nat->Nat->bX}{t:aB}{off:Nat}
end
end
section
open Go Go.Vm Go.Vm.Sx
set_option maxHeartbeats 1000000
variable{gl:Gl}{ef:bN}
theorem UD(z:Int):(z != z)=false:=by simp
theorem zqx(hg:GK gl ef)(Kq:ef.any (Nat.beq 63)=false)(a:cE)(ha:a.2.length<2 ^ 60):m8 (a.2.length+2) prog gl 63 [iv a,iv a] (.bool true):=by
 refine vw hg func63 rfl Kq rfl (a.2.length+1) λn hn bs=>?_;simp only[f63,zh];refine rg ?_;simp only[BW,Nat.reduceAdd,List.replicate];refine rg ?_;simp only[BW,bB,kO,UD];refine rg ?_;simp only[BW]
 refine qh (λm st=>∃i env,m+i=a.2.length/\st=⟨env,⟨bs,[]⟩,[],[]⟩/\Ks 26 [(0,iv a),(1,iv a),(5,.int .i64 (i:Nat))] env) a.2.length (by omega) ⟨0,_,rfl,rfl,gF rfl⟩ ?_
 rintro m st ⟨i,env,sG,rfl,⟨j,rfl⟩⟩;simp only[sh,rT,Nat.reduceBEq,Nat.reduceAdd,mJ,oq];simp only[zh];refine rg ?_;simp only[BW,qo,bB,kO]
 by_cases hi:i<a.2.length
 ·refine .inl ⟨by simp;omega,?_⟩
  have CB:=w6 (p:=a) hi;refine qG (tk:=[]) (by kernel_rfl) (by kernel_rfl) ?_
  simp only[BW,fA,bB,CB,xu,UD];refine rg ?_;simp only[BW,qc (show i<2 ^ 60 by omega)]
  exact⟨m - 1,by omega,i+1,_,by omega,rfl,gF rfl⟩
 ·refine .inr ⟨by simp;omega,?_⟩
  refine rg ?_;simp only[BW];exact fI rfl ⟨rfl,[],by simp⟩
theorem zq1(hg:GK gl ef)(Kq:ef.any (Nat.beq 63)=false)(Rw:ef.any (Nat.beq 64)=false)(p:f_)(hp:WR p):m8 (p.2.length+reachBytes+10) prog gl 64 [rv p,rv p] (.bool true):=by
 have J3:=dY;have HG:=hp.1;refine vw hg func64 rfl Rw rfl (p.2.length+reachBytes+9) λn hn bs=>?_;simp only[f64,zh];refine rg ?_;simp only[BW,Nat.reduceAdd,List.replicate];refine rg ?_;simp only[BW,bH,jS,UD];refine rg ?_;simp only[BW]
 refine qh (λm st=>∃i env,m+i=p.2.length/\st=⟨env,⟨bs,[]⟩,[],[]⟩/\Ks 27 [(0,rv p),(1,rv p),(5,.int .i64 (i:Nat))] env) p.2.length (by omega) ⟨0,_,rfl,rfl,gF rfl⟩ ?_
 rintro m st ⟨i,env,sG,rfl,⟨j,rfl⟩⟩;simp only[sh,rT,Nat.reduceBEq,Nat.reduceAdd,mJ,oq];simp only[zh];refine rg ?_;simp only[BW,qo,bH,jS]
 by_cases hi:i<p.2.length
 ·refine .inl ⟨by simp;omega,?_⟩
  obtain⟨q,hq⟩:∃q,p.2[i]?=some q:=⟨p.2[i],by simp[hi]⟩
  have hql:=(hp.2 q (m_ hq)).1;have ZN:∀H,Cx.bC ⟨prog,gl.g,zj prog gl n,nU⟩ 63 [iv q,iv q] H=some (.val (.bool true),H):=jD func63 rfl (zqx hg Kq q (by omega) n (by omega))
  refine qG (tk:=[]) (by kernel_rfl) (by kernel_rfl) ?_
  simp only[BW,gJ,bH,yU hq,IY,bB,ZN,iz];refine rg ?_;simp only[BW,qc (show i<2 ^ 60 by omega)]
  exact⟨m - 1,by omega,i+1,_,by omega,rfl,gF rfl⟩
 ·refine .inr ⟨by simp;omega,?_⟩
  refine rg ?_;simp only[BW];exact fI rfl ⟨rfl,[],by simp⟩
theorem ZO(hg:GK gl ef)(Kq:ef.any (Nat.beq 63)=false)(Rw:ef.any (Nat.beq 64)=false)(G3:ef.any (Nat.beq 29)=false)(d:D)(hd:WD d):Kn prog gl 29 [ij d,ij d] (.bool true):=by
 have J3:=dY;have hl:=hd.l.1;refine⟨_,vw hg func29 rfl G3 rfl (d.1.2.length+reachBytes+20) λn hn bs=>?_⟩;have c64:∀H,Cx.bC ⟨prog,gl.g,zj prog gl n,nU⟩ 64 [rv d.1,rv d.1] H=some (.val (.bool true),H):=jD func64 rfl (zq1 hg Kq Rw d.1 hd.n n (by omega))
 have ZN:∀H,Cx.bC ⟨prog,gl.g,zj prog gl n,nU⟩ 63 [iv d.2,iv d.2] H=some (.val (.bool true),H):=jD func63 rfl (zqx hg Kq d.2 (by omega) n (by omega))
 simp only[f29,zh];refine rg ?_;simp only[BW,Nat.reduceAdd,List.replicate,Uo,z7 (Un d),Ra];have g2:∀b:List aV,∀x y:aV,(⟨b++[x,y],[]⟩:Hp).get (b.length+1)=some y:=λb x y=>by
  show nth _ _=_;rw[zg,fE (by omega),show b.length+1 - b.length=1 by omega];rfl
 have g1:∀b:List aV,∀x y:aV,(⟨b++[x,y],[]⟩:Hp).get b.length=some x:=λb x y=>by
  show nth _ _=_;rw[zg,fE (dI _)];simp
 have a0:∀g,zk prog ⟨bs++[.cells [rv d.1,iv d.2] 66,.cells [rv d.1,iv d.2] 66],[]⟩ g 28 (.ptr bs.length 0)=some (rv d.1):=λg=>zq gI (g1 _ _ _) rfl;have a1:∀g,zk prog ⟨bs++[.cells [rv d.1,iv d.2] 66,.cells [rv d.1,iv d.2] 66],[]⟩ g 27 (.ptr bs.length 1)=some (iv d.2):=λg=>zq gJ (g1 _ _ _) rfl
 have b0:∀g,zk prog ⟨bs++[.cells [rv d.1,iv d.2] 66,.cells [rv d.1,iv d.2] 66],[]⟩ g 28 (.ptr (bs.length+1) 0)=some (rv d.1):=λg=>zq gI (g2 _ _ _) rfl;have b1:∀g,zk prog ⟨bs++[.cells [rv d.1,iv d.2] 66,.cells [rv d.1,iv d.2] 66],[]⟩ g 27 (.ptr (bs.length+1) 1)=some (iv d.2):=λg=>zq gJ (g2 _ _ _) rfl;refine rg ?_
 simp only[BW,pE,a0,a1,b0,b1,bH,bB,c64,ZN];exact fI rfl ⟨rfl,_,rfl⟩
end
section
open Go Go.Vm Go.Vm.Sx
set_option maxHeartbeats 2000000
variable{gl:Gl}{ef:bN}
theorem UE{x y:Int}(h1:-140737488355328<=x)(h2:x<=140737488355328)(h3:0<=y)(h4:y<=140737488355328):IntKind.i64.wrap (x - y)=x - y:=xH (by omega) (by omega)
theorem zmx(l:List cE):aW (zl 1 27 (l.map iv))=rv (true,l):=by cases l<;>simp[zl,aW,rv,lv]
section
variable{bs L:List aV}{es:aN}{env:aD}{df:bO}{b:aV}{g:Nat->Nat->bX}{t:aB}{off k:Nat}
theorem ZP(h:nth L k=some b):(⟨bs++L,es⟩:Hp).get (bs.length+k)=some b:=by
 show nth _ _=_;rw[zg] at h ⊢;rw[fE (by omega),show bs.length+k - bs.length=k by omega];exact h
theorem zqy:(⟨bs++(L++[b]),es⟩:Hp).get (bs.length+L.length)=some b:=ZP (by rw[zg];simp)
theorem UF{x:aV}(h:nth L k=some b):nth (L++[x]) k=some b:=by
 rw[zg] at h ⊢;rw[gb (c_.1 h).1];exact h
theorem zqz(d:D):qr prog 66 ⟨bs++(L++[.cells [.aG,.aG] 66]),es⟩ [] df (some (ij d,env)) (some (.ptr (bs.length+L.length) 0))=some (.skip,⟨env,⟨bs++(L++[.cells [rv d.1,iv d.2] 66]),es⟩,[],df⟩):=by
 have h:=JT (P:=prog) (t:=66) (n:=2) (B:=bs) (ls:=L++[.cells [.aG,.aG] 66]) (k:=L.length) (off:=0) (cs:=[.aG,.aG]) (ty:=66) (v:=ij d) (env:=env) (lk:=[]) (df:=df) (es:=es) Bu (by rw[zg];simp) (Un d) (by rw[Ra];rfl) (by decide) rfl (CQ d)
 rw[h,Ra,wO (by rfl)]
 simp
end
theorem ziv{cx:Cx}{takes:bY}{q1 q2 q3:Rec}{MG:List Rec}{r1 R:Rec}{c0 c1 lM d c2 e:ei}{k:List ei->Option (Ex×St)}(e1:c1=lM)(hp:R.hp=true)(ho:∀q∈q1::q2::q3::r1::MG,q=r1\/(q.hp=false/\(q.free=true\/(cx.eM takes q.o q.env q.v lM=true/\cx.eM takes q.o q.env q.v c2=true))))(h1:r1.hp=true)
  (hs:vA (Nat.land R.m (ep (q1::q2::q3::r1::MG))) d.D=true) (hr:cx.dK takes R.o R.env d (Nat.lor d.D (Nat.pow 2 R.idx))=some (R.v,c2)) (Ir:bit lM.D r1.idx=true) (nA:bit c2.D r1.idx=false)
  (hq:cx.dK takes r1.o r1.env c2 0=some (r1.v,e)) (hf:vI (Nat.lor c2.D (Nat.pow 2 r1.idx)) [lM,c2,c0,d]=some lM) (he:vH e lM=true) :
  cx.fj takes (q1::q2::q3::r1::MG) R c0 c1 [d] k=k [lM,c2,c0,d]:=by
 subst e1;have Er:cx.eK takes (q1::q2::q3::r1::MG) (ep (q1::q2::q3::r1::MG)) R [c1,c2,c0,d] c1=true:=by
  unfold Cx.eK;refine kC λq hq=>?_;split
  ·rfl
  ·rcases ho q hq with rfl|⟨h2,h3⟩
   ·simp[h1,Ir]
   ·rcases h3 with h3|h3<;>simp[h2,h3]
 have PT:cx.eK takes (q1::q2::q3::r1::MG) (ep (q1::q2::q3::r1::MG)) R [c1,c2,c0,d] c2=true:=by
  unfold Cx.eK;refine kC λq A9=>?_;split
  ·rfl
  ·rcases ho q A9 with rfl|⟨h2,h3⟩
   ·simp only[h1,nA,hq,hf,V.cN,he,Bool.and_self]
   ·rcases h3 with h3|h3<;>simp[h2,h3]
 unfold Cx.fj;rw[hp];simp only[Cx.gR,hs,hr,V.cN,a_,bg,kz,Er,PT]
inductive B6(k:Nat)(gl:Gl)(p:Bw):Prop
 |early (l:V) (Ag:m8 k prog gl 25 [.agg (vx p)] (.bq [l,.bool false])) (hl:aW l=l) (ht:∀env t,qK env t (some l)=some (l,env))
 |full (vs ws:aD) (f:F) (Ag:m8 k prog gl 25 [.agg (vx p)] (.bq [.sl 2 vs .no,.bool true])) (th:m8 k prog gl 14 [z0 p.nl p.l] (.bq [fv f,.bM])) (rV:m8 k prog gl 30 [fv f,rv (true,p.a.2.reverse)] (.bq [.sl 2 ws .no,.bM])) (hv:vs.length=p.a.2.length) (hw:ws.length=p.a.2.length)
  (hm:∀m a,p.a.2[m]?=some a->∃d,m8 k prog gl 28 [fv f,iv a] (.bq [ij d,.bM])/\nth vs m=some (ij d)/\nth ws (p.a.2.length - 1 - m)=some (ij d)/\m8 k prog gl 29 [ij d,ij d] (.bool true))
theorem B6.mono{k k':Nat}{p:Bw}(h:k<=k'):B6 k gl p->B6 k' gl p
 | .early l Ag hl ht=>.early l (Ag.mono h) hl ht
 | .full vs ws f Ag th rV hv hw hm=>.full vs ws f (Ag.mono h) (th.mono h) (rV.mono h) hv hw λm a ha=>by
  obtain⟨d,x,y,z,w⟩:=hm m a ha;exact⟨d,x.mono h,y,z,w.mono h⟩
theorem kn6(hg:GK gl ef)(h6:ef.any (Nat.beq 6)=false)(p:Bw)(hp:By p){k:Nat}(tV:m8 k prog gl 26 [] (.bool true))(hB:B6 k gl p):Kn prog gl 6 [.agg (vx p)] (.bool true):=by
 have J3:=dY;have rN:=hp.a.1;refine⟨_,vw hg func6 rfl h6 rfl (p.a.2.length+k+20) λn hn bs=>?_⟩;have c26:∀H,Cx.bC ⟨prog,gl.g,zj prog gl n,nU⟩ 26 [] H=some (.val (.bool true),H):=jD func26 rfl (tV n (by omega))
 have lA:∀g,zk prog ⟨bs++[.cells (vx p) 60],[]⟩ g 24 (.ptr bs.length 0)=some (z0 p.nl p.l):=λg=>FZ Km;simp only[f6,zh];refine rg ?_;simp only[BW,List.replicate,z7 (zjJ p),ze2];refine rg ?_
 have mA:∀{l:V}{ok:Bool},m8 k prog gl 25 [.agg (vx p)] (.bq [l,.bool ok])->∀H,Cx.bC ⟨prog,gl.g,zj prog gl n,nU⟩ 25 [.agg (vx p)] H=some (.val (.bq [l,.bool ok]),H):=λh=>jD func25 rfl (h n (by omega))
 rcases hB with⟨l,Ag,hl,ht⟩|⟨vs,ws,f,Ag,th,rV,hv,hw,hm⟩
 ·have QH:=mA Ag;simp only[BW,zqw,QH,dA,hl,ht];refine rg ?_;simp only[BW,iz];refine rg ?_;simp only[BW,c26];exact fI rfl ⟨rfl,_,rfl⟩
 have QH:=mA Ag;have MF:∀H,Cx.bC ⟨prog,gl.g,zj prog gl n,nU⟩ 14 [z0 p.nl p.l] H=some (.val (.bq [fv f,.bM]),H):=jD func14 rfl (th n (by omega))
 have Rr:∀H,Cx.bC ⟨prog,gl.g,zj prog gl n,nU⟩ 30 [fv f,rv (true,p.a.2.reverse)] H=some (.val (.bq [.sl 2 ws .no,.bM]),H):=jD func30 rfl (rV n (by omega))
 have cS:∀vs,aW (.sl 2 vs .no)=.sl 2 vs .no:=λ_=>rfl;have tS:∀vs env t,qK env t (some (.sl 2 vs .no))=some (.sl 2 vs .no,env):=λ_ _ _=>rfl;have hz:(V.agg zF).cells=zF:=rfl;have D1:(V.agg [.aG,.aG]).cells=[.aG,.aG]:=rfl;have qN:aW V.bM=.bM:=rfl;have tN:∀env s,qK env s (some V.bM)=some (.bM,env):=λ_ _=>rfl
 simp only[BW,zqw,QH,dA,cS,tS];refine rg ?_;simp only[BW,iz];refine rg ?_;simp only[BW,gK,lA,je,MF,dA,yM,qN,tN,I4,zH (show dz (.agg zF)=true from rfl),hz,Od,UC];refine rg ?_;simp only[BW,qN,Ro]
 refine rg ?_;simp only[BW];refine rg ?_;have lB:∀g,zk prog ⟨bs++[.cells (vx p) 60,.cells (fc f) 30],[]⟩ g 28 (.ptr bs.length 1)=some (rv p.a):=λg=>Bv gI;have uo:IntKind.i64.wrap ((p.a.2.length:Int) - 1)=(p.a.2.length:Int) - 1 - ((0:Nat):Int):=by
  rw[UE (by omega) (by omega) (by omega) (by omega)];simp
 simp only[BW,gK,lB,bH,jS,jX,uo]
 refine qh (λm st=>∃i env L,m+i=p.a.2.length/\nth L 0=some (.cells (vx p) 60)/\nth L 1=some (.cells (fc f) 30)/\st=⟨env,⟨bs++L,[]⟩,[],[]⟩/\Ks 102 [(1,.ptr bs.length 0),(3,.sl 2 vs .no),(5,.ptr (bs.length+1) 0),(7,zl 1 27 ((p.a.2.reverse.take i).map iv)),(8,.int .i64 ((p.a.2.length:Int) - 1 - (i:Nat)))] env) p.a.2.length (by omega) ⟨0,_,_,rfl,rfl,rfl,rfl,gF rfl⟩ ?_
 rintro m st ⟨i,env,L,sG,GV,Ew,rfl,⟨j,rfl⟩⟩;simp only[sh,rT,Nat.reduceBEq,Nat.reduceAdd,mJ,oq];simp only[zh];refine rg ?_;simp only[BW,qo];have g0:∀{L:List aV},nth L 0=some (.cells (vx p) 60)->∀g,zk prog ⟨bs++L,[]⟩ g 28 (.ptr bs.length 1)=some (rv p.a):=λh g=>zq gI (ZP (k:=0) h) rfl
 have g1:∀{L:List aV},nth L 1=some (.cells (fc f) 30)->∀g,zk prog ⟨bs++L,[]⟩ g 30 (.ptr (bs.length+1) 0)=some (fv f):=λh g=>by
  rw[qY Ko F4 (ZP h) (by simp[fc])];rfl
 by_cases hi:i<p.a.2.length
 ·refine .inl ⟨by simp;omega,?_⟩
  obtain⟨a,ha⟩:∃a,p.a.2[p.a.2.length - 1 - i]?=some a:=⟨p.a.2[p.a.2.length - 1 - i]'(by omega),by simp[show p.a.2.length - 1 - i<p.a.2.length by omega]⟩
  obtain⟨d,Xt,n5,_,P3⟩:=hm _ a ha;have hzi:(p.a.2.length:Int) - 1 - (i:Nat)=((p.a.2.length - 1 - i:Nat):Int):=by omega
  have h3:IntKind.i64.wrap (((p.a.2.length - 1 - i:Nat):Int) - 1)=(p.a.2.length:Int) - 1 - ((i+1:Nat):Int):=by
   rw[UE (by omega) (by omega) (by omega) (by omega)];omega
  have h6:p.a.2.reverse.take (i+1)=p.a.2.reverse.take i++[a]:=by
   have:p.a.2.reverse[i]?=some a:=by rw[List.getElem?_reverse (by omega)];exact ha
   rw[List.take_add_one,this];rfl
  have Rx:(p.a.2.reverse.take i).length=i:=by simp;omega
  rw[hzi];generalize p.a.2.length - 1 - i=z at ha n5 hzi h3 ⊢;have c28:∀H,Cx.bC ⟨prog,gl.g,zj prog gl n,nU⟩ 28 [fv f,iv a] H=some (.val (.bq [ij d,.bM]),H):=jD func28 rfl (Xt n (by omega))
  have ZQ:∀H,Cx.bC ⟨prog,gl.g,zj prog gl n,nU⟩ 29 [ij d,ij d] H=some (.val (.bool true),H):=jD func29 rfl (P3 n (by omega))
  refine Oa 102 [(1,.ptr bs.length 0),(3,.sl 2 vs .no),(5,.ptr (bs.length+1) 0),(7,zl 1 27 ((p.a.2.reverse.take (i+1)).map iv)),(8,.int .i64 (z:Nat))] ?_ λenv ⟨j,he⟩=>?_
  ·rw[h6,List.map_append,List.map_singleton];generalize (p.a.2.reverse.take i)=M at Rx ⊢;have hic:(iv a).cells=[iv a]/\dz (iv a)=true:=by
    unfold iv;rcases cH 1 a.1 (a.2.map ie) with h|⟨_,h⟩<;>rw[h]<;>exact⟨rfl,rfl⟩
   have fz:=jC J' (H:=⟨bs++L,[]⟩) (xs:=M.map iv) (ys:=[iv a]) (o:=.no) (by simp) (Vm.dG (by simp;omega) (by simp;omega))
   have Fm:=J'.BQ (v:=iv a) hic.2 (by rw[hic.1];rfl)
   have Us:zl 1 27 (M.map iv++[iv a])=.sl 1 (M.map iv++[iv a]) (.yes 27):=by cases M<;>rfl
   have tO:∀l env s,qK env s (some (.sl 1 l (.yes 27)))=some (.sl 1 l (.yes 27),env.set s (.sl 1 l .no)):=λ_ _ _=>rfl;rw[Us] at fz ⊢;refine wo (tk:=[37]) (by kernel_rfl) ?_
   cases M with
   | nil =>
    simp only[bp,bg,zl] at fz ⊢;simp only[BW,Nat.reduceEqDiff,gK,g0 GV,bH,yU ha,IY,bB,jV (cx:=⟨prog,gl.g,zj prog gl n,nU⟩) (show pN prog nU 28=false by kernel_rfl),Fm,tO,xS,fz]
    exact⟨_,rfl,gF rfl⟩
   | cons x M =>
    simp only[aY,a_,zl] at fz ⊢;simp only[BW,Nat.reduceEqDiff,gK,g0 GV,bH,yU ha,IY,bB,jV (cx:=⟨prog,gl.g,zj prog gl n,nU⟩) (show pN prog nU 28=false by kernel_rfl),Fm,tO,xS,fz]
    exact⟨_,rfl,gF rfl⟩
  subst he;simp only[sh,rT,Nat.reduceBEq,Nat.reduceAdd,mJ,oq];simp only[zh];have ZR:=UF (x:=.cells [.aG,.aG] 66) GV;have ZS:=UF (x:=.cells [.aG,.aG] 66) Ew;refine wC (tk:=[]) (by kernel_rfl) ?_
  apply Exists.intro;apply And.intro;refine oL 0 (fv f) (by simp only[BW,g1 Ew,yM]) (λc h=>by cases h) ?_
  dsimp only[aq]
  refine oF 0 (.ptr bs.length 1) (by simp only[BW,gK]) ?_
  dsimp only[aq]
  refine oL 2 (rv p.a) (by simp only[BW,g0 GV,bH]) (λc h=>by cases h) ?_
  dsimp only[aq]
  refine oF 0 (.int .i64 (z:Nat)) (by simp only[BW]) ?_
  dsimp only[aq]
  refine oF 14 (.vp [iv a]) (by simp only[BW,bH,yU ha]) ?_
  dsimp only[aq]
  refine oL 30 (iv a) (by simp only[BW,IY,bB]) (λc h=>by cases h) ?_
  dsimp only[aq]
  refine oH 63 64 (.bq [ij d,.bM]) (by simp only[BW,yM,bB,c28]) (λc h=>by cases h) (by kernel_rfl) ?_
  dsimp only[aq]
  refine oF 127 (.bq [ij d,.bM]) (by simp only[BW,dA]) ?_
  dsimp only[aq]
  refine oF 255 (ij d) (by simp only[BW,dA,xJ]) ?_
  dsimp only[aq]
  refine oF 255 .bM (by simp only[BW,dA,qN]) ?_
  dsimp only[aq]
  refine zdS (m:=0) (v:=.ptr (bs.length+L.length) 0) (H1:=⟨bs++(L++[.cells [.aG,.aG] 66]),[]⟩) (cK:=_) (eB:=[]) (eu:=[]) (cs':=[⟨1088,⟨bs++(L++[.cells [.aG,.aG] 66]),[]⟩,[],[]⟩,⟨1024,⟨bs++(L++[.cells [.aG,.aG] 66]),[]⟩,[],[]⟩,⟨64,⟨bs++L,[]⟩,[],[]⟩,⟨0,⟨bs++L,[]⟩,[],[]⟩]) (by kernel_rfl) rfl (by simp only[BW,Ru,zH (show dz (.agg [.aG,.aG])=true from rfl),D1];rfl) (by kernel_rfl) (by kernel_rfl) (by kernel_rfl) (λK=>?_) ?_
  ·refine ziv (lM:=⟨1088,⟨bs++(L++[.cells [.aG,.aG] 66]),[]⟩,[],[]⟩) (c2:=⟨1024,⟨bs++(L++[.cells [.aG,.aG] 66]),[]⟩,[],[]⟩) (e:=⟨0,⟨bs++(L++[.cells [.aG,.aG] 66]),[]⟩,[],[]⟩) ?e1 ?hp (λq hq=>?ho) ?h1 ?hs ?hr ?b1 ?b2 ?hq ?hf Xb
   case e1=>kernel_rfl
   case hp=>rfl
   case h1=>rfl
   case hs=>kernel_rfl
   case b1=>kernel_rfl
   case b2=>kernel_rfl
   case hf=>kernel_rfl
   ·simp only[dH,Ap,uR] at hq;rcases hq with rfl|rfl|rfl|rfl|rfl|rfl|rfl|rfl|rfl|rfl
    ·exact .inr ⟨rfl,.inl rfl⟩
    ·exact .inr ⟨rfl,.inl rfl⟩
    ·exact .inr ⟨rfl,.inl rfl⟩
    ·exact .inl rfl
    ·refine .inr ⟨rfl,.inr ⟨?_,?_⟩⟩<;>(simp only[jc];exact yg (by simp only[BW,IY,bB];rfl))
    ·exact .inr ⟨rfl,.inl rfl⟩
    ·exact .inr ⟨rfl,.inl rfl⟩
    ·refine .inr ⟨rfl,.inr ⟨?_,?_⟩⟩<;>(simp only[jc];exact yg (by simp only[BW,g0 ZR,bH];rfl))
    ·exact .inr ⟨rfl,.inl rfl⟩
    ·refine .inr ⟨rfl,.inr ⟨?_,?_⟩⟩<;>(simp only[jc];exact yg (by simp only[BW,g1 ZS,yM];rfl))
   ·simp only[Cx.dK,jc];simp only[BW,Nat.reduceAdd,Ru,zH (show dz (.agg [.aG,.aG])=true from rfl),D1];rfl
   ·simp only[Cx.dK,jc];simp only[BW,yM,bB,c28]
  dsimp only[aq]
  refine wD (m:=1535) (H1:=⟨bs++(L++[.cells [rv d.1,iv d.2] 66]),[]⟩) (cK:=_) (eB:=[]) (eu:=[]) (cs':=[⟨3136,⟨bs++(L++[.cells [rv d.1,iv d.2] 66]),[]⟩,[],[]⟩,⟨1088,⟨bs++(L++[.cells [.aG,.aG] 66]),[]⟩,[],[]⟩,⟨1024,⟨bs++(L++[.cells [.aG,.aG] 66]),[]⟩,[],[]⟩,⟨64,⟨bs++L,[]⟩,[],[]⟩,⟨0,⟨bs++L,[]⟩,[],[]⟩]) (by kernel_rfl) rfl (by simp only[BW,Uo,zqz];rfl) (by kernel_rfl) (by kernel_rfl) (λK=>jK (by kernel_rfl) rfl (λc h=>?_) (by kernel_rfl)) ?_
  ·simp only[dH,Ap,uR] at h;rcases h with rfl|rfl|rfl<;>kernel_rfl
  dsimp only[aq]
  refine oF 4095 .bM (by simp only[BW,tN]) wG
  simp only[aq,zh];simp only[BW];have Ry:=UF (x:=.cells [rv d.1,iv d.2] 66) GV;have Rz:=UF (x:=.cells [rv d.1,iv d.2] 66) Ew;have lD:∀g,zk prog ⟨bs++(L++[.cells [rv d.1,iv d.2] 66]),[]⟩ g 66 (.ptr (bs.length+L.length) 0)=some (ij d):=λg=>by
   rw[qY Bt Bu zqy (by simp)];rfl
  have cD:∀d:D,aW (.vp [rv d.1,iv d.2])=.vp [rv d.1,iv d.2]:=λ_=>rfl;refine qG (tk:=[]) (by kernel_rfl) (by kernel_rfl) ?_
  simp only[BW,Bt,qN,Ro,lD,cS,ZM n5,cD,zmw,xJ,ZQ,iz,List.all_nil];refine rg ?_;simp only[BW,jX,h3];exact⟨m - 1,by omega,i+1,_,_,by omega,Ry,Rz,rfl,gF rfl⟩
 ·obtain rfl:i=p.a.2.length:=by omega
  refine .inr ⟨by simp;omega,?_⟩
  rw[p9 (by simp)]
  refine rg ?_;simp only[BW,g1 Ew,yM,zmx,bH,Rr,dA,cS,qN,tS,tN];refine rg ?_;simp only[BW,qN,Ro,cS,UB,hv,hw,UD];refine rg ?_;simp only[BW]
  refine qh (λm st=>∃i env,m+i=p.a.2.length/\st=⟨env,⟨bs++L,[]⟩,[],[]⟩/\Ks 102 [(3,.sl 2 vs .no),(11,.sl 2 ws .no),(12,.int .i64 (i:Nat))] env) p.a.2.length (by omega) ⟨0,_,rfl,rfl,gF rfl⟩ ?_
  rintro m st ⟨i,env,sG,rfl,⟨j,rfl⟩⟩;simp only[sh,rT,Nat.reduceBEq,Nat.reduceAdd,mJ,oq];simp only[zh];refine rg ?_;simp only[BW,qo,cS,UB,hv]
  by_cases hi:i<p.a.2.length
  ·refine .inl ⟨by simp;omega,?_⟩
   obtain⟨a,ha⟩:∃a,p.a.2[i]?=some a:=⟨p.a.2[i],by simp[hi]⟩
   obtain⟨d,_,n5,n17,P3⟩:=hm _ a ha;have ZQ:∀H,Cx.bC ⟨prog,gl.g,zj prog gl n,nU⟩ 29 [ij d,ij d] H=some (.val (.bool true),H):=jD func29 rfl (P3 n (by omega))
   have cD:∀d:D,aW (.vp [rv d.1,iv d.2])=.vp [rv d.1,iv d.2]:=λ_=>rfl;have h9:IntKind.i64.wrap ((p.a.2.length:Int) - 1)=(p.a.2.length:Int) - 1:=UE (by omega) (by omega) (by omega) (by omega)
   have BR:IntKind.i64.wrap ((p.a.2.length:Int) - 1 - (i:Int))=((p.a.2.length - 1 - i:Nat):Int):=by
    rw[UE (by omega) (by omega) (by omega) (by omega)];omega
   refine qG (tk:=[]) (by kernel_rfl) (by kernel_rfl) ?_
   simp only[BW,Bt,cS,ZM n5,cD,zmw,xJ,UB,hw,jX,h9,BR,ZM n17,ZQ,iz];refine rg ?_;simp only[BW,qc (show i<2 ^ 60 by omega)]
   exact⟨m - 1,by omega,i+1,_,by omega,rfl,gF rfl⟩
  ·refine .inr ⟨by simp;omega,?_⟩
   refine rg ?_;simp only[BW,c26];exact fI rfl ⟨rfl,_,rfl⟩
end
end Go.Proofs.YthohlnmcjkjeiaaGreatDoor.A2
namespace Go.Proofs.YthohlnmcjkjeiaaGreatDoor
open Go Go.Vm
open Go.Proofs.Tryz
set_option maxRecDepth 100000
section
open Go.Vm.Sx
theorem zmy{l:List Cr}(h:IW l)(he:bE l=.bM):∃k:Nat,yO l=((k:Int),true)/\k<=1000/\k=mH (l.map ff)/\l.length<=200/\m7 0 l=((k:Int),true)/\(∀c∈l,nodes c.1<=1800/\nodes c.2.2<=1800)/\∀e∈l.map ff,gd e=true:=by
 obtain⟨p,ok,Ad⟩:∃p ok,yO l=(p,ok):=⟨_,_,rfl⟩;rw[bE,Ad] at he;cases ok with
 | false=>cases he
 | true =>
  simp only[mJ] at he;have hp:p<=1000:=by
   rcases Int.lt_or_le 1000 p with h|h
   ·rw[if_pos h] at he;cases he
   ·exact h
  have hlen:l.length<=200/\m7 0 l=(p,true):=by
   unfold yO at Ad;cases hx:dj 200 (l.length:Int) with
   | true=>rw[hx] at Ad;simp at Ad
   | false =>
    rw[hx] at Ad;simp only[oq] at Ad;refine⟨?_,Ad⟩;rcases eX 200 l.length with hh|hh
    ·rw[JQ (by omega)] at hx;cases hx
    ·exact hh
  have FY:∀c∈l,nodes c.1<=1800/\nodes c.2.2<=1800:=by
   rcases h.nod with hh|hh
   ·omega
   ·exact hh
  obtain⟨m1,_,m3⟩:=CV l 0 FY (by omega) (by omega) (by rw[hlen.2]) (by rw[hlen.2];exact hp)
  rw[hlen.2] at m1;simp only[Int.zero_add] at m1;exact⟨mH (l.map ff),by rw[Ad,m1],by omega,rfl,hlen.1,by rw[hlen.2,m1],FY,m3⟩
theorem ziw{n:Nat}(es:List E):∀(r:Nat)(m:Mk),(qt n r es m).1.length=es.length:=by
 induction es with
 | nil=>intro r m;rfl
 | cons e es ih=>intro r m;simp only[qt,aZ,ih]
theorem zmz{p:Nat->Bool}:(jh p 19).length<=1216:=by
 have:=xn (p:=p) 19;rw[xF,gC] at this;omega
end
section
variable{gl:Gl}
theorem Ee:prog.underlying 27=some (.slice 3):=by kernel_rfl
theorem RA:z4 prog 27=some 1:=by kernel_rfl
theorem Bz:qD prog 27=some false:=by kernel_rfl
theorem ZT{H:Hp}{p:A2.cE}:jb prog H 27 (A2.iv p)=some ((p.2.length:Nat):Int):=by
 rcases Sx.cH 1 p.1 (p.2.map A2.ie) with e|⟨e0,e⟩
 ·simp[A2.iv,e,jb]
 ·have:p.2=[]:=by simpa using e0
  rw[A2.iv,e,this];simp[jb]
theorem zmA{sz:Nat}{nl:Bool}{l:aD}{k:Nat}{v:V}(h:l[k]?=some v):Sx.lv sz nl l=.sl sz l .no:=by
 rcases Sx.cH sz nl l with e|⟨e0,e⟩
 ·exact e
 ·rw[e0] at h;simp at h
theorem ZU{p:A2.cE}{k:Nat}{z:Int}(h:p.2[k]?=some z):zt prog 27 (A2.iv p) ((k:Nat):Int)=some (.vp [.int .i64 z]):=by
 have hn:(p.2.map A2.ie)[k]?=some (A2.ie z):=by rw[iY,h];rfl
 rw[A2.iv,zmA hn];simp only[zt,Ee,tU,uP,zg,hn];simp[A2.ie,V.cells]
theorem ZV{H:Hp}{z:Int}:zk prog H gl.g 3 (.vp [.int .i64 z])=some (.int .i64 z):=by
 simp[zk,iT,wd,zg]
theorem UG{p:A2.f_}{k:Nat}{r:A2.cE}(h:p.2[k]?=some r):zt prog 28 (A2.rv p) ((k:Nat):Int)=some (.vp [A2.iv r]):=by
 have hn:(p.2.map A2.iv)[k]?=some (A2.iv r):=by rw[iY,h];rfl
 have hc:(A2.iv r).cells=[A2.iv r]:=by
  rcases Sx.cH 1 r.1 (r.2.map A2.ie) with e|⟨_,e⟩<;>rw[A2.iv,e]<;>rfl
 rw[A2.rv,zmA hn];simp only[zt,MB,RA,uP,zg,hn,hc];simp
theorem UH{H:Hp}{r:A2.cE}:zk prog H gl.g 27 (.vp [A2.iv r])=some (A2.iv r):=by
 simp[zk,Bz,wd,zg]
def wT(l:List Int)(q:Nat):Nat:=l.foldl (λq n=>q ||| 2 ^ n.toNat) q
def qd(rows:List A2.cE)(l:List Int)(q:Nat):Nat:=l.foldl (λq r=>wT ((rows[r.toNat]?).map (·.2) |>.getD []) q) q
theorem zd3{l:List Int}{z:Int}{q:Nat}:wT (l++[z]) q=wT l q ||| 2 ^ z.toNat:=by simp[wT]
theorem zgg{rows:List A2.cE}{l:List Int}{r:Int}{row:A2.cE}{q:Nat}(h:rows[r.toNat]?=some row):qd rows (l++[r]) q=wT row.2 (qd rows l q):=by
 simp[qd,h]
theorem zkK(hg:GS gl){n bm m:Nat}{f:A2.F}{act:A2.cE}{tM:aB}{mc:aD}(ov:f.s.2.length<2 ^ 36)(hnf:f.f.2.length<2 ^ 36)(HO:m=(f.s.2.length+f.f.2.length) / 8+1)
  (ha:∀r∈act.2,0<=r/\r.toNat<f.f.2.length) (hr:∀row∈f.f.2,row.2.length<n+1/\row.2.length<2 ^ 60/\∀z∈row.2,0<=z/\z.toNat<f.s.2.length+f.f.2.length) (han:act.2.length<n+1) (rN:act.2.length<2 ^ 60) {bs:List aV} {es:aN}
  (hM:nth bs bm=some (.cells mc tM)) (Dw:nth mc 0=some (A2.qv f.s)) (Uw:nth mc 2=some (A2.rv f.f)) :
  zj prog gl (n+1+1) 113 [.ptr bm 0,A2.iv act] ⟨bs,es⟩=some (.ret (cG m bs.length),⟨bs++[.cells (dM m (qd f.f.2 act.2 0)) 5],es⟩):=by
 have BO:bm<bs.length:=by rw[zg] at hM;exact(c_.1 hM).1
 suffices bL:(go ⟨prog,gl,zj prog gl (n+1),eA⟩ (n+1) (Fx prog f113.results.toList λw H1=>w=cG m bs.length/\H1=⟨bs++[.cells (dM m (qd f.f.2 act.2 0)) 5],[]⟩) [.c (f113.body.getD .skip)] .normal ⟨[.ptr bm 0,A2.iv act]++List.replicate 47 (.bq []),⟨bs,[]⟩,[],[]⟩) by
  obtain⟨w,H1,h0,rfl,rfl⟩:=zQ (gl:=gl) (f:=113) (bs:=bs) (es:=es) (args:=[.ptr bm 0,A2.iv act]) (n:=n+1) (hg.hk _ _ (by decide)) (λH=>hg.fG _ _ _ _ (by decide)) func113 rfl (by rw[hg.uq];exact bL)
  rw[h0,yK (by simp only[V.top,cG];omega)]
  rfl
 let Hz:Nat->Hp:=λq=>⟨bs++[.cells (dM m q) 5],[]⟩
 have gM:∀q,(Hz q).get bm=some (.cells mc tM):=λq=>by
  show nth _ _=_;rw[zg,gb BO,<- zg,hM]
 have lS0:zk prog ⟨bs,[]⟩ gl.g 26 (.ptr bm 0)=some (A2.qv f.s):=zq mY hM Dw;have lF0:zk prog ⟨bs,[]⟩ gl.g 28 (.ptr bm 2)=some (A2.rv f.f):=zq om hM Uw;have lF:∀q,zk prog (Hz q) gl.g 28 (.ptr bm 2)=some (A2.rv f.f):=λq=>zq om (gM q) Uw
 have uT:Cx.bC ⟨prog,gl.g,zj prog gl (n+1),eA⟩ 108 [.int .i64 ((f.s.2.length+f.f.2.length:Nat):Int)] ⟨bs,[]⟩=some (.val (cG m bs.length),Hz 0):=by
  refine zu func108 rfl ?_;have:=xw hg (n:=n) (k:=f.s.2.length+f.f.2.length) (by omega) (bs:=bs) (es:=[])
  rw[<- HO] at this;exact this
 have nY:∀q (z:Int),0<=z->z.toNat<f.s.2.length+f.f.2.length->Cx.bC ⟨prog,gl.g,zj prog gl (n+1),eA⟩ 109 [cG m bs.length,A2.ie z] (Hz q)=some (.val (.bq []),Hz (q ||| 2 ^ z.toNat)):=λq z h0 h1=>by
  refine zu func109 rfl ?_;have:=Zq hg (n:=n) (k:=z.toNat) (m:=m) (p:=q) (b:=bs.length) (by omega) (by omega) (bs:=bs++[.cells (dM m q) 5]) (es:=[]) (by rw[zg,fE (dI _)];simp)
  rw[show((z.toNat:Nat):Int)=z by omega] at this
  refine this.trans ?_;simp[Hz]
 have mZ:∀c,aW (cG m c)=cG m c:=λ_=>rfl;have e_:∀c env t,qK env t (some (cG m c))=some (cG m c,env):=λ_ _ _=>rfl;simp only[f113,fQ,zh];refine zi ?_;simp only[BA,aj,aq,bS,bT,List.replicate]
 refine qG (tk:=[]) (by kernel_rfl) (by kernel_rfl) ?_
 simp only[BA,av,ak,aq,aa,ah,aA,au,zd,ze,bS,bT,lS0,lF0,mY,om,l8,mQ,Af,A2.ey,A2.bH,xK,Rk,xp (show f.s.2.length+f.f.2.length<2 ^ 60 by omega),uT,e_]
 refine zi ?_;simp only[BA,ak,aj,aq,zd,ze,bS,bT,A2.bB,ZT]
 refine qh (λk s=>∃i env,k+i=act.2.length/\s=⟨env,Hz (qd f.f.2 (act.2.take i) 0),[],[]⟩/\env.length=49/\nth env 0=some (.ptr bm 0)/\nth env 5=some (cG m bs.length)/\nth env 24=some (A2.iv act)/\nth env 25=some (.int .i64 (act.2.length:Nat))/\nth env 26=some (.int .i64 (i:Nat))) act.2.length han ⟨0,_,rfl,rfl,rfl,rfl,rfl,rfl,rfl,rfl⟩ ?_;rintro k s ⟨i,env,hki,rfl,hlen,h0,h5,BZ,Ag,tV⟩
 simp only[zh];refine zi ?_;simp only[BA,ak,aq,za,Nat.reduceLT,Ag,tV,hlen,qU]
 by_cases hi:i<act.2.length
 ·refine .inl ⟨by simp;omega,?_⟩
  obtain⟨r,ry⟩:∃r,act.2[i]?=some r:=⟨_,gh hi⟩;obtain⟨hr0,oE⟩:=ha r (m_ ry);obtain⟨row,b_⟩:∃row,f.f.2[r.toNat]?=some row:=⟨_,gh oE⟩;obtain⟨so,GA,hz⟩:=hr row (m_ b_);have NC:((r.toNat:Nat):Int)=r:=by omega
  have CB:zt prog 28 (A2.rv f.f) r=some (.vp [A2.iv row]):=by
   have:=UG b_
   rwa [NC] at this
  have mb:act.2.take (i+1)=act.2.take i++[r]:=by rw[List.take_add_one,ry];rfl
  refine zi ?_;simp only[BA,Nat.reduceEqDiff,ak,aq,aE,za,bD,Nat.reduceLT,bw,BZ,tV,hlen,A2.bB,ZU ry,ZV];refine zi ?_
  simp only[BA,Nat.reduceEqDiff,ak,aj,aq,aa,ah,aE,za,bD,Nat.reduceLT,bw,h0,hlen,lF,l8,Af,A2.bH,A2.bB,CB,UH,ZT]
  refine qh (λk2 s=>∃j env,k2+j=row.2.length/\s=⟨env,Hz (wT (row.2.take j) (qd f.f.2 (act.2.take i) 0)),[],[]⟩/\env.length=49/\nth env 0=some (.ptr bm 0)/\nth env 5=some (cG m bs.length)/\nth env 24=some (A2.iv act)/\nth env 25=some (.int .i64 (act.2.length:Nat))/\nth env 26=some (.int .i64 (i:Nat))/\nth env 37=some (A2.iv row)/\nth env 38=some (.int .i64 (row.2.length:Nat))/\nth env 39=some (.int .i64 (j:Nat))) row.2.length so ?_ ?_
  ·refine⟨0,_,rfl,rfl,?_,?_,?_,?_,?_,?_,?_,?_,?_⟩<;>simp[za,hlen,h0,h5,BZ,Ag,tV]
  rintro k2 s ⟨j,bI,hkj,rfl,cJ,e0,e5,RB,I6,MH,I7,I8,UI⟩;simp only[zh];refine zi ?_;simp only[BA,ak,aq,za,Nat.reduceLT,I8,UI,cJ,qU]
  by_cases hj:j<row.2.length
  ·refine .inl ⟨by simp;omega,?_⟩
   obtain⟨z,MI⟩:∃z,row.2[j]?=some z:=⟨_,gh hj⟩;obtain⟨Ki,GM⟩:=hz z (m_ MI);have MJ:row.2.take (j+1)=row.2.take j++[z]:=by rw[List.take_add_one,MI];rfl
   have gG:∀q,Cx.bC ⟨prog,gl.g,zj prog gl (n+1),eA⟩ 109 [cG m bs.length,.int .i64 z] (Hz q)=some (.val (.bq []),Hz (q ||| 2 ^ z.toNat)):=λq=>nY q z Ki GM
   refine zi ?_;simp only[BA,Nat.reduceEqDiff,ak,aq,aE,za,bD,Nat.reduceLT,bw,I7,UI,cJ,A2.bB,ZU MI,ZV];refine zi ?_
   simp only[BA,Nat.reduceEqDiff,av,ak,aq,aA,za,bD,Nat.reduceLT,bw,e5,cJ,mZ,gG];refine zi ?_
   simp only[BA,Nat.reduceEqDiff,ak,aj,aq,za,bD,Nat.reduceLT,bw,UI,cJ,qc (show j<2 ^ 60 by omega),zp,aM]
   rw[show Hz (wT (row.2.take j) (qd f.f.2 (act.2.take i) 0) ||| 2 ^ z.toNat)=Hz (wT (row.2.take (j+1)) (qd f.f.2 (act.2.take i) 0)) by rw[MJ,zd3]]
   refine⟨row.2.length - 1 - j,by omega,j+1,_,by omega,rfl,?_,?_,?_,?_,?_,?_,?_,?_,?_⟩
   all_goals simp[za,cJ,e0,e5,RB,I6,MH,I7,I8]
  ·refine .inr ⟨by simp;omega,?_⟩
   obtain rfl:j=row.2.length:=by omega
   simp only[ql,zN,zD,zp,bJ,qC,iN,aF]
   refine zi ?_;simp only[BA,Nat.reduceEqDiff,ak,aj,aq,za,bD,Nat.reduceLT,bw,MH,cJ,qc (show i<2 ^ 60 by omega),zp,aM]
   rw[show Hz (wT (row.2.take row.2.length) (qd f.f.2 (act.2.take i) 0))=Hz (qd f.f.2 (act.2.take (i+1)) 0) by rw[mb,zgg b_,DF]]
   refine⟨act.2.length - 1 - i,by omega,i+1,_,by omega,rfl,?_,?_,?_,?_,?_,?_⟩
   all_goals simp[za,cJ,e0,e5,RB,I6]
 ·obtain rfl:i=act.2.length:=by omega
  refine .inr ⟨by simp,?_⟩
  simp only[ql,zN,zD,zp,bJ,zh,iN,aF]
  refine zi ?_;simp only[BA,Nat.reduceEqDiff,ak,aq,za,bD,Nat.reduceLT,bw,h5,hlen,mZ,e_,go_ret,zp,Fx]
  refine⟨[cG m bs.length],?_,rfl,?_⟩
  ·simp[zx,za,hlen]
  ·simp only[Hz,DF]
end
end Go.Proofs.YthohlnmcjkjeiaaGreatDoor
namespace Go.Vm
set_option maxRecDepth 100000
open Go
variable{cx:Cx}{takes:bY}{dst:fH}{type:aB}{pos:String}{after:Array Edge}{guard:oZ}{env:aD}{H:Hp}{lk:aN}{df:bO}
theorem v4{a b:aB}{x:aX}(hu:cx.uq (vd a)=true)(hm:Nat.beq a b=false):cx.op takes ⟨dst,.convert a b x,type,pos,after,guard⟩ env H lk df=iB env H lk df (KR cx.P H a b (ak env x)):=by
 have hk:v9 cx.P a b x env=none:=by
  unfold v9;rw[hm]
 simp only[Cx.op,hk,hu];cases KR cx.P H a b (ak env x)<;>rfl
def UJ(P:aQ)(t:aB)(H:Hp)(ok:Bool):bX->bX->bX
 | some m,some k=>match P.underlying t with
  | some (.map kt e)=>match P.underlying kt with
   | some kd=>match v8 kd k with
    | true=>match xe H m with
     | some es=>match Nl P e k es with
      | some (v,f)=>some (if ok then .bq [aW v,.bool f] else aW v)
      | none=>none
     | none=>none
    | false=>none
   | none=>none
  | _=>none
 | _,_=>none
theorem ZW{t : aB}{m k : aX}{ok : Bool} : cx.op takes ⟨dst, .lookup t m k ok, type, pos, after, guard⟩ env H lk df = iB env H lk df (UJ cx.P t H ok (ak env m) (ak env k)) := by
  simp only[Cx.op];refine vU ?_;simp only[jf, UJ];cases ak env m with
  | none =>
    cases cx.P.underlying t with
    | none => rfl
    | some d => cases d <;> try rfl
                rename_i kt e;cases hu : cx.P.underlying kt <;> simp
  | some mv =>
    cases cx.P.underlying t with
    | none => cases ak env k <;> rfl
    | some d => cases d <;> try (cases ak env k <;> rfl)
                rename_i kt e;cases ak env k with
                | none => cases hu : cx.P.underlying kt <;> simp
                | some kv =>
                  cases hu : cx.P.underlying kt with
                  | none => simp[hu]
                  | some kd =>
                    simp only[hu, Option.bind_eq_bind, aT];cases v8 kd kv with
                    | false => rfl
                    | true =>
                      simp only[mh, fP, bw];cases xe H mv with
                      | none => rfl
                      | some es =>
                        simp only[aT];cases Nl cx.P e kv es with
                        | none => rfl
                        | some q => rfl
theorem zd4{t:aB}:cx.op takes ⟨dst,.makeMap t none,type,pos,after,guard⟩ env H lk df=some (.val (.map H.az.length),⟨env,H.push (.map []),lk,df⟩):=by
 simp[Cx.op,qm]
theorem zbX{t:aB}{m k x:aX}{b:Nat}{kv xv:V}{es iD:List (V×V)}(h1:ak env m=some (.map b))(h2:ak env k=some kv)(h3:ak env x=some xv)(hk:Nk cx.P t kv=true)(hb:H.get b=some (.map es))(hs:Hs kv xv es=some iD)(ht:(V.bq [kv,xv]).top<=b+1) :
  cx.op takes ⟨dst,.mapUpdate t m k x,type,pos,after,guard⟩ env H lk df=some (.skip,⟨env,H.set b (.map iD),lk,df⟩):=by
 simp only[Cx.op,h1,h2,h3,hk,mh,fP,bw,qp,hb,hs,eE,jd];rw[jT ht]
end Go.Vm
namespace Go.Proofs.YthohlnmcjkjeiaaGreatDoor
open Go Go.Vm
open Go.Proofs.Tryz
variable{gl:Gl}
theorem uE:∀{l:bN},(∀b∈l,b<256)->nj (l.map λb=>V.int .u8 (b:Nat))=some l
 | [],_=>rfl
 | b::l,h=>by
  have hb:=h b (eH ..);simp only[aY,nj,uE λx hx=>h x (dR _ hx),aS]
  congr 2
  simp;omega
theorem F5:∀{m:Nat}{l:aD},m<=l.length->xV false 1 m l=l.take m
 | 0,_,_=>rfl
 | m+1,[],h=>by simp at h
 | m+1,x::l,h=>by
  simp only[aZ] at h;simp only[xV,ud,mg,uN];rw[F5 (by omega)]
  rfl
theorem xL{H:Hp}{m w c:Nat}(hb:H.get c=some (.cells (dM m w) 5)):KR prog H 205 9 (some (cG m c))=some (.str (pX m w)):=by
 have gG:((dM m w).drop 0).map aW=dM m w:=by
  rw[mg];simp only[dM,List.map_map];exact List.map_congr_left λ_ _=>rfl
 have he:ww prog H 5 (.sr c 0 m m)=some (dM m w):=by
  simp only[ww,hb,F0,sP,Option.bind_eq_bind,aT,gG];rw[if_pos (by simp[yT,Nat.ble_eq]),F5 (by rw[yT];exact dI _),p9 (by rw[yT];exact dI _)]
 simp only[KR,KQ,I0,cG,he,vz,Ur,Zv,Option.bind_eq_bind,aT];rw[dM,uE zpr];rfl
def vb(m:Nat):Nat->bN->List (V×V)
 | _,[]=>[]
 | k,w::ws=>(.str (pX m w),.int .i64 (k:Nat))::vb m (k+1) ws
def ku(w:Nat):Nat->bN->Option Nat
 | _,[]=>none
 | k,x::xs=>if x=w then some k else ku w (k+1) xs
theorem zhJ{m p q:Nat}(hp:p<2 ^ (8 * m))(hq:q<2 ^ (8 * m)):Jr (.str (pX m p)) (.str (pX m q))=some (q == p):=by
 simp only[Jr,zjl hp hq]
 congr 1
 exact ET.2 ⟨λh=>by simpa using (by simpa using h:p=q).symm,λh=>by simpa using (by simpa using h:q=p).symm⟩
theorem zhK{m w:Nat}(hw:w<2 ^ (8 * m)):∀{ws:bN}{k:Nat},(∀x∈ws,x<2 ^ (8 * m))->Js (.str (pX m w)) (vb m k ws)=some ((ku w k ws).map λi=>.int .i64 (i:Nat))
 | [],_,_=>rfl
 | x::ws,k,h=>by
  simp only[vb,Js,zhJ hw (h x (eH ..)),ku]
  by_cases e:x=w
  ·simp[e]
  ·have:(x == w)=false:=by simpa using e
   simp only[this,if_neg e];exact zhK hw λy hy=>h y (dR _ hy)
theorem ZX{m w:Nat}(hw:w<2 ^ (8 * m)):∀{ws:bN}{k:Nat},(∀x∈ws,x<2 ^ (8 * m))->ku w k ws=none->Hs (.str (pX m w)) (.int .i64 ((k+ws.length:Nat):Int)) (vb m k ws)=some (vb m k (ws++[w]))
 | [],_,_,_=>rfl
 | x::ws,k,h,hn=>by
  simp only[ku] at hn;split at hn
  ·cases hn
  ·rename_i e;have:(x == w)=false:=by simpa using e
   simp only[vb,Hs,zhJ hw (h x (eH ..)),this,aZ,a_];rw[show k+(ws.length+1)=(k+1)+ws.length by omega,ZX hw (λy hy=>h y (dR _ hy)) hn]
   rfl
theorem ZY{m:Nat}:∀{ws:bN}{k:Nat},(vb m k ws).length=ws.length
 | [],_=>rfl
 | _::ws,k=>by simp[vb,ZY]
theorem F6:prog.underlying 207=some (.map 9 3):=by kernel_rfl
theorem ZZ{H:Hp}{m w d:Nat}{ws:bN}(hw:w<2 ^ (8 * m))(Dn:∀x∈ws,x<2 ^ (8 * m))(hb:H.get d=some (.map (vb m 0 ws))) :
  UJ prog 207 H true (some (.map d)) (some (.str (pX m w)))=some (.bq [.int .i64 (((ku w 0 ws).getD 0:Nat):Int),.bool (ku w 0 ws).isSome]):=by
 simp only[UJ,F6,Ur,v8,xe,hb,Nl,zhK hw Dn];cases ku w 0 ws with
 | none=>simp[Uv,aW]
 | some i=>simp[aW]
theorem zmC{s:bN}:Nk prog 207 (.str s)=true:=by
 simp only[Nk,F6,Ur,v8]
theorem zjQ{H:Hp}{d:Nat}{es:List (V×V)}(hb:H.get d=some (.map es)):jb prog H 207 (.map d)=some ((es.length:Nat):Int):=by
 simp only[jb,F6,hb]
end Go.Proofs.YthohlnmcjkjeiaaGreatDoor
