/- Seat 8, subset: which automata may be (subset.Check): walked. Conditions: none but those named. -/
import Derived.Test.YthohlnmcjkjeiaaGreatDoorVmN
namespace Go.Proofs.YthohlnmcjkjeiaaGreatDoor.A2
open Go Go.Vm Go.Vm.Sx
open Go.Proofs.Tryz
set_option maxRecDepth 100000
section
set_option maxHeartbeats 1000000
variable{gl:Gl}{ez:bM}
theorem iu:qz prog 27=some false:=by kernel_rfl
theorem RM:z4 prog 27=some 1:=by kernel_rfl
theorem Gj:qz prog 66=some true:=by kernel_rfl
theorem BO:z4 prog 66=some 2:=by kernel_rfl
theorem oD:zB prog 66 0=some 0/\zB prog 66 1=some 1:=⟨by kernel_rfl,by kernel_rfl⟩
theorem U3(d:D):dz (iL d)=true:=rfl
theorem RN(d:D):(iL d).laid=[rv d.1,iv d.2]:=by simp[iL,V.laid,bC,bJ]
theorem U4(d:D)(env:aD)(t:Nat):qF env t (some (iL d))=some (iL d,env):=rfl
theorem OT{p:gJ}{i:Nat}{q:bW}(h:p.2[i]?=some q):zp prog 28 (rv p) (i:Int)=some (.vp [iv q]):=by
 have hk:¬((i:Int)<0):=by omega
 have hn:nth (p.2.map iv) i=some (iv q):=by rw[zg,iX,h];rfl
 have cH:rv p=.sl 1 (p.2.map iv) .no:=by
  unfold rv;rcases bZ 1 p.1 (p.2.map iv) with h'|⟨h0,_⟩
  ·exact h'
  ·simp only[HS] at h0;rw[h0] at h;simp at h
 have hc:(iv q).cells=[iv q]:=by
  unfold iv;rcases bZ 1 q.1 (q.2.map ie) with h'|⟨_,h'⟩<;>rw[h']<;>rfl
 rw[cH];simp[zp,RM,hk,hn,hc]
theorem OU{H:Hp}{g:Nat->Nat->b_}{v:V}:zk prog H g 27 (.vp [v])=some v:=by
 simp[zk,qu,iu,nth,wT]
theorem w8{p:bW}{i:Nat}(h:i<p.2.length):zp prog 27 (iv p) (i:Int)=some (.vp [.int .i64 (gi p.2 i)]):=by
 rw[UP h];simp[ie,gi,h]
theorem DJ{bs:List aY}{es:aO}{cs:aD}{ty t:aB}{g:Nat->Nat->b_}{off:Nat}(ha:qz prog t=some false):zk prog ⟨bs++[.cells cs ty],es⟩ g t (.ptr bs.length off)=nth cs off:=by
 cases h:nth cs off with
 | some v=>exact Zk ha h
 | none=>simp[zk,qu,ha,OK,h,wT]
theorem ZZ(p:bW)(env:aD)(t:Nat):qF env t (some (iv p))=some (iv p,env):=by
 unfold iv;rcases bZ 1 p.1 (p.2.map ie) with h|⟨_,h⟩<;>rw[h]<;>rfl
theorem RO(hg:GK gl ez)(eH:ez.any (Nat.beq 27)=false)(d:D)(hd:WD d):mY (d.1.2.length+300) prog gl 27 [iL d] (.bool (o9 (rowsOf d.1) d.2.2)):=by
 have hr:=eV;have LM:=hd.n.1;have AR:=hd.l.1;refine vz hg func27 rfl eH rfl (d.1.2.length+299) λn hn bs=>?_;simp only[f27,zh];refine rg ?_;simp only[BW,List.replicate,U4,z8 (U3 d),RN];refine rg ?_;simp only[BW,oD,DJ lJ,bJ,jX]
 have Dr:o9 (rowsOf d.1) d.2.2=bif ((cJ (d.1.2.length:Int) 1 || cJ 600 (d.1.2.length:Int)) || !((d.2.2.length:Int) == (d.1.2.length:Int))) then false else kU (Et (rowsOf d.1) d.2.2 d.1.2.length) d.1.2.length:=by
  simp only[o9,ep]
 refine rg ?_
 by_cases c1:(d.1.2.length:Int)<1
 ·simp only[BW,c1];refine rg ?_;simp only[BW];exact fz rfl ⟨by rw[Dr];simp[cJ,c1],_,rfl⟩
 by_cases c2:(600:Int)<d.1.2.length
 ·simp only[BW,c1,gt_iff_lt,c2];refine rg ?_;simp only[BW];exact fz rfl ⟨by rw[Dr];simp[cJ,c2],_,rfl⟩
 cases c3:((d.2.2.length:Int) == (d.1.2.length:Int)) with
 | false =>
  simp only[BW,c1,gt_iff_lt,c2,oD,DJ iu,bC,kP,bne,c3];refine rg ?_;simp only[BW];exact fz rfl ⟨by rw[Dr,c3];simp,_,rfl⟩
 | true =>
 have hll:d.2.2.length=d.1.2.length:=by have:=eq_of_beq c3;omega
 have uR:o9 (rowsOf d.1) d.2.2=kU (Et (rowsOf d.1) d.2.2 d.1.2.length) d.1.2.length:=by
  rw[Dr,c3];simp[cJ,c1,c2]
 rw[uR];simp only[BW,c1,gt_iff_lt,c2,oD,DJ iu,bC,kP,bne,c3];refine rg ?_;simp only[BW,oD,DJ lJ,bJ,jX]
 refine qj (λm st=>∃i env,m+i=d.1.2.length/\st=⟨env,⟨bs++[.cells [rv d.1,iv d.2] 66],[]⟩,[],[]⟩/\Ks 66 [(1,.ptr bs.length 0),(3,.int .i64 (d.1.2.length:Nat)),(25,rv d.1),(26,.int .i64 (d.1.2.length:Nat)),(27,.int .i64 (i:Nat))] env/\∀j,j<i->Et (rowsOf d.1) d.2.2 d.1.2.length j=true) d.1.2.length (by omega) ⟨0,_,rfl,rfl,gE rfl,λj h=>by omega⟩ ?_
 rintro m st ⟨i,env,tX,rfl,⟨j,rfl⟩,di⟩;simp only[sh,sG,Nat.reduceBEq,Nat.reduceAdd,mS,oJ];simp only[zh];refine rg ?_;simp only[BW,qi]
 by_cases hi:i<d.1.2.length
 ·refine .inl ⟨by simp;omega,?_⟩
  obtain⟨q,hq⟩:∃q,d.1.2[i]?=some q:=⟨d.1.2[i],by simp[hi]⟩
  have OG:gr (rowsOf d.1) i=q.2:=o8 hq;have hql:=(hd.n.2 q (nB hq)).1;have M6:Et (rowsOf d.1) d.2.2 d.1.2.length i=false->kU (Et (rowsOf d.1) d.2.2 d.1.2.length) d.1.2.length=false:=λh=>by
   rw[<- GR,bX];exact λk=>by rw[k i hi] at h;cases h
  refine rg ?_;simp only[BW,bJ,OT hq,OU,bC,ZZ];obtain⟨B,hB⟩:∃B,B=((q.2.length:Int) == 256 && (!cJ (gi d.2.2 i) (-1) && !lO 200 (gi d.2.2 i))):=⟨_,rfl⟩;refine MG 66 [(1,.ptr bs.length 0),(3,.int .i64 (d.1.2.length:Nat)),(5,iv q),(25,rv d.1),(26,.int .i64 (d.1.2.length:Nat)),(27,.int .i64 (i:Nat)),(50,.bool (!B))] ?_ λenv ⟨j,e⟩=>?_
  ·refine rg ?_;cases a1:((q.2.length:Int) == 256) with
   | false =>
    obtain rfl:B=false:=by rw[hB,a1];rfl
    simp only[BW,bC,kP,bne,a1];exact⟨_,rfl,gE rfl⟩
   | true =>
   have Jm:=w8 (p:=d.2) (i:=i) (by omega)
   by_cases a2:gi d.2.2 i < -1
   ·simp only[BW,bC,kP,bne,a1,oD,DJ iu,Jm,xc,a2];obtain rfl:B=false:=by rw[hB];simp[cJ,a2]
    exact⟨_,rfl,gE rfl⟩
   by_cases a3:200<=gi d.2.2 i
   ·simp only[BW,bC,kP,bne,a1,oD,DJ iu,Jm,xc,a2,ge_iff_le,a3];obtain rfl:B=false:=by rw[hB];simp[cJ,lO,a2,a3]
    exact⟨_,rfl,gE rfl⟩
   ·simp only[BW,bC,kP,bne,a1,oD,DJ iu,Jm,xc,a2,ge_iff_le,a3];obtain rfl:B=true:=by rw[hB,a1];simp[cJ,lO,a2,a3]
    exact⟨_,rfl,gE rfl⟩
  subst e;simp only[sh,sG,Nat.reduceBEq,Nat.reduceAdd,mS,oJ];cases B with
  | false =>
   have hb:=hB.symm;have ho:Et (rowsOf d.1) d.2.2 d.1.2.length i=false:=by
    simp only[Et,OG];cases a1:((q.2.length:Int) == 256) with
    | false=>rfl
    | true =>
     rw[a1,tP] at hb;rw[tP,<- Bool.and_assoc,hb];rfl
   simp only[BW];refine rg ?_;simp only[BW];exact fz rfl ⟨by rw[M6 ho],_,rfl⟩
  | true =>
  have hb:=hB.symm;have KE:q.2.length=256:=by
   simp only[d_] at hb;have:=eq_of_beq hb.1;omega
  have ho:Et (rowsOf d.1) d.2.2 d.1.2.length i=kU (uy d.1.2.length q.2) 256:=by
   simp only[Et,OG];simp only[d_] at hb;rw[hb.1,hb.2.1,hb.2.2];rfl
  simp only[BW];refine rg ?_;simp only[BW,kP,bC]
  refine qj (λm2 st=>∃k env,m2+k=256/\st=⟨env,⟨bs++[.cells [rv d.1,iv d.2] 66],[]⟩,[],[]⟩/\Ks 66 [(1,.ptr bs.length 0),(3,.int .i64 (d.1.2.length:Nat)),(25,rv d.1),(26,.int .i64 (d.1.2.length:Nat)),(27,.int .i64 (i:Nat)),(51,iv q),(52,.int .i64 (q.2.length:Nat)),(53,.int .i64 (k:Nat))] env/\∀j,j<k->uy d.1.2.length q.2 j=true) 256 (by omega) ⟨0,_,rfl,rfl,gE rfl,λj h=>by omega⟩ ?_
  rintro m2 st ⟨k,env,Ds,rfl,⟨j,rfl⟩,cj⟩;simp only[sh,sG,Nat.reduceBEq,Nat.reduceAdd,mS,oJ];simp only[zh];refine rg ?_;simp only[BW,qi]
  by_cases hk:k<256
  ·refine .inl ⟨by simp;omega,?_⟩
   have Jm:=w8 (p:=q) (i:=k) (by omega)
   have hrf:uy d.1.2.length q.2 k=false->Et (rowsOf d.1) d.2.2 d.1.2.length i=false:=λh=>by
    rw[ho,<- GR,bX];exact λh2=>by rw[h2 k hk] at h;cases h
   refine rg ?_;simp only[BW,bC,Jm,xc];refine rg ?_
   by_cases a2:gi q.2 k<0
   ·simp only[BW,a2];refine rg ?_;simp only[BW];exact fz rfl ⟨by rw[M6 (hrf (by simp[uy,cJ,a2]))],_,rfl⟩
   by_cases a3:(d.1.2.length:Int)<=gi q.2 k
   ·simp only[BW,a2,ge_iff_le,a3];refine rg ?_;simp only[BW];exact fz rfl ⟨by rw[M6 (hrf (by simp[uy,lO,a3]))],_,rfl⟩
   ·simp only[BW,a2,ge_iff_le,a3];refine rg ?_;simp only[BW,z6 (show k<2 ^ 60 by omega)]
    exact⟨m2 - 1,by omega,k+1,_,by omega,rfl,gE rfl,λj hj=>by
     rcases eM j k with h|h
     ·exact cj j h
     ·obtain rfl:j=k:=by omega
      simp[uy,cJ,lO,a2,a3]⟩
  ·obtain rfl:k=256:=by omega
   refine .inr ⟨by simp;omega,?_⟩
   refine rg ?_;simp only[BW,z6 (show i<2 ^ 60 by omega)]
   exact⟨m - 1,by omega,i+1,_,by omega,rfl,gE rfl,λj hj=>by
    rcases eM j i with h|h
    ·exact di j h
    ·obtain rfl:j=i:=by omega
     rw[ho];exact bX.2 cj⟩
 ·obtain rfl:i=d.1.2.length:=by omega
  refine .inr ⟨by simp,?_⟩
  refine rg ?_;simp only[BW];exact fz (v:=.bool true) rfl ⟨by rw[bX.2 di],_,rfl⟩
end
section
set_option maxHeartbeats 1000000
variable{gl:Gl}{ez:bM}
theorem M7:prog.underlying 78=some (.slice 5):=by kernel_rfl
theorem Z0:qz prog 5=some false:=by kernel_rfl
theorem Z1:z4 prog 5=some 1:=by kernel_rfl
theorem zoB{H:Hp}{p:bW}:qX prog H 78 (mZ p)=some (p.2.length:Int):=by
 unfold mZ;rcases bZ 1 p.1 (p.2.map be) with h|⟨h0,h⟩<;>rw[h]
 ·simp[qX]
 ·simp only[HS] at h0;simp[qX,h0]
theorem zoC{p:bW}{i:Nat}{b:Int}(h:p.2[i]?=some b):zp prog 78 (mZ p) (i:Int)=some (.vp [.int .u8 b]):=by
 have hk:¬((i:Int)<0):=by omega
 have hn:nth (p.2.map be) i=some (be b):=by rw[zg,iX,h];rfl
 have cH:mZ p=.sl 1 (p.2.map be) .no:=by
  unfold mZ;rcases bZ 1 p.1 (p.2.map be) with h'|⟨h0,_⟩
  ·exact h'
  ·simp only[HS] at h0;rw[h0] at h;simp at h
 rw[cH];simp[zp,Z1,hk,hn,V.cells,be]
theorem zrw{H:Hp}{g:Nat->Nat->b_}{z:Int}:zk prog H g 5 (.vp [.int .u8 z])=some (.int .u8 z):=by
 simp[zk,qu,Z0,nth,wT]
theorem Z2{bs:List aY}{es:aO}{d:D}{g:Nat->Nat->b_}:zk prog ⟨bs++[.cells [rv d.1,iv d.2] 66],es⟩ g 66 (.ptr bs.length 0)=some (iL d):=by
 rw[jc Gj BO OK (by simp)];rfl
theorem M8(d:D):aV (iL d)=iL d:=by simp[iL,qW]
theorem kni:aV V.bN=V.bN:=rfl
theorem KF:qz prog 37=some false:=by kernel_rfl
theorem RP(hg:GK gl ez)(On:ez.any (Nat.beq 27)=false)(RQ:ez.any (Nat.beq 33)=false)(Ez:gl.g 0 0=some tf)(d:D)(hd:WD d)(t:bW)(ht:t.2.length<2 ^ 60)(hb:∀b∈t.2,0<=b/\b<256):Kn prog gl 33 [iL d,mZ t] (Eu d t.2):=by
 have hr:=eV;have dx:(Eu d t.2).top=0:=by unfold Eu;cases o9 (rowsOf d.1) d.2.2<;>rfl
 refine⟨_,vz hg func33 rfl RQ dx (d.1.2.length+t.2.length+300) λn hn bs=>?_⟩;have Rj:∀H,Cx.bB ⟨prog,gl.g,zj prog gl n,nU⟩ 27 [iL d] H=some (.val (.bool (o9 (rowsOf d.1) d.2.2)),H):=jt func27 rfl (RO hg On d hd n (by omega))
 simp only[f33,zh];refine rg ?_;simp only[BW,Nat.reduceAdd,List.replicate,U4,z8 (U3 d),RN];refine rg ?_;unfold Eu;cases hm:o9 (rowsOf d.1) d.2.2 with
 | false =>
  rw[hm] at Rj;simp only[BW,Z2,M8,Rj,iH];refine ja (tk:=[]) (by kernel_rfl) (by kernel_rfl) ?_
  have OV:∀H,zk prog H gl.g 37 (.eT 0 0)=some tf:=λH=>by simp[zk,KF,Ez]
  simp only[BW,OV,KF,show aV tf=tf from rfl,show ∀env t,qF env t (some tf)=some (tf,env) from λ_ _=>rfl];exact Hw rfl rfl ⟨rfl,_,rfl⟩
 | true =>
  rw[hm] at Rj;simp only[BW,Z2,M8,Rj,iH];refine rg ?_;simp only[BW];refine rg ?_;simp only[BW,zoB,MH];have hmg:=(Zj hm).2;have h1:=(Zj hm).1.1;rw[ep] at h1
  refine qj (λm st=>∃i env,m+i=t.2.length/\st=⟨env,⟨bs++[.cells [rv d.1,iv d.2] 66],[]⟩,[],[]⟩/\Ks 29 [(2,.ptr bs.length 0),(6,.int .i64 (o_ (rowsOf d.1) 0 (t.2.take i))),(13,mZ t),(14,.int .i64 (t.2.length:Nat)),(15,.int .i64 (i:Nat))] env) t.2.length (by omega) ⟨0,_,rfl,rfl,gE rfl⟩ ?_
  rintro m st ⟨i,env,tX,rfl,⟨j,rfl⟩⟩;simp only[sh,sG,Nat.reduceBEq,Nat.reduceAdd,mS,oJ];simp only[zh];refine rg ?_;simp only[BW,qi]
  by_cases hi:i<t.2.length
  ·refine .inl ⟨by simp;omega,?_⟩
   obtain⟨b,RR⟩:∃b,t.2[i]?=some b:=⟨t.2[i],by simp[hi]⟩
   have hbr:=hb b (nB RR);obtain⟨r0,r1⟩:=zjP hm (t:=t.2.take i) (s:=0) (λc hc=>hb c (Cq hc)) (by omega) (by rw[ep];omega)
   have Jn:o_ (rowsOf d.1) 0 (t.2.take (i+1))=gi (gr (rowsOf d.1) (o_ (rowsOf d.1) 0 (t.2.take i)).toNat) b.toNat:=by
    rw[List.take_add_one,RR];exact zfd
   rw[ep] at r1;generalize o_ (rowsOf d.1) 0 (t.2.take i)=s at r0 r1 Jn;obtain⟨s,rfl⟩:∃k:Nat,s=k:=⟨s.toNat,by omega⟩
   obtain⟨b,rfl⟩:∃k:Nat,b=k:=⟨b.toNat,by omega⟩
   rw[Ac,Ac] at Jn;obtain⟨q,hq⟩:∃q,d.1.2[s]?=some q:=⟨d.1.2[s]'(by omega),by simp[show s<d.1.2.length by omega]⟩
   have OG:gr (rowsOf d.1) s=q.2:=o8 hq;have KE:=(hmg s (by rw[ep];omega)).1
   rw[OG] at Jn KE;have Jm:=w8 (p:=q) (i:=b) (by omega)
   refine rg ?_;simp only[BW,MH,zoC RR,zrw];refine rg ?_;simp only[BW,oD,DJ lJ,bJ,OT hq,OU,bC,Jm,xc];refine rg ?_;simp only[BW,z6 (show i<2 ^ 60 by omega)]
   refine⟨m - 1,by omega,i+1,_,by omega,rfl,?_⟩
   rw[Jn];exact gE rfl
  ·obtain rfl:i=t.2.length:=by omega
   refine .inr ⟨by simp,?_⟩
   refine rg ?_;simp only[BW,D1];exact Hw rfl rfl ⟨rfl,_,rfl⟩
theorem Z3(hg:GK gl ez)(On:ez.any (Nat.beq 27)=false)(RQ:ez.any (Nat.beq 33)=false)(Z4:ez.any (Nat.beq 44)=false)(Ez:gl.g 0 0=some tf)(d:D)(hd:WD d)(hm:o9 (rowsOf d.1) d.2.2=true)(t:bW)(ht:t.2.length<2 ^ 60)(hb:∀b∈t.2,0<=b/\b<256){k:Nat}(hk:o_ (rowsOf d.1) 0 t.2=(k:Int))(hl:k<d.2.2.length):Kn prog gl 44 [iL d,mZ t] (.int .i64 (gi d.2.2 k)):=by
 obtain⟨K,hK⟩:=RP hg On RQ Ez d hd t ht hb;refine⟨_,vz hg func44 rfl Z4 rfl K λn hn bs=>?_⟩
 have c33:∀H,Cx.bB ⟨prog,gl.g,zj prog gl n,nU⟩ 33 [iL d,mZ t] H=some (.val (.br [.int .i64 k,.bN]),H):=jt func33 rfl (by
  have:=hK n hn
  simpa only[Eu,hm,mS,hk] using this)
 simp only[f44,zh];refine rg ?_;simp only[BW,Nat.reduceAdd,List.replicate,U4,z8 (U3 d),RN];refine rg ?_;simp only[BW,Z2,M8,MH,c33,dZ,kni];refine rg ?_;have e1:(Nat.beq 1 1)=true:=rfl
 simp only[BW,kni,show qL prog .neq 37 (.tmp 13) (.const .nilIface) (some .bN) (some .bN)=some (.bool false) from rfl,show ¬((k:Int)<0) by omega,oD,DJ iu,bC,kP,ge_iff_le,show ¬((d.2.2.length:Int)<=(k:Int)) by omega]
 refine rg ?_;have Jm:=w8 (p:=d.2) (i:=k) hl;simp only[BW,oD,DJ iu,bC,Jm,xc];exact fz rfl ⟨rfl,_,rfl⟩
end
section
variable{gl:Gl}{ez:bM}
theorem zq2(hG:GK gl ez)(h0:ez.any (Nat.beq 71)=false):∀(e:E),Wf e->∀d:Int,mY (hg e+2) prog gl 71 [enc e,.int .i64 d] (.int .i64 (ey e d))
 | .mk op pl s0 s1 s2 s3 text mn mx nl args,hw=>by
  intro d;have B_:=rF;have hlen:=hw.2.1;have fD:∀a,a∈args->mY (hg a+2) prog gl 71 [enc a,.int .i64 (IntKind.i64.wrap (d+1))] (.int .i64 (ey a (IntKind.i64.wrap (d+1)))):=λa ha=>zq2 hG h0 a (hw.2.2.mem ha) _;have hgm:∀a∈args,hg a<=Oq args:=λa ha=>Qz ha;simp only[hg];generalize he:E.mk op pl s0 s1 s2 s3 text mn mx nl args=e at hw ⊢
  have e9:nth (aK e) 9=some (ye nl (fe args)):=by rw[<- he];rfl
  have hs:ey e d=if cJ 5000 d then 1048576 else lC (IntKind.i64.wrap (d+1)) 1 args:=by rw[<- he];simp only[ey]
  refine vz hG func71 rfl h0 rfl (Oq args+args.length+3) λn hn bs=>?_;simp only[f71,zh];refine rg ?_;simp only[BW,Nat.reduceAdd,List.replicate,MN,z8 (Kw e),yg];refine rg ?_
  by_cases c1:5000<d
  ·rw[hs,show cJ 5000 d=true by simp[cJ,c1],if_pos rfl]
   simp only[BW,gt_iff_lt,c1];refine rg ?_;simp only[BW];exact fz rfl ⟨rfl,_,rfl⟩
  rw[hs,show cJ 5000 d=false by simp[cJ,c1],if_neg (by decide)]
  simp only[BW,gt_iff_lt,c1];refine rg ?_;simp only[BW];refine rg ?_;simp only[BW];generalize hR:lC (IntKind.i64.wrap (d+1)) 1 args=R
  refine qj (λm st=>∃i env n',m+i=args.length/\st=⟨env,⟨bs++[.cells (aK e) 53],[]⟩,[],[]⟩/\Ks 31 [(1,.int .i64 d),(2,.ptr bs.length 0),(5,.int .i64 n'),(6,.int .i64 (i:Nat))] env/\lC (IntKind.i64.wrap (d+1)) n' (args.drop i)=R) args.length (by omega) ⟨0,_,_,rfl,rfl,gE rfl,hR⟩ ?_
  rintro m st ⟨i,env,n',tX,rfl,⟨j,rfl⟩,o4⟩;simp only[sh,sG,Nat.reduceBEq,Nat.reduceAdd,mS,oJ];simp only[zh];refine rg ?_
  by_cases hi:i<args.length
  ·obtain⟨a,ha⟩:∃a,args[i]?=some a:=⟨args[i],by simp[hi]⟩
   have eY:args.drop i=a::args.drop (i+1):=by
    rw[GO hi];rw[gj hi] at ha;cases ha;rfl
   have M9:=nB ha;rw[eY] at o4;simp only[lC] at o4;have sx:((i:Int)<(args.length:Int)):=by omega
   by_cases U5:n'<1048576
   ·simp only[BW,dK,eW dQ,e9,zZ,qo,sx,U5];have hc:∀H,Cx.bB ⟨prog,gl.g,zj prog gl n,nU⟩ 71 [.agg (aK a),.int .i64 (IntKind.i64.wrap (d+1))] H=some (.val (.int .i64 (ey a (IntKind.i64.wrap (d+1)))),H):=by
     rw[<- qB];exact jt func71 rfl (fD a M9 n (by have:=hgm a M9;omega))
    refine rg ?_;simp only[BW,dK,eW dQ,e9,zZ,Y0 ha,UH,kg,hc];refine rg ?_;have h4:=X_ (i:=i) (by omega)
    simp only[BW,kg,h4];rw[show cJ n' 1048576=true by simp[cJ,U5],if_pos rfl] at o4
    exact⟨m - 1,by omega,i+1,_,_,by omega,rfl,gE rfl,o4⟩
   ·simp only[BW,dK,eW dQ,e9,zZ,qo,sx,U5];refine rg ?_;simp only[BW];rw[show cJ n' 1048576=false by simp[cJ,U5],if_neg (by decide)] at o4
    subst o4;exact fz rfl ⟨rfl,_,rfl⟩
  ·obtain rfl:i=args.length:=by omega
   rw[List.drop_length] at o4;simp only[lC] at o4;subst o4;simp only[BW,dK,eW dQ,e9,zZ,qo,show ¬((args.length:Int)<(args.length:Int)) by omega]
   refine rg ?_;simp only[BW];exact fz rfl ⟨rfl,_,rfl⟩
termination_by e=>hg e
decreasing_by simp only[hg];have:=Qz ha;omega
end
end Go.Proofs.YthohlnmcjkjeiaaGreatDoor.A2
namespace Go.Proofs.YthohlnmcjkjeiaaGreatDoor
open Go.Proofs.Tryz
set_option maxRecDepth 100000
open Go Go.Vm
variable{gl:Gl}
def eu(e:aB):Bool:=fu e || Nat.beq e mB
def RS:bM:=[28,30,73,74,108,109,110,111,112,113,114,148,149,150,151,188]
structure GS(gl:Gl):Prop where
 uq:gl.uq=eu
 fA:∀n f args H,(RS.any (Nat.beq f))=true->gl.fA n f args H=none
 hk:∀f args,(RS.any (Nat.beq f))=true->gl.hk f args=none
theorem yL{n0 t:Nat}{es:aO}{H:Hp}(h:n0<t):zW n0 es t H=⟨H.az,H.bG++es⟩:=by
 unfold zW;have:Nat.ble t n0=false:=by
  cases hb:Nat.ble t n0 with
  | false=>rfl
  | true=>have:=r_ hb;omega
 rw[this];rfl
theorem U6{bs:List aY}{es:aO}{b:Nat}{x:aY}:zW bs.length es 0 ⟨bs.set b x,[]⟩=⟨bs.set b x,es⟩:=by
 have:=z9 (bs:=bs.set b x) (ls:=[]) (es:=es) (t:=0) (ec _)
 rwa [m7,bD] at this
theorem Jo:prog.underlying 205=some (.slice 5):=by kernel_rfl
theorem Gk:z4 prog 5=some 1:=by kernel_rfl
theorem tj:qz prog 5=some false:=by kernel_rfl
theorem z5':qP prog 5=some (.int .u8 0):=by kernel_rfl
theorem in5:∃i,prog.info? 5=some i/\i.bytes=1:=⟨_,rfl,rfl⟩
theorem zff{v:V}:∀{k:Nat},(List.replicate k [v]).flatten=List.replicate k v
 | 0=>rfl
 | k+1=>by rw[HR,List.flatten_cons,zff,HR];rfl
theorem xw(hg:GS gl){n k:Nat}(hk:k<2 ^ 40){bs:List aY}{es:aO}:zj prog gl (n+1) 108 [.int .i64 (k:Nat)] ⟨bs,es⟩=some (.ret (.sr bs.length 0 (k / 8+1) (k / 8+1)),⟨bs++[.cells (dL (k / 8+1) 0) 5],es⟩):=by
 suffices bL:(go ⟨prog,gl,zj prog gl n,eu⟩ n (Fx prog f108.results.toList λw H1=>w=.sr bs.length 0 (k / 8+1) (k / 8+1)/\H1=⟨bs++[.cells (dL (k / 8+1) 0) 5],[]⟩) [.c (f108.body.getD .skip)] .normal ⟨[.int .i64 (k:Nat)]++List.replicate 6 (.br []),⟨bs,[]⟩,[],[]⟩) by
  obtain⟨w,H1,h0,rfl,rfl⟩:=zQ (gl:=gl) (f:=108) (bs:=bs) (es:=es) (args:=[.int .i64 (k:Nat)]) (n:=n) (hg.hk _ _ (by decide)) (λH=>hg.fA _ _ _ _ (by decide)) func108 rfl (by rw[hg.uq];exact bL)
  rw[h0,yL (by simp[V.top])]
  rfl
 obtain⟨i,MY,MZ⟩:=in5;simp only[f108,fS,zh];refine zi ?_;simp only[BA,aj,aq,bT];simp only[List.replicate];refine zi ?_
 simp only[BA,ak,aj,aq,zd,ze,bS,bT,zhx (show k<2 ^ 60 by omega),z6 (show k / 8<2 ^ 60 by omega)]
 rw[XM (k:=k / 8+1) Jo Gk z5' rfl MY (by decide) rfl rfl rfl rfl (by rw[MZ];exact dD (by omega) (by omega)) (by omega)]
 simp only[BA,aq,zc,zd,ze,bS,bT,zhw];simp only[go_ret,zq,Fx]
 refine⟨trivial,[.sr bs.length 0 (k / 8+1) (k / 8+1)],?_,rfl,?_⟩
 ·simp only[zx,zd,ze]
 ·show Hp.mk _ _=_;rw[zmc,<- zff];rfl
theorem Z5{b i m:Nat}(h:i<m):zp prog 205 (.sr b 0 m m) ((i:Nat):Int)=some (.ptr b i):=by
 simp only[zp,Jo,Gk];rw[if_pos (by omega)]
 simp
theorem zq3{b i m p:Nat}(h:i<m):wz [] b i 1 ((dL m p).drop i)=true:=yp λk hk=>by
 obtain rfl:k=0:=by omega
 exact⟨_,by rw[nZ,vJ h],rfl⟩
theorem Z6(hg:GS gl){n k m p b:Nat}(hk:k<2 ^ 40)(hm:k / 8<m){bs:List aY}{es:aO}(hb:nth bs b=some (.cells (dL m p) 5)) :
  zj prog gl (n+1) 109 [.sr b 0 m m,.int .i64 (k:Nat)] ⟨bs,es⟩=some (.ret (.br []),⟨bs.set b (.cells (dL m (p ||| 2 ^ k)) 5),es⟩):=by
 suffices bL:(go ⟨prog,gl,zj prog gl n,eu⟩ n (Fx prog f109.results.toList λw H1=>w=.br []/\H1=⟨bs.set b (.cells (dL m (p ||| 2 ^ k)) 5),[]⟩) [.c (f109.body.getD .skip)] .normal ⟨[.sr b 0 m m,.int .i64 (k:Nat)]++List.replicate 12 (.br []),⟨bs,[]⟩,[],[]⟩) by
  obtain⟨w,H1,h0,rfl,rfl⟩:=zQ (gl:=gl) (f:=109) (bs:=bs) (es:=es) (args:=[.sr b 0 m m,.int .i64 (k:Nat)]) (n:=n) (hg.hk _ _ (by decide)) (λH=>hg.fA _ _ _ _ (by decide)) func109 rfl (by rw[hg.uq];exact bL)
  rw[h0,show(V.br []).top=0 from rfl,U6]
 have FO:(⟨bs,[]⟩:Hp).get b=some (.cells (dL m p) 5):=hb;have gx:zk prog ⟨bs,[]⟩ gl.g 5 (.ptr b (k / 8))=some (.int .u8 (oW p (k / 8):Nat)):=zt tj FO (by rw[zg];exact vJ hm)
 simp only[f109,fS];refine ja (tk:=[]) (by kernel_rfl) (by kernel_rfl) ?_
 simp only[List.replicate];simp only[BA,ak,aj,aq,aE,au,zd,ze,bS,bT,Og,Z5 hm,zhx (show k<2 ^ 60 by omega),zmf,zmg (show k % 8<8 by omega),gx,tj,zjE vD (X5 (show k % 8<8 by omega))]
 rw[zy Gk FO rfl rfl (by simp[yU];omega) (zq3 hm)]
 simp only[bu,aq,V.laid,Vm.storeCells,zq,Fx]
 rw[jR (by simp[V.top])]
 refine⟨trivial,[],rfl,rfl,?_⟩;rw[zn7,zn9];rfl
theorem Z7{p q i j:Nat}(h:i<=j):oW (p ||| q % 2 ^ (8 * i)) j=oW p j :=
 (Qw vD λk hk=>by
  rw[w4 hk,ud,Nat.testBit_mod_two_pow];have:¬(8 * j+k<8 * i):=by omega
  simp[this]).symm
theorem Z8{p q i j:Nat}(h:j<i):oW (p ||| q % 2 ^ (8 * i)) j=oW (p ||| q) j :=
 (Qw vD λk hk=>by
  rw[w4 hk,ud,ud,Nat.testBit_mod_two_pow];have:8 * j+k<8 * i:=by omega
  simp[this]).symm
theorem zoD{m p q i:Nat}(_h:i<m):(dL m (p ||| q % 2 ^ (8 * i))).set i (.int .u8 ((oW p i ||| oW q i:Nat):Int))=dL m (p ||| q % 2 ^ (8 * (i+1))):=by
 refine X6 (by rw[bD,yU]) λj hj=>?_
 rw[List.getElem?_set']
 by_cases e:i=j
 ·subst e;simp[vJ hj,zpU,Z8 (HW i)]
 ·simp only[e,bw,vJ hj];rcases eM j i with h1|h1
  ·rw[Z8 h1,Z8 (by omega)]
  ·rw[Z7 h1,Z7 (by omega)]
theorem Z9{H:Hp}{b o l c:Nat}:qX prog H 205 (.sr b o l c)=some (l:Int):=by simp only[qX,Jo]
theorem zk0(hg:GS gl){n m p q b c:Nat}(hm:m<2 ^ 40)(hq:q<2 ^ (8 * m))(cH:c≠b){bs:List aY}{es:aO}(hb:nth bs b=some (.cells (dL m p) 5))(hc:nth bs c=some (.cells (dL m q) 5))(hn:m<n) :
  zj prog gl (n+1) 151 [.sr b 0 m m,.sr c 0 m m] ⟨bs,es⟩=some (.ret (.br []),⟨bs.set b (.cells (dL m (p ||| q)) 5),es⟩):=by
 suffices bL:(go ⟨prog,gl,zj prog gl n,eu⟩ n (Fx prog f151.results.toList λw H1=>w=.br []/\H1=⟨bs.set b (.cells (dL m (p ||| q)) 5),[]⟩) [.c (f151.body.getD .skip)] .normal ⟨[.sr b 0 m m,.sr c 0 m m]++List.replicate 19 (.br []),⟨bs,[]⟩,[],[]⟩) by
  obtain⟨w,H1,h0,rfl,rfl⟩:=zQ (gl:=gl) (f:=151) (bs:=bs) (es:=es) (args:=[.sr b 0 m m,.sr c 0 m m]) (n:=n) (hg.hk _ _ (by decide)) (λH=>hg.fA _ _ _ _ (by decide)) func151 rfl (by rw[hg.uq];exact bL)
  rw[h0,show(V.br []).top=0 from rfl,U6]
 simp only[f151,fS,zh];refine zi ?_;simp only[List.replicate];simp only[BA,ak,aj,aq,zd,ze,bS,bT,Og,Z9]
 let Hi:Nat->Hp:=λi=>⟨bs.set b (.cells (dL m (p ||| q % 2 ^ (8 * i))) 5),[]⟩
 refine qj (λk s=>∃i env,k+i=m/\s=⟨env,Hi i,[],[]⟩/\env.length=21/\nth env 0=some (.sr b 0 m m)/\nth env 1=some (.sr c 0 m m)/\nth env 6=some (.int .i64 (m:Nat))/\nth env 7=some (.int .i64 (i:Nat))) m (by omega) ?_ ?_
 ·have Em:Hi 0=⟨bs,[]⟩:=by
   simp only[Hi,Nat.mul_zero,Nat.pow_zero,Nat.mod_one,Nat.or_zero];rw[jW hb]
  refine⟨0,_,rfl,by rw[Em],?_,?_,?_,?_,?_⟩<;>rfl
 rintro k s ⟨i,env,tX,rfl,hlen,h0,h1,h6,h7⟩;simp only[zh];refine zi ?_;simp only[BA,ak,aq,za,Nat.reduceLT,h6,h7,hlen,qT]
 by_cases hi:i<m
 ·refine .inl ⟨by simp;omega,?_⟩
  refine zi ?_;simp only[BA,Nat.reduceEqDiff,ak,aq,za,bD,Nat.reduceLT,bw,h7,hlen];refine ja (tk:=[]) (by kernel_rfl) (by kernel_rfl) ?_
  have FO:(Hi i).get b=some (.cells (dL m (p ||| q % 2 ^ (8 * i))) 5):=by
   have bR:b<bs.length:=by rw[zg] at hb;exact(cZ.1 hb).1
   show nth (bs.set b _) b=_;rw[zg,tL,if_pos rfl,if_pos bR]
  have hgc:(Hi i).get c=some (.cells (dL m q) 5):=by
   show nth (bs.set b _) c=_;rw[zg,tL,if_neg (Ne.symm cH),<- zg,hc]
  have gx:zk prog (Hi i) gl.g 5 (.ptr b i)=some (.int .u8 (oW p i:Nat)):=zt tj FO (by rw[zg,vJ hi,Z7 (dA _)])
  have FP:zk prog (Hi i) gl.g 5 (.ptr c i)=some (.int .u8 (oW q i:Nat)):=zt tj hgc (by rw[zg,vJ hi])
  simp only[BA,Nat.reduceEqDiff,ak,aq,aE,au,za,bD,Nat.reduceLT,bw,h0,h1,hlen,Og,Z5 hi,tj,gx,FP,zjE vD vD];rw[zy Gk FO rfl rfl (by simp[yU];omega) (zq3 hi)]
  simp only[bu,aq,V.laid,Vm.storeCells]
  rw[jR (by simp[V.top]),zoD hi]
  have hH:(Hi i).set b (.cells (dL m (p ||| q % 2 ^ (8 * (i+1)))) 5)=Hi (i+1):=by simp only[Hi,Hp.set,List.set_set]
  rw[hH];refine zi ?_;simp only[BA,Nat.reduceEqDiff,ak,aj,aq,za,bD,Nat.reduceLT,bw,h7,hlen,z6 (show i<2 ^ 60 by omega),zq,aN]
  refine⟨m - 1 - i,by omega,i+1,_,by omega,rfl,?_,?_,?_,?_,?_⟩<;>simp[za,hlen,h0,h1,h6]
 ·obtain rfl:i=m:=by omega
  refine .inr ⟨by simp,?_⟩
  simp only[qm,zN,zD,zq,bI,lK,aF,Fx]
  refine⟨trivial,[],rfl,rfl,?_⟩;simp only[Hi,Fb hq]
end Go.Proofs.YthohlnmcjkjeiaaGreatDoor
namespace Go.Vm
set_option maxRecDepth 100000
open Go
def Z_(cx:Cx)(H:Hp)(lk:aO)(df:bP)(env:aD):b_->Option aD->Option (OR×St)
 | some fv,some l=>aA lk df env (cx.mz (aV fv) l H)
 | _,_=>none
theorem wL{cx:Cx}{H:Hp}{lk:aO}{df:bP}{env:aD}{fv:V}{l:aD}:Z_ cx H lk df env (some fv) (some l)=aA lk df env (cx.mz (aV fv) l H):=rfl
theorem yM{cx:Cx}{takes:cg}{dst:fJ}{type:aB}{pos:String}{after:Array Edge}{guard:pI}{env:aD}{H:Hp}{lk:aO}{df:bP}{t:Tmp}{args:sg}{ts:Array aB} :
  cx.op takes ⟨dst,.call ⟨.value (.tmp t),args,ts⟩,type,pos,after,guard⟩ env H lk df=Z_ cx H lk df env (nth env t) (av env args.toList):=by
 simp only[Cx.op,ak];cases nth env t with
 | none=>rfl
 | some fv=>cases av env args.toList with
  | none=>rfl
  | some l=>simp only[Z_,aA];cases cx.mz (aV fv) l H with
   | none=>rfl
   | some q=>obtain⟨a,b⟩:=q;rfl
end Go.Vm
namespace Go.Proofs.YthohlnmcjkjeiaaGreatDoor
open Go Go.Vm
open Go.Proofs.Tryz
set_option maxRecDepth 100000
section
variable{gl:Gl}
theorem U7:prog.underlying 9=some .string:=by kernel_rfl
theorem u5':prog.underlying 5=some (.int .u8):=by kernel_rfl
theorem u3':prog.underlying 3=some (.int .i64):=by kernel_rfl
theorem zoE(hg:GS gl){n v:Nat}(hv:v<256)(h0:v≠0){H:Hp}:zj prog gl (n+1) 188 [.int .u8 (v:Nat)] H=some (.ret (.int .i64 (Bv v:Nat)),H):=by
 obtain⟨bs,es⟩:=H;have iD:zW bs.length es 0 ⟨bs,[]⟩=⟨bs,es⟩:=by
  have:=z9 (bs:=bs) (ls:=[]) (es:=es) (t:=0) (ec _)
  rwa [m7] at this
 suffices bL:(go ⟨prog,gl,zj prog gl n,eu⟩ n (Fx prog f188.results.toList λw H1=>w=.int .i64 (Bv v:Nat)/\H1=⟨bs,[]⟩) [.c (f188.body.getD .skip)] .normal ⟨[.int .u8 (v:Nat)]++List.replicate 5 (.br []),⟨bs,[]⟩,[],[]⟩) by
  obtain⟨w,H1,h0,rfl,rfl⟩:=zQ (gl:=gl) (f:=188) (bs:=bs) (es:=es) (args:=[.int .u8 (v:Nat)]) (n:=n) (hg.hk _ _ (by decide)) (λH=>hg.fA _ _ _ _ (by decide)) func188 rfl (by rw[hg.uq];exact bL)
  rw[h0];exact congrArg (λx=>some (Out.ret _,x)) iD
 simp only[f188,fS,zh];refine zi ?_;simp only[BA,aj,aq,bT];refine zi ?_;simp only[List.replicate];simp only[qx,zK,ak,zd,ze,zr,aM,aq,bS,bT,zR,zlU]
 generalize hs:aj _=sv;obtain⟨L,hL,hLz⟩:∃L,sv=some (.str L)/\∀v,v<256->v≠0->nth L v=some (Bv v):=by
  subst hs;refine⟨_,rfl,?_⟩;decide +kernel
 have iy:Bv v<2 ^ 60:=by
  have h8:∀v,v<256->Bv v<2 ^ 60:=by decide +kernel
  exact h8 v hv
 have Ce:Pg prog 9 (.str L) ((v:Nat):Int)=some (.int .u8 (Bv v:Nat)):=by
  simp only[Pg,U7,Ac,hLz v hv h0];simp
 have iT:vy prog 5 3 (.int .u8 (Bv v:Nat))=some (.int .i64 (Bv v:Nat)):=by
  simp only[vy,u5',u3',Option.bind_eq_bind,aT];rw[kT (by omega) (by omega)]
 subst hL;simp only[aE,Ce,zr,aM,aq];simp only[BA,ak,aq,zd,ze,bS,bT,vT (a:=5) (b:=3) (hm:=rfl),show eu (vi 5)=false from rfl,iT,go_ret]
 refine⟨rfl,[.int .i64 (Bv v:Nat)],?_,rfl,rfl⟩;simp only[zx,zd,ze]
def KG(w m:Nat):Nat->bM
 | 0=>[]
 | k+1=>(xQ (oW w (m - (k+1)))).map (8 * (m - (k+1)) + ·)++KG w m k
theorem zjX{w m:Nat}:∀k,k<=m->Om w m=Om w (m - k)++KG w m k
 | 0,_=>by simp[KG]
 | k+1,h=>by
  rw[zjX k (by omega),KG,show m - k=(m - (k+1))+1 by omega,Om,a_]
theorem zmO{w m:Nat}:KG w m m=wk m w:=by
 have:=zjX (w:=w) m (dA _);rw[Cu,zjD] at this;exact this.symm
theorem zef{cx:Cx}{F:FuncId}{caps args:aD}{H:Hp}(hc:caps.map aV=caps):cx.mz (.fn (.func F) [] caps) args H=cx.bB F (args.map aV++caps) H:=by
 simp[Cx.mz,eC,hc]
theorem zfg{P:aQ}{t:aB}{x y:aW}{b:Nat}(h:8 * b<2 ^ 60):qL P .mul t x y (some (.int .i64 8)) (some (.int .i64 b))=some (.int .i64 ((8 * b:Nat):Int)):=XY (a:=8) h
theorem zhT(hg:GS gl){n m w b:Nat}{F:FuncId}{caps:aD}(gG:caps.map aV=caps)(hm:m<2 ^ 40)(OB:m<n)(hn:300<=n)(I:bM->Hp->Prop)(dy:∀l H,I l H->H.get b=some (.cells (dL m w) 5))
  (mF:∀k l H,k<8 * m->I (k::l) H->∃H',Cx.bB ⟨prog,gl.g,zj prog gl n,eu⟩ F ([.int .i64 (k:Nat)]++caps) H=some (.val (.br []),H')/\I l H') {bs:List aY} {es:aO} (h0:I (wk m w) ⟨bs,[]⟩) :
  ∃H',zj prog gl (n+1) 148 [.sr b 0 m m,.fn (.func F) [] caps] ⟨bs,es⟩=some (.ret (.br []),zW bs.length es 0 H')/\I [] H':=by
 suffices bL:(go ⟨prog,gl,zj prog gl n,eu⟩ n (Fx prog f148.results.toList λw H1=>w=.br []/\I [] H1) [.c (f148.body.getD .skip)] .normal ⟨[.sr b 0 m m,.fn (.func F) [] caps]++List.replicate 25 (.br []),⟨bs,[]⟩,[],[]⟩) by
  obtain⟨w,H1,h0,rfl,h1⟩:=zQ (gl:=gl) (f:=148) (bs:=bs) (es:=es) (args:=[.sr b 0 m m,.fn (.func F) [] caps]) (n:=n) (hg.hk _ _ (by decide)) (λH=>hg.fA _ _ _ _ (by decide)) func148 rfl (by rw[hg.uq];exact bL)
  exact⟨H1,h0,h1⟩
 simp only[f148,fS,zh];refine zi ?_;simp only[List.replicate];simp only[BA,ak,aj,aq,zd,ze,bS,bT,Og,Z9]
 refine qj (λk s=>∃i env H,k+i=m/\s=⟨env,H,[],[]⟩/\I (KG w m k) H/\env.length=27/\nth env 1=some (.fn (.func F) [] caps)/\nth env 6=some (.sr b 0 m m)/\nth env 7=some (.int .i64 (m:Nat))/\nth env 8=some (.int .i64 (i:Nat))) m (by omega) ?_ ?_
 ·refine⟨0,_,_,rfl,rfl,by rw[zmO];exact h0,?_,?_,?_,?_,?_⟩<;>rfl
 rintro k s ⟨i,env,H,tX,rfl,hI,hlen,h1,h6,h7,h8⟩;simp only[zh];refine zi ?_;simp only[BA,ak,aq,za,Nat.reduceLT,h7,h8,hlen,qT]
 by_cases hi:i<m
 ·refine .inl ⟨by simp;omega,?_⟩
  obtain⟨k,rfl⟩:∃k',k=k'+1:=⟨k - 1,by omega⟩
  have P6:m - (k+1)=i:=by omega
  have um:I ((xQ (oW w i)).map (8 * i + ·)++KG w m k) H:=by rw[<- P6];exact hI
  have gx:zk prog H gl.g 5 (.ptr b i)=some (.int .u8 (oW w i:Nat)):=zt tj (dy _ _ hI) (by rw[zg,vJ hi])
  refine zi ?_;simp only[BA,Nat.reduceEqDiff,ak,aq,aE,za,bD,Nat.reduceLT,bw,h6,h8,hlen,Og,Z5 hi,gx]
  refine qj (λu s=>∃env H,s=⟨env,H,[],[]⟩/\u<256/\I ((xQ u).map (8 * i + ·)++KG w m k) H/\env.length=27/\nth env 1=some (.fn (.func F) [] caps)/\nth env 4=some (.int .i64 (i:Nat))/\nth env 5=some (.int .u8 (u:Nat))/\nth env 6=some (.sr b 0 m m)/\nth env 7=some (.int .i64 (m:Nat))/\nth env 8=some (.int .i64 (i:Nat))) (oW w i) (uc vD (by omega)) ?_ ?_
  ·refine⟨_,_,rfl,vD,um,?_,?_,?_,?_,?_,?_,?_⟩<;>simp[za,hlen,h1,h6,h7,h8]
  rintro u s ⟨bH,H2,rfl,hu,hI2,cI,g1,g4,g5,g6,g7,g8⟩;simp only[zh];refine zi ?_;simp only[BA,Nat.reduceEqDiff,ak,aj,aq,za,bD,Nat.reduceLT,bw,g5,cI,Qj]
  by_cases Dy:u=0
  ·subst Dy;refine .inr ⟨by simp,?_⟩
   simp only[qm,zN,zD,zq,bI,qD,lK,aF]
   refine zi ?_;simp only[BA,Nat.reduceEqDiff,ak,aj,aq,za,bD,Nat.reduceLT,bw,g8,cI,z6 (show i<2 ^ 60 by omega),zq,aN]
   refine⟨k,by omega,i+1,_,_,by omega,rfl,?_,?_,?_,?_,?_,?_⟩
   ·simpa[CQ] using hI2
   all_goals simp[za,cI,g1,g6,g7]
  ·refine .inl ⟨by simp;omega,?_⟩
   refine zi ?_;obtain⟨e1,e2⟩:=CP u hu Dy;rw[e1,bg,bh] at hI2;have hl8:Bv u<8:=by
    have:Bv u∈xQ u:=by rw[e1];exact eK ..
    simpa[xQ] using (D3.1 this).1
   obtain⟨H3,hc,hI3⟩:=mF (8 * i+Bv u) _ _ (by omega) hI2
   obtain⟨n',rfl⟩:∃n',n=n'+1:=⟨n - 1,by omega⟩
   have G1:=zoE hg (n:=n') hu Dy (H:=H2);have aad:Cx.bB ⟨prog,gl.g,zj prog gl (n'+1),eu⟩ 188 [.int .u8 (u:Nat)] H2=some (.val (.int .i64 (Bv u:Nat)),H2):=zu func188 rfl G1;simp only[bh,aZ] at hc;have hw:IntKind.i64.wrap (((8 * i:Nat):Int)+((Bv u:Nat):Int))=((8 * i+Bv u:Nat):Int):=by
    rw[kT (by omega) (by omega)];omega
   simp only[qx,aH,qD,zK,zV,kf,Nat.reduceEqDiff,av,qp,ak,aj,zr,aM,aq,zR,qM,aA,bg,bp,bh,aZ,aF,za,bD,Nat.reduceLT,aF,bw,g1,g4,g5,cI,yM,wL,show aV (V.fn (.func F) [] caps)=.fn (.func F) [] caps from rfl,zef gG,aad,zfg (show 8 * i<2 ^ 60 by omega),kg,hw,bh,aZ,hc]
   refine zi ?_;simp only[BA,Nat.reduceEqDiff,ak,aj,aq,za,bD,Nat.reduceLT,bw,g5,cI,zme Dy hu,zmd hu (show u - 1<256 by omega),zq,aN]
   refine⟨u &&& (u - 1),e2,_,_,rfl,by omega,hI3,?_,?_,?_,?_,?_,?_,?_⟩<;>simp[za,cI,g1,g4,g6,g7,g8]
 ·obtain rfl:i=m:=by omega
  obtain rfl:k=0:=by omega
  refine .inr ⟨by simp,?_⟩
  simp only[qm,zN,zD,zq,bI,lK,aF,Fx]
  exact⟨trivial,[],rfl,rfl,hI⟩
end
section
variable{gl:Gl}{P:aQ}{t:aB}{x y:aW}
def RT(q:A2.Q4):Nat->Int
 | 0=>q.1
 | 1=>q.2.1
 | 2=>q.2.2.1
 | _=>q.2.2.2
def C9(q:A2.Q4):Prop:=∀i,0<=RT q i/\RT q i<18446744073709551616
def EA(q:A2.Q4)(b:Nat):Bool:=(RT q (b / 64)).toNat.testBit (b % 64)
theorem zhU{b:Nat}(h:b<256):qL P .quo t x y (some (.int .u8 b)) (some (.int .u8 64))=some (.int .u8 ((b / 64:Nat):Int)):=by
 have e:(b:Int).tdiv 64=((b / 64:Nat):Int):=by
  rw[Int.tdiv_eq_ediv_of_nonneg (by omega)];omega
 simp only[qL,ju,w9,jY,aF];rw[e,Qx (by omega)]
 rfl
theorem zhV{b:Nat}(h:b<256):qL P .rem t x y (some (.int .u8 b)) (some (.int .u8 64))=some (.int .u8 ((b % 64:Nat):Int)):=by
 have e:(b:Int).tmod 64=((b % 64:Nat):Int):=by
  rw[Int.tmod_eq_emod_of_nonneg (by omega)];omega
 simp only[qL,ju,w9,jY,aF];rw[e];rfl
theorem zk1{a k:Nat}(_ha:a<2 ^ 64)(hk:k<64):qL P .shr t x y (some (.int .u64 a)) (some (.int .u8 k))=some (.int .u64 ((a / 2 ^ k:Nat):Int)):=by
 have h2:min ((k:Int).toNat) IntKind.u64.bits=k:=by
  have:IntKind.u64.bits=64:=rfl;rw[this,Ac];omega
 have h3:(a:Int).fdiv (2 ^ k)=((a / 2 ^ k:Nat):Int):=by
  rw[Int.fdiv_eq_ediv_of_nonneg _ (Int.le_of_lt (Int.pow_pos (by decide)))]
  simp
 simp only[qL,ju,w9,La,aF,show ¬((k:Int)<0) by omega,bw,h2,h3]
theorem zmQ{a k:Nat}:((a / 2 ^ k &&& 1:Nat):Int)=if a.testBit k then 1 else 0:=by
 have:a / 2 ^ k &&& 1=a / 2 ^ k % 2:=Nat.and_one_is_mod _;rw[this,Nat.testBit_eq_decide_div_mod_eq]
 by_cases h:a / 2 ^ k % 2=1
 ·simp[h]
 ·have:a / 2 ^ k % 2=0:=by omega
  simp[this]
theorem zmR{a:Nat}(ha:a<2 ^ 64):qL P .and t x y (some (.int .u64 a)) (some (.int .u64 1))=some (.int .u64 ((a &&& 1:Nat):Int)):=Ul (b:=1) ha (by decide)
theorem aae:prog.underlying 50=some (.array 4 48):=by kernel_rfl
theorem RU:z4 prog 48=some 1:=by kernel_rfl
theorem RV:qz prog 48=some false:=by kernel_rfl
theorem zjY(hg:GS gl){n b:Nat}{q:A2.Q4}(hq:C9 q)(hb:b<256){H:Hp}:zj prog gl (n+1) 110 [A2.qe q,.int .u8 (b:Nat)] H=some (.ret (.bool (EA q b)),H):=by
 obtain⟨bs,es⟩:=H;have iD:zW bs.length es 0 ⟨bs++[.cells (A2.qe q).laid 50],[]⟩=⟨bs,es⟩:=z9 (ec _)
 suffices bL:(go ⟨prog,gl,zj prog gl n,eu⟩ n (Fx prog f110.results.toList λw H1=>w=.bool (EA q b)/\H1=⟨bs++[.cells (A2.qe q).laid 50],[]⟩) [.c (f110.body.getD .skip)] .normal ⟨[A2.qe q,.int .u8 (b:Nat)]++List.replicate 12 (.br []),⟨bs,[]⟩,[],[]⟩) by
  obtain⟨w,H1,h0,rfl,rfl⟩:=zQ (gl:=gl) (f:=110) (bs:=bs) (es:=es) (args:=[A2.qe q,.int .u8 (b:Nat)]) (n:=n) (hg.hk _ _ (by decide)) (λH=>hg.fA _ _ _ _ (by decide)) func110 rfl (by rw[hg.uq];exact bL)
  rw[h0];exact congrArg (λx=>some (Out.ret _,x)) iD
 obtain⟨a,RX,M_⟩:∃a:Nat,RT q (b / 64)=(a:Int)/\a<2 ^ 64:=⟨(RT q (b / 64)).toNat,by have:=hq (b / 64);omega,by have:=hq (b / 64);omega⟩
 have Na:EA q b=a.testBit (b % 64):=by unfold EA;rw[RX];rfl
 have Y5:(A2.qe q).laid=[.int .u64 q.1,.int .u64 q.2.1,.int .u64 q.2.2.1,.int .u64 q.2.2.2]:=rfl;have Ce:zp prog 50 (.ptr bs.length 0) ((b / 64:Nat):Int)=some (.ptr bs.length (b / 64)):=by
  simp only[zp,aae,RU];rw[if_pos (by omega),Ac,JN,nY]
 have dy:(⟨bs++[.cells (A2.qe q).laid 50],[]⟩:Hp).get bs.length=some (.cells (A2.qe q).laid 50):=by
  show nth _ _=_;rw[zg,fI (dA _)];simp
 have gx:zk prog ⟨bs++[.cells (A2.qe q).laid 50],[]⟩ gl.g 48 (.ptr bs.length (b / 64))=some (.int .u64 (a:Nat)):=zt RV dy (by
  rw[<- RX,Y5];have:b / 64=0\/b / 64=1\/b / 64=2\/b / 64=3:=by omega
  rcases this with e|e|e|e<;>rw[e]<;>rfl)
 simp only[f110,fS,zh];refine zi ?_;have hqk:dz (A2.qe q)=true:=rfl;have uk:∀env t,qF env t (some (A2.qe q))=some (A2.qe q,env):=λ_ _=>rfl;simp only[BA,aj,aq,zc,zd,bS,bT,List.replicate,uk,z8 hqk];refine zi ?_
 simp only[BA,ak,aj,aq,aE,zd,ze,bS,bT,zhU hb,zhV hb,Ce,gx,zk1 M_ (show b % 64<64 by omega),zmR (show a / 2 ^ (b % 64)<2 ^ 64 from K7 (Nat.div_le_self _ _) M_),wO]
 simp only[go_ret,zq,Fx]
 refine⟨trivial,[.bool (EA q b)],?_,rfl,trivial⟩;simp only[zx,zd,ze,Na,zmQ];cases a.testBit (b % 64)<;>rfl
end
section
variable{gl:Gl}
theorem Nb:prog.underlying 26=some (.slice 50):=by kernel_rfl
theorem tn:prog.underlying 201=some (.slice 205):=by kernel_rfl
theorem Gm:z4 prog 50=some 4:=by kernel_rfl
theorem tq:z4 prog 205=some 1:=by kernel_rfl
theorem eS:qz prog 141=some false:=by kernel_rfl
theorem nh:qz prog 26=some false:=by kernel_rfl
theorem tu:qz prog 205=some false:=by kernel_rfl
theorem ig:qz prog 201=some false:=by kernel_rfl
theorem DK:qz prog 50=some true:=by kernel_rfl
theorem mb:zB prog 204 0=some 0:=by kernel_rfl
theorem DM:zB prog 204 1=some 4:=by kernel_rfl
theorem Az:zB prog 204 2=some 5:=by kernel_rfl
theorem DN:zB prog 204 3=some 261:=by kernel_rfl
theorem m4:zB prog 30 0=some 0:=by kernel_rfl
theorem AA:zB prog 30 2=some 2:=by kernel_rfl
theorem xK{H:Hp}{p:Bool×List A2.Q4}:qX prog H 26 (A2.qv p)=some ((p.2.length:Nat):Int):=by
 rcases Sx.bZ 4 p.1 (p.2.map A2.qe) with e|⟨e0,e⟩
 ·simp[A2.qv,e,qX]
 ·have:p.2=[]:=by simpa using e0
  rw[A2.qv,e,this];simp[qX]
theorem zmS{p:Bool×List A2.Q4}{k:Nat}{q:A2.Q4}(h:p.2[k]?=some q):zp prog 26 (A2.qv p) ((k:Nat):Int)=some (.vp (A2.qe q).cells):=by
 have hn:nth (p.2.map A2.qe) k=some (A2.qe q):=by rw[zg,iX,h];rfl
 have e:A2.qv p=.sl 4 (p.2.map A2.qe) .no:=by
  rcases Sx.bZ 4 p.1 (p.2.map A2.qe) with e|⟨e0,e⟩
  ·exact e
  ·have:p.2=[]:=by simpa using e0
   rw[this] at h;simp at h
 rw[e];simp only[zp,Nb,Gm,Ac,hn];simp
theorem zps{H:Hp}{q:A2.Q4}:zk prog H gl.g 50 (.vp (A2.qe q).cells)=some (A2.qe q):=by
 simp[zk,DK,Gm,A2.qe,V.cells,wg]
def cG(m c:Nat):V:=.sr c 0 m m
theorem zqf{m k c w:Nat}{nx:aO}(h:nx[k]?=some (c,w)):zp prog 201 (aV (zl 1 205 (nx.map λp=>cG m p.1))) ((k:Nat):Int)=some (.vp [cG m c]):=by
 have hn:nth (nx.map λp=>cG m p.1) k=some (cG m c):=by rw[zg,iX,h];rfl
 cases hx:nx.map λp=>cG m p.1 with
 | nil=>rw[hx] at hn;simp[zg] at hn
 | cons a l =>
  rw[hx] at hn;simp only[zl,aV,zp,tn,tq,Ac,hn];simp[cG,V.cells]
theorem zpt{H:Hp}{m c:Nat}:zk prog H gl.g 205 (.vp [cG m c])=some (cG m c):=by
 simp[zk,tu,wg,cG,zg]
structure LB(B:List aY)(bm a1 a2 a3 c m q b:Nat)(f:A2.F)(nx:aO):Prop where
 A:∃t,nth B a1=some (.cells [.ptr bm 0] t)
 Y:∃t,nth B a2=some (.cells [.int .u8 (b:Nat)] t)
 D:∃t,nth B a3=some (.cells [cG m c] t)
 Q:nth B c=some (.cells (dL m q) 5)
 M:∃mc t,nth B bm=some (.cells mc t)/\nth mc 0=some (A2.qv f.s)/\nth mc 4=some (zl 1 205 (nx.map λp=>cG m p.1))
 X:∀p∈nx,nth B p.1=some (.cells (dL m p.2) 5)/\p.2<2 ^ (8 * m)/\p.1≠c
def xd(f:A2.F)(nx:aO)(b k q:Nat):Nat :=
 match f.s.2[k]?,nx[k]? with
 | some s,some p=>if EA s b then q ||| p.2 else q
 | _,_=>q
theorem ziM(hg:GS gl){n bm a1 a2 a3 c m q b k:Nat}{f:A2.F}{nx:aO}(hs:∀q∈f.s.2,C9 q)(hb:b<256)(_hk:k<2 ^ 40)(hm:m<2 ^ 40)(hn:m<n)(Hu:nx.length=f.s.2.length){B:List aY}{es:aO}(h:LB B bm a1 a2 a3 c m q b f nx) :
  zj prog gl (n+1+1) 150 [.int .i64 (k:Nat),.ptr a1 0,.ptr a2 0,.ptr a3 0] ⟨B,es⟩=some (.ret (.br []),⟨B.set c (.cells (dL m (xd f nx b k q)) 5),es⟩):=by
 suffices bL:(go ⟨prog,gl,zj prog gl (n+1),eu⟩ (n+1) (Fx prog f150.results.toList λw H1=>w=.br []/\H1=⟨B.set c (.cells (dL m (xd f nx b k q)) 5),[]⟩) [.c (f150.body.getD .skip)] .normal ⟨[.int .i64 (k:Nat),.ptr a1 0,.ptr a2 0,.ptr a3 0]++List.replicate 30 (.br []),⟨B,[]⟩,[],[]⟩) by
  obtain⟨w,H1,h0,rfl,rfl⟩:=zQ (gl:=gl) (f:=150) (bs:=B) (es:=es) (args:=[.int .i64 (k:Nat),.ptr a1 0,.ptr a2 0,.ptr a3 0]) (n:=n+1) (hg.hk _ _ (by decide)) (λH=>hg.fA _ _ _ _ (by decide)) func150 rfl (by rw[hg.uq];exact bL)
  rw[h0,show(V.br []).top=0 from rfl,U6]
 obtain⟨tA,hA⟩:=h.A;obtain⟨tY,hY⟩:=h.Y;obtain⟨tD,hD⟩:=h.D;obtain⟨mc,tM,hM,DO,hM4⟩:=h.M;have lA:zk prog ⟨B,[]⟩ gl.g 141 (.ptr a1 0)=some (.ptr bm 0):=zt eS hA rfl;have lY:zk prog ⟨B,[]⟩ gl.g 5 (.ptr a2 0)=some (.int .u8 (b:Nat)):=zt tj hY rfl;have lD:zk prog ⟨B,[]⟩ gl.g 205 (.ptr a3 0)=some (cG m c):=zt tu hD rfl
 have lS:zk prog ⟨B,[]⟩ gl.g 26 (.ptr bm 0)=some (A2.qv f.s):=zt nh hM DO;have lN:zk prog ⟨B,[]⟩ gl.g 201 (.ptr bm 4)=some (zl 1 205 (nx.map λp=>cG m p.1)):=zt ig hM hM4;simp only[f150,fS,zh];refine ja (tk:=[]) (by kernel_rfl) (by kernel_rfl) ?_
 by_cases RY:k<f.s.2.length
 ·obtain⟨s,Bi⟩:∃s,f.s.2[k]?=some s:=⟨_,gj RY⟩;obtain⟨⟨cn,wn⟩,Hq⟩:∃p,nx[k]?=some p:=⟨_,gj (by omega)⟩
  have hsq:C9 s:=hs s (nB Bi);have dj:Cx.bB ⟨prog,gl.g,zj prog gl (n+1),eu⟩ 110 [A2.qe s,.int .u8 (b:Nat)] ⟨B,[]⟩=some (.val (.bool (EA s b)),⟨B,[]⟩):=zu func110 rfl (zjY hg hsq hb);have hd:decide (((k:Nat):Int)<((f.s.2.length:Nat):Int))=true:=by simp;omega
  have U8:aV (A2.qe s)=A2.qe s:=rfl;simp only[BA,av,ak,aj,aq,aa,ah,aE,aA,au,zd,ze,bS,bT,j4,qg,jm,cA,wJ,List.replicate,lA,lY,lS,eS,nh,tj,DK,mb,m4,A2.eo,xK,qT,hd,zmS Bi,zps,U8,dj]
  have hX:=h.X _ (nB Hq);have hjc:Cx.bB ⟨prog,gl.g,zj prog gl (n+1),eu⟩ 151 [cG m c,cG m cn] ⟨B,[]⟩=some (.val (.br []),⟨B.set c (.cells (dL m (q ||| wn)) 5),[]⟩):=zu func151 rfl (zk0 hg hm hX.2.1 hX.2.2 h.Q hX.1 hn)
  have ni:∀c,aV (cG m c)=cG m c:=λ_=>rfl;cases hh:EA s b with
  | true =>
   simp only[]
   refine .inl ⟨trivial,?_⟩;refine ja (tk:=[]) (by kernel_rfl) (by kernel_rfl) ?_
   simp only[BA,av,ak,aq,aa,ah,aE,aA,au,zd,ze,bS,bT,lA,lD,lN,eS,tu,ig,DM,ni,zqf Hq,zpt,hjc];simp only[zq,Fx]
   first|refine⟨rfl,[],rfl,rfl,?_⟩|refine⟨trivial,[],rfl,rfl,?_⟩|refine⟨[],rfl,rfl,?_⟩
   simp[xd,Bi,Hq,hh]
  | false =>
   simp only[]
   refine .inr ⟨by first|rfl|trivial,?_⟩
   simp only[zq,Fx]
   first|refine⟨rfl,[],rfl,rfl,?_⟩|refine⟨trivial,[],rfl,rfl,?_⟩|refine⟨[],rfl,rfl,?_⟩
   simp[xd,Bi,Hq,hh,jW h.Q]
 ·have hd:decide (((k:Nat):Int)<((f.s.2.length:Nat):Int))=false:=by simp;omega
  simp only[BA,av,ak,aj,aq,aa,ah,aE,aA,au,zd,ze,bS,bT,j4,qg,jm,cB,wK,List.replicate,lA,lY,lS,eS,nh,tj,DK,mb,m4,A2.eo,xK,qT,hd];refine .inr ⟨by first|rfl|trivial,?_⟩
  simp only[]
  first|refine⟨rfl,[],rfl,rfl,?_⟩|refine⟨trivial,[],rfl,rfl,?_⟩|refine⟨[],rfl,rfl,?_⟩
  simp[xd,uI (Nat.le_of_not_lt RY),jW h.Q]
def Cj(f:A2.F)(nx:aO)(b:Nat)(l:bM)(q:Nat):Nat:=l.foldl (λq k=>xd f nx b k q) q
end
section
variable{gl:Gl}
theorem U9{cx:Cx}{takes:cg}{dst:fJ}{type:aB}{pos:String}{after:Array Edge}{guard:pI}{env:aD}{H:Hp}{lk:aO}{df:bP}{fn:Fn}{first cap:sg} :
  cx.op takes ⟨dst,.makeFunc fn first cap,type,pos,after,guard⟩ env H lk df=iz env H lk df ((av env first.toList).bind λa=>(av env cap.toList).bind λc=>some (.fn fn a c)):=by
 simp only[Cx.op];exact vS rfl
theorem zmT{cx:Cx}{x:aW}{type:aB}{pos:String}{after:Array Edge}{guard:pI}{env:aD}{H:Hp}{lk:aO}{df:bP}:cx.op [] ⟨none,.move x,type,pos,after,guard⟩ env H lk df=iz env H lk df (ak env x):=by
 simp only[Cx.op];exact vS rfl
theorem Nc:prog.underlying 28=some (.slice 27):=by kernel_rfl
theorem oE:qz prog 28=some false:=by kernel_rfl
theorem iS:qz prog 3=some false:=by kernel_rfl
theorem uA:z4 prog 3=some 1:=by kernel_rfl
theorem U_:qP prog 3=some (.int .i64 0):=by kernel_rfl
theorem RZ:qP prog 205=some .aG:=by kernel_rfl
theorem R1{H:Hp}{p:A2.gJ}:qX prog H 28 (A2.rv p)=some ((p.2.length:Nat):Int):=by
 rcases Sx.bZ 1 p.1 (p.2.map A2.iv) with e|⟨e0,e⟩
 ·simp[A2.rv,e,qX]
 ·have:p.2=[]:=by simpa using e0
  rw[A2.rv,e,this];simp[qX]
def EZ(ns:Nat)(k:Nat)(z:Int):Int:=if ns<=k/\z<0 then (k:Int) - ns else z
theorem ziN(hg:GS gl){n bm a1 a2 k:Nat}{z:Int}{f:A2.F}{tA tZ tM:aB}{mc:aD}(hk:k<2 ^ 40)(oN:f.s.2.length<2 ^ 40){B:List aY}{es:aO}(hA:nth B a1=some (.cells [.ptr bm 0] tA))(hZ:nth B a2=some (.cells [.int .i64 z] tZ))(hM:nth B bm=some (.cells mc tM))(DO:nth mc 0=some (A2.qv f.s))(_hz:-1<=z/\z<2 ^ 40) :
  zj prog gl (n+1) 149 [.int .i64 (k:Nat),.ptr a1 0,.ptr a2 0] ⟨B,es⟩=some (.ret (.br []),⟨B.set a2 (.cells [.int .i64 (EZ f.s.2.length k z)] tZ),es⟩):=by
 suffices bL:(go ⟨prog,gl,zj prog gl n,eu⟩ n (Fx prog f149.results.toList λw H1=>w=.br []/\H1=⟨B.set a2 (.cells [.int .i64 (EZ f.s.2.length k z)] tZ),[]⟩) [.c (f149.body.getD .skip)] .normal ⟨[.int .i64 (k:Nat),.ptr a1 0,.ptr a2 0]++List.replicate 21 (.br []),⟨B,[]⟩,[],[]⟩) by
  obtain⟨w,H1,h0,rfl,rfl⟩:=zQ (gl:=gl) (f:=149) (bs:=B) (es:=es) (args:=[.int .i64 (k:Nat),.ptr a1 0,.ptr a2 0]) (n:=n) (hg.hk _ _ (by decide)) (λH=>hg.fA _ _ _ _ (by decide)) func149 rfl (by rw[hg.uq];exact bL)
  rw[h0,show(V.br []).top=0 from rfl,U6]
 have lA:zk prog ⟨B,[]⟩ gl.g 141 (.ptr a1 0)=some (.ptr bm 0):=zt eS hA rfl;have lZ:zk prog ⟨B,[]⟩ gl.g 3 (.ptr a2 0)=some (.int .i64 z):=zt iS hZ rfl;have lS:zk prog ⟨B,[]⟩ gl.g 26 (.ptr bm 0)=some (A2.qv f.s):=zt nh hM DO;simp only[f149,fS,zh];refine zi ?_
 by_cases RY:f.s.2.length<=k
 ·have hd:decide (((f.s.2.length:Nat):Int)<=((k:Nat):Int))=true:=by simp;omega
  simp only[BA,ak,aj,aq,aa,ah,zd,ze,bS,bT,jZ,qg,jm,cA,wJ,List.replicate,lA,lZ,lS,mb,m4,A2.eo,xK,qT,T6,ge_iff_le,hd]
  by_cases KH:z<0
  ·refine .inl ⟨by simpa using KH,?_⟩
   refine zi ?_;have hw:IntKind.i64.wrap (((k:Nat):Int) - ((f.s.2.length:Nat):Int))=((k:Nat):Int) - ((f.s.2.length:Nat):Int):=kT (by omega) (by omega)
   have hgZ:(⟨B,[]⟩:Hp).get a2=some (.cells [.int .i64 z] tZ):=hZ;simp only[BA,ak,aq,aa,ah,zd,ze,bS,bT,lA,lS,mb,m4,A2.eo,xK,kD,hw];rw[zy uA hgZ rfl rfl (by simp) rfl,jR (by simp[V.top])]
   simp only[bu,aq,V.laid,Vm.storeCells,zq,Fx]
   first|refine⟨rfl,[],rfl,rfl,?_⟩|refine⟨trivial,[],rfl,rfl,?_⟩|refine⟨[],rfl,rfl,?_⟩
   simp only[EZ,if_pos (And.intro RY KH)];rfl
  ·refine .inr ⟨by simpa using KH,?_⟩
   simp only[zq,Fx]
   first|refine⟨rfl,[],rfl,rfl,?_⟩|refine⟨trivial,[],rfl,rfl,?_⟩|refine⟨[],rfl,rfl,?_⟩
   rw[EZ,if_neg (λe=>KH e.2),jW hZ]
 ·have hd:decide (((f.s.2.length:Nat):Int)<=((k:Nat):Int))=false:=by simp;omega
  simp only[BA,ak,aj,aq,aa,ah,zd,ze,bS,bT,jZ,qg,jm,cB,wK,List.replicate,lA,lZ,lS,mb,m4,A2.eo,xK,qT,T6,ge_iff_le,hd];refine .inr ⟨by first|rfl|trivial,?_⟩
  simp only[]
  first|refine⟨rfl,[],rfl,rfl,?_⟩|refine⟨trivial,[],rfl,rfl,?_⟩|refine⟨[],rfl,rfl,?_⟩
  rw[EZ,if_neg (λe=>RY e.1),jW hZ]
def wl(ns:Nat)(l:bM)(z:Int):Int:=l.foldl (λz k=>EZ ns k z) z
theorem zjZ{ns k:Nat}{z:Int}(h:-1<=z/\z<2 ^ 40)(hk:k<2 ^ 40):-1<=EZ ns k z/\EZ ns k z<2 ^ 40:=by
 unfold EZ;split<;>omega
theorem zj0{m w k:Nat}(h:k∈wk m w):k<8 * m:=by
 simpa using (D3.1 h).1
theorem zk2(hg:GS gl){n bm b m w:Nat}{f:A2.F}{tM:aB}{mc:aD}(hm:m<2 ^ 36)(OB:m<n)(hn:300<=n)(oN:f.s.2.length<2 ^ 40){bs:List aY}{es:aO}(hM:nth bs bm=some (.cells mc tM))(DO:nth mc 0=some (A2.qv f.s))(hb:nth bs b=some (.cells (dL m w) 5)) :
  zj prog gl (n+1+1+1) 112 [.ptr bm 0,cG m b] ⟨bs,es⟩=some (.ret (.int .i64 (wl f.s.2.length (wk m w) (-1))),⟨bs,es⟩):=by
 have iU:b<bs.length:=by rw[zg] at hb;exact(cZ.1 hb).1
 have B_:bm<bs.length:=by rw[zg] at hM;exact(cZ.1 hM).1
 let Hz:Int->List aY:=λz=>bs++[.cells [.ptr bm 0] 141,.cells [.int .i64 z] 3]
 have g1:∀z,nth (Hz z) bs.length=some (.cells [.ptr bm 0] 141):=λz=>by
  show nth _ _=_;rw[zg,fI (dA _)];simp
 have g2:∀z,nth (Hz z) (bs.length+1)=some (.cells [.int .i64 z] 3):=λz=>by
  show nth _ _=_;rw[zg,fI (by omega)];simp
 have gO:∀z d,d<bs.length->nth (Hz z) d=nth bs d:=λz d hd=>by
  show nth _ _=_;rw[zg,zg,gb hd]
 have sj:∀z y,(Hz z).set (bs.length+1) (.cells [.int .i64 y] 3)=Hz y:=λz y=>by
  show(bs++_).set _ _=_;rw[Aa _ _ (by omega)];simp[Hz]
 let I:bM->Hp->Prop:=λl H=>(∀k∈l,k<8 * m)/\∃z iC,-1<=z/\z<2 ^ 40/\H=⟨Hz z,iC⟩/\iC=[]/\wl f.s.2.length l z=wl f.s.2.length (wk m w) (-1)
 have Gn:=zhT hg (F:=149) (caps:=[.ptr bs.length 0,.ptr (bs.length+1) 0]) (m:=m) (w:=w) (b:=b) (n:=n+1) rfl (by omega) (by omega) (by omega) I (λl H hI=>by
   obtain⟨_,z,iC,_,_,rfl,_,_⟩:=hI;exact(gO z b iU).trans hb) (λk l H hk hI=>by
   obtain⟨hl,z,iC,z1,z2,rfl,rfl,hz⟩:=hI;have pM:k<2 ^ 40:=by omega
   refine⟨⟨Hz (EZ f.s.2.length k z),[]⟩,zu func149 rfl ?_,λj hj=>hl j (dU _ hj),_,[],(zjZ ⟨z1,z2⟩ pM).1,(zjZ ⟨z1,z2⟩ pM).2,rfl,rfl,?_⟩
   ·have:=ziN hg (n:=n) (es:=[]) pM oN (g1 z) (g2 z) ((gO z bm B_).trans hM) DO ⟨z1,z2⟩;rw[sj] at this;exact this
   ·rw[<- hz];rfl) (bs:=Hz (-1)) (es:=[]) ⟨λk hk=>zj0 hk,-1,[],by omega,by omega,rfl,rfl,rfl⟩
 obtain⟨H',dj,_,zf,iC,zf1,zf2,rfl,rfl,hzf⟩:=Gn;have Gp:zW (Hz (-1)).length [] 0 ⟨Hz zf,[]⟩=⟨Hz zf,[]⟩:=by
  have:=z9 (bs:=Hz zf) (ls:=[]) (es:=[]) (t:=0) (ec _);rw[m7] at this;rw[show(Hz (-1)).length=(Hz zf).length by simp[Hz]]
  exact this
 rw[Gp] at dj;have hcF:Cx.bB ⟨prog,gl.g,zj prog gl (n+1+1),eu⟩ 148 [cG m b,.fn (.func 149) [] [.ptr bs.length 0,.ptr (bs.length+1) 0]] ⟨Hz (-1),[]⟩=some (.val (.br []),⟨Hz zf,[]⟩):=zu func148 rfl dj;have Nd:zf=wl f.s.2.length (wk m w) (-1):=hzf
 suffices bL:(go ⟨prog,gl,zj prog gl (n+1+1),eu⟩ (n+1+1) (Fx prog f112.results.toList λw H1=>w=.int .i64 zf/\H1=⟨Hz zf,[]⟩) [.c (f112.body.getD .skip)] .normal ⟨[.ptr bm 0,cG m b]++List.replicate 8 (.br []),⟨bs,[]⟩,[],[]⟩) by
  obtain⟨w,H1,h0,rfl,rfl⟩:=zQ (gl:=gl) (f:=112) (bs:=bs) (es:=es) (args:=[.ptr bm 0,cG m b]) (n:=n+1+1) (hg.hk _ _ (by decide)) (λH=>hg.fA _ _ _ _ (by decide)) func112 rfl (by rw[hg.uq];exact bL)
  rw[h0,<- Nd];have:=z9 (bs:=bs) (ls:=[.cells [.ptr bm 0] 141,.cells [.int .i64 zf] 3]) (es:=es) (t:=0) (ec _);exact congrArg (λx=>some (Out.ret _,x)) this
 simp only[f112,fS,zh];refine zi ?_;simp only[BA,aj,aq,zc,Nat.reduceAdd,zd,bS,bT,List.replicate,z8 (v:=.ptr bm 0) rfl];refine zi ?_;have hgN:(⟨bs++[.cells [.ptr bm 0] 141,.cells [.int .i64 0] 3],[]⟩:Hp).get (bs.length+1)=some (.cells [.int .i64 0] 3):=g2 0
 have hV:V.laid (.ptr bm 0)=[.ptr bm 0]:=rfl;simp only[BA,ak,aj,aq,zc,zd,ze,bS,bT,hV,U_,zJ (show dz (V.int .i64 0)=true from rfl),V.cells];rw[zy uA hgN rfl rfl (by simp) rfl,jR (by simp[V.top])]
 have RB:(⟨bs++[.cells [.ptr bm 0] 141,.cells [.int .i64 0] 3],[]⟩:Hp).set (bs.length+1) (.cells (Vm.storeCells [.int .i64 0] 0 (V.laid (.int .i64 (-1)))) 3)=⟨Hz (-1),[]⟩:=congrArg (λx=>Hp.mk x []) (sj 0 (-1));rw[RB];simp only[bu,aq]
 refine zi ?_;have ni:∀c,aV (cG m c)=cG m c:=λ_=>rfl;have Aw:∀a c,aV (V.fn (.func 149) a c)=.fn (.func 149) a c:=λ_ _=>rfl;simp only[BA,av,ak,aq,aA,zd,ze,bS,bT,U9,ni,Aw,hcF];refine zi ?_
 have lZ:zk prog ⟨Hz zf,[]⟩ gl.g 3 (.ptr (bs.length+1) 0)=some (.int .i64 zf):=zt iS (g2 zf) rfl;simp only[BA,ak,aq,zd,ze,bS,bT,lZ,go_ret]
 first|refine⟨rfl,[.int .i64 zf],?_,rfl,rfl⟩|refine⟨trivial,[.int .i64 zf],?_,rfl,trivial⟩|refine⟨trivial,[.int .i64 zf],?_,rfl,rfl⟩|refine⟨rfl,[.int .i64 zf],?_,rfl,trivial⟩
 simp only[zx,zd,ze]
theorem zk3(hg:GS gl){n bm b m w y:Nat}{f:A2.F}{nx:aO}{tM:aB}{mc:aD}(hm:m<2 ^ 36)(OB:m<n)(hn:300<=n)(hy:y<256)(hs:∀q∈f.s.2,C9 q)(oN:f.s.2.length<2 ^ 36)(hnf:f.f.2.length<2 ^ 36)(Ir:m=(f.s.2.length+f.f.2.length) / 8+1)(Hu:nx.length=f.s.2.length){bs:List aY}{es:aO}
  (hM:nth bs bm=some (.cells mc tM)) (DO:nth mc 0=some (A2.qv f.s)) (R3:nth mc 2=some (A2.rv f.f)) (hM4:nth mc 4=some (zl 1 205 (nx.map λp=>cG m p.1))) (hX:∀p∈nx,nth bs p.1=some (.cells (dL m p.2) 5)/\p.2<2 ^ (8 * m)) (hb:nth bs b=some (.cells (dL m w) 5)) :
  zj prog gl (n+1+1+1+1) 114 [.ptr bm 0,cG m b,.int .u8 (y:Nat)] ⟨bs,es⟩=some (.ret (cG m (bs.length+2)),⟨bs++[.cells [.ptr bm 0] 141,.cells [.int .u8 (y:Nat)] 5,.cells (dL m (Cj f nx y (wk m w) 0)) 5,.cells [cG m (bs.length+2)] 205],es⟩):=by
 have iU:b<bs.length:=by rw[zg] at hb;exact(cZ.1 hb).1
 have B_:bm<bs.length:=by rw[zg] at hM;exact(cZ.1 hM).1
 let Hz:Nat->List aY:=λq=>bs++[.cells [.ptr bm 0] 141,.cells [.int .u8 (y:Nat)] 5,.cells (dL m q) 5,.cells [cG m (bs.length+2)] 205]
 have gA:∀z,nth (Hz z) bs.length=some (.cells [.ptr bm 0] 141):=λz=>by
  show nth _ _=_;rw[zg,fI (dA _)];simp
 have gY:∀z,nth (Hz z) (bs.length+1)=some (.cells [.int .u8 (y:Nat)] 5):=λz=>by
  show nth _ _=_;rw[zg,fI (by omega)];simp
 have gQ:∀z,nth (Hz z) (bs.length+2)=some (.cells (dL m z) 5):=λz=>by
  show nth _ _=_;rw[zg,fI (by omega)];simp
 have gD:∀z,nth (Hz z) (bs.length+3)=some (.cells [cG m (bs.length+2)] 205):=λz=>by
  show nth _ _=_;rw[zg,fI (by omega)];simp
 have gO:∀z d,d<bs.length->nth (Hz z) d=nth bs d:=λz d hd=>by
  show nth _ _=_;rw[zg,zg,gb hd]
 have sj:∀z q,(Hz z).set (bs.length+2) (.cells (dL m q) 5)=Hz q:=λz q=>by
  show(bs++_).set _ _=_;rw[Aa _ _ (by omega)];simp[Hz]
 have hlb:∀q,LB (Hz q) bm bs.length (bs.length+1) (bs.length+3) (bs.length+2) m q y f nx:=λq =>
  ⟨⟨_,gA q⟩,⟨_,gY q⟩,⟨_,gD q⟩,gQ q,⟨mc,tM,(gO q bm B_).trans hM,DO,hM4⟩,λp hp=>by
   obtain⟨h1,h2⟩:=hX p hp;have bR:p.1<bs.length:=by rw[zg] at h1;exact(cZ.1 h1).1
   exact⟨(gO q _ bR).trans h1,h2,by omega⟩⟩
 let I:bM->Hp->Prop:=λl H=>(∀k∈l,k<8 * m)/\∃q,H=⟨Hz q,[]⟩/\Cj f nx y l q=Cj f nx y (wk m w) 0
 have Gn:=zhT hg (F:=150) (caps:=[.ptr bs.length 0,.ptr (bs.length+1) 0,.ptr (bs.length+3) 0]) (m:=m) (w:=w) (b:=b) (n:=n+1+1) rfl (by omega) (by omega) (by omega) I (λl H hI=>by
   obtain⟨_,q,rfl,_⟩:=hI;exact(gO q b iU).trans hb) (λk l H hk hI=>by
   obtain⟨hl,q,rfl,hz⟩:=hI;refine⟨⟨Hz (xd f nx y k q),[]⟩,zu func150 rfl ?_,λj hj=>hl j (dU _ hj),_,rfl,?_⟩
   ·have:=ziM hg (n:=n) (es:=[]) (k:=k) hs hy (by omega) (by omega) OB Hu (hlb q)
    rw[sj] at this;exact this
   ·rw[<- hz];rfl) (bs:=Hz 0) (es:=[]) ⟨λk hk=>zj0 hk,0,rfl,rfl⟩
 obtain⟨H',dj,_,qf,rfl,hzf⟩:=Gn;have Gp:zW (Hz 0).length [] 0 ⟨Hz qf,[]⟩=⟨Hz qf,[]⟩:=by
  have:=z9 (bs:=Hz qf) (ls:=[]) (es:=[]) (t:=0) (ec _);rw[m7] at this;rw[show(Hz 0).length=(Hz qf).length by simp[Hz]]
  exact this
 rw[Gp] at dj;have hcF:Cx.bB ⟨prog,gl.g,zj prog gl (n+1+1+1),eu⟩ 148 [cG m b,.fn (.func 150) [] [.ptr bs.length 0,.ptr (bs.length+1) 0,.ptr (bs.length+3) 0]] ⟨Hz 0,[]⟩=some (.val (.br []),⟨Hz qf,[]⟩):=zu func148 rfl dj;have Nd:qf=Cj f nx y (wk m w) 0:=hzf
 suffices bL:(go ⟨prog,gl,zj prog gl (n+1+1+1),eu⟩ (n+1+1+1) (Fx prog f114.results.toList λw H1=>w=cG m (bs.length+2)/\H1=⟨Hz qf,[]⟩) [.c (f114.body.getD .skip)] .normal ⟨[.ptr bm 0,cG m b,.int .u8 (y:Nat)]++List.replicate 23 (.br []),⟨bs,[]⟩,[],[]⟩) by
  obtain⟨w,H1,h0,rfl,rfl⟩:=zQ (gl:=gl) (f:=114) (bs:=bs) (es:=es) (args:=[.ptr bm 0,cG m b,.int .u8 (y:Nat)]) (n:=n+1+1+1) (hg.hk _ _ (by decide)) (λH=>hg.fA _ _ _ _ (by decide)) func114 rfl (by rw[hg.uq];exact bL)
  rw[h0,<- Nd,yL (by simp only[V.top,cG];omega)]
  rfl
 simp only[f114,fS,zh];refine zi ?_;simp only[BA,aj,aq,zc,Nat.reduceAdd,zd,ze,bS,bT,List.replicate,z8 (v:=.ptr bm 0) rfl,z8 (v:=.int .u8 (y:Nat)) rfl];refine zob (tk:=[]) rfl rfl (by kernel_rfl) (by kernel_rfl) (by simp) (by kernel_rfl) ?_
 simp only[List.reverse_cons,List.reverse_nil,aZ,bh,De];have hV:V.laid (.ptr bm 0)=[.ptr bm 0]:=rfl;have hV':V.laid (.int .u8 (y:Nat))=[.int .u8 (y:Nat)]:=rfl;simp only[hV,hV'];obtain⟨KI,Jp⟩:∃x:List aY,x=bs++[.cells [.ptr bm 0] 141,.cells [.int .u8 (y:Nat)] 5]:=⟨_,rfl⟩;rw[<- Jp];have g2:∀d,d<bs.length->nth KI d=nth bs d:=λd hd=>by
  rw[Jp,zg,zg,gb hd]
 have hgA:(⟨KI,[]⟩:Hp).get bs.length=some (.cells [.ptr bm 0] 141):=by
  show nth _ _=_;rw[Jp,zg,fI (dA _)];simp
 have hgM:(⟨KI,[]⟩:Hp).get bm=some (.cells mc tM):=(g2 bm B_).trans hM;have lA:zk prog ⟨KI,[]⟩ gl.g 141 (.ptr bs.length 0)=some (.ptr bm 0):=zt eS hgA rfl;have lS:zk prog ⟨KI,[]⟩ gl.g 26 (.ptr bm 0)=some (A2.qv f.s):=zt nh hgM DO;have lF:zk prog ⟨KI,[]⟩ gl.g 28 (.ptr bm 2)=some (A2.rv f.f):=zt oE hgM R3
 have Ae:Cx.bB ⟨prog,gl.g,zj prog gl (n+3),eu⟩ 108 [.int .i64 ((f.s.2.length+f.f.2.length:Nat):Int)] ⟨KI,[]⟩=some (.val (cG m (bs.length+2)),⟨bs++[.cells [.ptr bm 0] 141,.cells [.int .u8 (y:Nat)] 5,.cells (dL m 0) 5],[]⟩):=by
  refine zu func108 rfl ?_;have:=xw hg (n:=n+2) (k:=f.s.2.length+f.f.2.length) (by omega) (bs:=KI) (es:=[])
  rw[<- Ir] at this;rw[this];simp[Jp,cG]
 simp only[BA,av,ak,aj,aq,aa,ah,aA,au,zd,ze,bS,bT,zmT,lA,lS,lF,eS,nh,oE,mb,m4,AA,A2.eo,A2.bJ,xK,R1,xr (show f.s.2.length+f.f.2.length<2 ^ 60 by omega),Ae]
 simp only[zq,zpl];refine⟨trivial,cG m (bs.length+2),_,1,.aG,rfl,tq,RZ,rfl,rfl,rfl,rfl,?_⟩;have F8:(bs++[aY.cells [.ptr bm 0] 141,.cells [.int .u8 (y:Nat)] 5,.cells (dL m 0) 5]).length=bs.length+3:=by simp
 have hHz:(⟨bs++([aY.cells [.ptr bm 0] 141,.cells [.int .u8 (y:Nat)] 5,.cells (dL m 0) 5]++[.cells (V.laid (cG m (bs.length+2))) 205]),[]⟩:Hp)=⟨Hz 0,[]⟩:=rfl;simp only[bS,bT,zb,F8];rw[hHz];refine zi ?_;have ni:∀c,aV (cG m c)=cG m c:=λ_=>rfl;have eZ:∀c env t,qF env t (some (cG m c))=some (cG m c,env):=λ_ _ _=>rfl
 have Aw:∀a c,aV (V.fn (.func 150) a c)=.fn (.func 150) a c:=λ_ _=>rfl;simp only[BA,av,ak,aq,aA,zd,ze,bS,bT,U9,ni,Aw,hcF];refine zi ?_
 have lD:zk prog ⟨Hz qf,[]⟩ gl.g 205 (.ptr (bs.length+3) 0)=some (cG m (bs.length+2)):=zt tu (gD qf) rfl;simp only[BA,ak,aq,zd,ze,bS,bT,lD,ni,eZ,go_ret]
 first|refine⟨rfl,[cG m (bs.length+2)],?_,rfl,rfl⟩|refine⟨trivial,[cG m (bs.length+2)],?_,rfl,trivial⟩|refine⟨trivial,[cG m (bs.length+2)],?_,rfl,rfl⟩|refine⟨rfl,[cG m (bs.length+2)],?_,rfl,trivial⟩
 simp only[zx,zd,ze]
end
end Go.Proofs.YthohlnmcjkjeiaaGreatDoor
namespace Go.Proofs.YthohlnmcjkjeiaaGreatDoor.A2
open Go Go.Vm Go.Vm.Sx
open Go.Proofs.Tryz
set_option maxRecDepth 100000
section
set_option linter.unusedSectionVars false
variable{gl:Gl}
end
section
set_option linter.unusedSectionVars false
variable{gl:Gl}
def pg(n:Nat)(rules:List Int)(iw:Int)(l:List Int)(i:Nat):Bool :=
 bif (i == 0 || !lO (gi l i) (gi l (i - 1))) && !cJ (gi l i) 0 then (bif gi l i == (n:Int)+iw then true else bif lO (n:Int) (gi l i) then false else gi rules (gi l i).toNat == iw) else false
end
section
set_option linter.unusedSectionVars false
variable{gl:Gl}
theorem zk4{l:List Int}(h:nQ l=true){j:Nat}(hj:j+1<l.length):gi l j<=gi l (j+1):=by
 have:=bX.1 h (l.length - 1 - (j+1)) (by omega)
 simp only[Dd] at this;have e1:l.length - 1 - (l.length - 1 - (j+1))=j+1:=by omega
 rw[e1] at this;have e2:j+1 - 1=j:=by omega
 rw[e2] at this;simpa[cJ] using this
theorem pU{l : List Int}(h : nQ l = true) : ∀{j i : Nat}, i <= j -> j < l.length -> gi l i <= gi l j
  | 0, i, hi, _ => by have : i = 0 := by omega
                      subst this; exact Int.le_refl _
  | j + 1, i, hi, hj => by
    rcases eM i (j + 1) with h1 | h1
    · exact Int.le_trans (pU h (by omega) (by omega)) (zk4 h hj)
    · have : i = j + 1 := by omega
      subst this; exact Int.le_refl _
def nR(n:Nat)(r:List Int)(fs ns:List (List Int)):Bool :=
 bif kU (λi=>kU (pg n r (i:Int) (gr fs i)) (gr fs i).length) fs.length then kU (λi=>kU (pg n r (gi r i) (gr ns i)) (gr ns i).length) n else false
def EC(n:Nat)(r:List Int)(fs ns:List (List Int)):Bool :=
 bif (((cJ 1000 (n:Int) || cJ 200 (fs.length:Int)) || !((r.length:Int) == (n:Int))) || !((ns.length:Int) == (n:Int))) then false else
 bif nQ r then bif cJ 0 (n:Int) then bif !cJ (gi r 0) 0 then bif lO (fs.length:Int) (gi r (n - 1)) then false else nR n r fs ns else false else nR n r fs ns else false
end
section
set_option maxHeartbeats 1000000
variable{gl:Gl}{ez:bM}
theorem zq4(hg:GK gl ez)(h:ez.any (Nat.beq 147)=false)(x:Int):mY 2 prog gl 147 [.int .i64 x] (.bool false):=by
 refine vz hg func147 rfl h rfl 1 λn hn bs=>?_;simp only[f147,zh];refine rg ?_;simp only[BW,List.replicate];refine rg ?_;simp only[BW,bne,beq_self_eq_true];exact fz rfl ⟨rfl,[],by simp⟩
theorem zq5(hg:GK gl ez)(h:ez.any (Nat.beq 147)=false)(h1:ez.any (Nat.beq 107)=false)(x y:Int):mY 3 prog gl 107 [.int .i64 x,.int .i64 y] (.bool (cJ x y)):=by
 refine vz hg func107 rfl h1 rfl 2 λn hn bs=>?_;have c:∀H,Cx.bB ⟨prog,gl.g,zj prog gl n,nU⟩ 147 [.int .i64 x] H=some (.val (.bool false),H):=jt func147 rfl (zq4 hg h x n hn);simp only[f107,zh];refine rg ?_;simp only[BW,Nat.reduceAdd,List.replicate];refine rg ?_;simp only[BW,c]
 exact fz rfl ⟨rfl,[],by simp⟩
theorem zrx(hg:GK gl ez)(h:ez.any (Nat.beq 147)=false)(h1:ez.any (Nat.beq 107)=false)(h2:ez.any (Nat.beq 69)=false)(p:bW)(hp:p.2.length * 8<=reachBytes):mY (p.2.length+6) prog gl 69 [iv p] (.bool (nQ p.2)):=by
 have hr:=eV;refine vz hg func69 rfl h2 rfl (p.2.length+5) λn hn bs=>?_;simp only[f69,zh];refine rg ?_;simp only[BW,List.replicate];refine rg ?_;have Em:IntKind.i64.wrap ((p.2.length:Int) - 1)=(p.2.length:Int) - 1 - ((0:Nat):Int):=by rw[Ke (by omega) (by omega)];simp
 simp only[BW,kP,bC,kD,Em];refine qj (λm st=>∃k env,m+k=p.2.length/\st=⟨env,⟨bs,[]⟩,[],[]⟩/\Ks 21 [(0,iv p),(3,.int .i64 ((p.2.length:Int) - 1 - (k:Nat)))] env/\∀j,j<k->(!cJ (gi p.2 (p.2.length - 1 - j)) (gi p.2 (p.2.length - 1 - j - 1)))=true) p.2.length (by omega) ⟨0,_,rfl,rfl,gE rfl,λj h=>by omega⟩ ?_
 rintro m st ⟨k,env,Ds,rfl,⟨j,rfl⟩,di⟩;simp only[sh,sG,Nat.reduceBEq,Nat.reduceAdd,mS,oJ];simp only[zh];refine rg ?_
 by_cases hk:(0:Int)<(p.2.length:Int) - 1 - (k:Int)
 ·simp only[BW,gt_iff_lt,hk];refine ja (tk:=[]) (by kernel_rfl) (by kernel_rfl) ?_
  have e0:(p.2.length:Int) - 1 - (k:Int)=((p.2.length - 1 - k:Nat):Int):=by omega
  have Bi:IntKind.i64.wrap ((p.2.length:Int) - 1 - (k:Int) - 1)=((p.2.length - 1 - k - 1:Nat):Int):=by rw[Ke (by omega) (by omega)];omega
  have g1:=w8 (p:=p) (i:=p.2.length - 1 - k) (by omega)
  have g2:=w8 (p:=p) (i:=p.2.length - 1 - k - 1) (by omega)
  rw[<- e0] at g1;have c:∀H,Cx.bB ⟨prog,gl.g,zj prog gl n,nU⟩ 107 [.int .i64 (gi p.2 (p.2.length - 1 - k)),.int .i64 (gi p.2 (p.2.length - 1 - k - 1))] H=some (.val (.bool (cJ (gi p.2 (p.2.length - 1 - k)) (gi p.2 (p.2.length - 1 - k - 1)))),H):=jt func107 rfl (zq5 hg h h1 _ _ n (by omega))
  cases hc:cJ (gi p.2 (p.2.length - 1 - k)) (gi p.2 (p.2.length - 1 - k - 1)) with
  | true =>
   rw[hc] at c;simp only[BW,bC,g1,g2,fG,xc,kD,Bi,c];refine rg ?_;simp only[BW];have hb:nQ p.2=false:=by
    unfold nQ;rw[<- GR,bX];intro hx;have:=hx k (by omega)
    rw[hc] at this;cases this
   exact fz rfl ⟨by rw[hb],[],by simp⟩
  | false =>
   rw[hc] at c;simp only[BW,bC,g1,g2,fG,xc,kD,Bi,c];refine rg ?_;have Pp:IntKind.i64.wrap ((p.2.length:Int) - 1 - (k:Int) - 1)=(p.2.length:Int) - 1 - ((k+1:Nat):Int):=by rw[Ke (by omega) (by omega)];omega
   simp only[BW,kD,Pp]
   exact⟨m - 1,by omega,k+1,_,by omega,rfl,gE rfl,λj hj=>by
    rcases eM j k with h|h
    ·exact di j h
    ·obtain rfl:j=k:=by omega
     rw[hc];rfl⟩
 ·simp only[BW,gt_iff_lt,hk];refine rg ?_;simp only[BW]
  exact fz rfl ⟨by
   have hb:nQ p.2=true:=bX.2 λj hj=>di j (by omega)
   rw[hb],[],by simp⟩
theorem zry(hg:GK gl ez)(h70:ez.any (Nat.beq 70)=false)(n0:Nat)(f:F)(Be:f.r.2.length=n0)(p:bW)(hp:WI p)(iw:Int)(hw:IntKind.i64.wrap ((n0:Int)+iw)=(n0:Int)+iw){n:Nat}(hn:p.2.length+2<=n){bs:List aY}{es:aO}{b1 b2:Nat}(e1:nth bs b1=some (.cells [.int .i64 (n0:Nat)] 3))(e2:nth bs b2=some (.cells (fc f) 30)) :
  zj prog gl n 70 [iv p,.int .i64 iw,.ptr b1 0,.ptr b2 0] ⟨bs,es⟩=some (.ret (.bool (kU (pg n0 f.r.2 iw p.2) p.2.length)),⟨bs,es⟩):=by
 have hr:=eV;have Ii:=hp.1;obtain⟨n,rfl⟩:∃k,n=k+1:=⟨n - 1,by omega⟩
 refine zqT hg func70 rfl h70 rfl ?_;have l1:zk prog ⟨bs,[]⟩ gl.g 3 (.ptr b1 0)=some (.int .i64 (n0:Nat)):=zt fG e1 rfl;have l2:zk prog ⟨bs,[]⟩ gl.g 27 (.ptr b2 1)=some (iv f.r):=zt iu e2 rfl;simp only[f70,zh];refine rg ?_;simp only[BW,Nat.reduceAdd,List.replicate];refine rg ?_
 simp only[BW,kP,bC];refine qj (λm st=>∃i env,m+i=p.2.length/\st=⟨env,⟨bs,[]⟩,[],[]⟩/\Ks 53 [(0,iv p),(1,.int .i64 iw),(2,.ptr b1 0),(3,.ptr b2 0),(9,iv p),(10,.int .i64 (p.2.length:Nat)),(11,.int .i64 (i:Nat))] env/\∀j,j<i->pg n0 f.r.2 iw p.2 j=true) p.2.length (by omega) ⟨0,_,rfl,rfl,gE rfl,λj h=>by omega⟩ ?_
 rintro m st ⟨i,env,tX,rfl,⟨j,rfl⟩,di⟩;simp only[sh,sG,Nat.reduceBEq,Nat.reduceAdd,mS,oJ];simp only[zh];refine rg ?_;simp only[BW,qi]
 by_cases hi:i<p.2.length
 ·refine .inl ⟨by simp;omega,?_⟩
  have g1:=w8 hi;have g2:=w8 (p:=p) (i:=i - 1) (by omega)
  refine rg ?_;simp only[BW,bC,g1,xc];obtain⟨B,hB⟩:∃B,B=pg n0 f.r.2 iw p.2 i:=⟨_,rfl⟩;refine MG 53 [(0,iv p),(1,.int .i64 iw),(2,.ptr b1 0),(3,.ptr b2 0),(9,iv p),(10,.int .i64 (p.2.length:Nat)),(11,.int .i64 (i:Nat)),(51,.bool (!B))] ?_ λenv ⟨j,e⟩=>?_
  ·refine rg ?_;unfold pg at hB;generalize gi p.2 i=x at g1 hB ⊢
   by_cases iG:0<i/\x<=gi p.2 (i - 1)
   ·obtain⟨c3,c4⟩:=iG;obtain rfl:B=false:=by rw[hB];simp[lO,c4,show i≠0 by omega]
    have lR:IntKind.i64.wrap ((i:Int) - 1)=((i - 1:Nat):Int):=by rw[Ke (by omega) (by omega)];omega
    simp only[BW,gt_iff_lt,show(0:Int)<(i:Int) by omega,kD,lR,bC,g2,xc,ge_iff_le,c4]
    exact⟨_,rfl,gE rfl⟩
   have gv:(i == 0 || !lO x (gi p.2 (i - 1)))=true:=by
    rcases HU i with rfl|c3
    ·rfl
    ·have:¬x<=gi p.2 (i - 1):=λh=>iG ⟨c3,h⟩;simp[lO,this]
   rw[gv,tP] at hB;have lR:0<(i:Int)->IntKind.i64.wrap ((i:Int) - 1)=((i - 1:Nat):Int):=λ_=>by rw[Ke (by omega) (by omega)];omega
   rcases (show(¬(0:Int)<(i:Int)/\¬(i:Int)<0)\/((0:Int)<(i:Int)/\¬x<=gi p.2 (i - 1)) by
    rcases HU i with rfl|c3
    ·exact .inl ⟨by omega,by omega⟩
    ·exact .inr ⟨by omega,λh=>iG ⟨c3,h⟩⟩) with⟨c4,c5⟩|⟨c4,c5⟩
   all_goals
    by_cases a1:x<0
    ·obtain rfl:B=false:=by rw[hB];simp[cJ,a1]
     simp only[BW,gt_iff_lt,c4,c5,kD,lR,bC,g2,xc,a1];exact⟨_,rfl,gE rfl⟩
    cases a2:x == (n0:Int)+iw with
    | true =>
     obtain rfl:B=true:=by rw[hB,a2];simp[cJ,a1]
     simp only[BW,gt_iff_lt,c4,c5,kD,lR,bC,g2,xc,a1,l1,kg,hw,bne,a2];exact⟨_,rfl,gE rfl⟩
    | false =>
    by_cases a3:(n0:Int)<=x
    ·obtain rfl:B=false:=by rw[hB,a2];simp[cJ,lO,a1,a3]
     simp only[BW,gt_iff_lt,c4,c5,kD,lR,bC,g2,xc,ge_iff_le,a1,l1,kg,hw,bne,a2,a3];exact⟨_,rfl,gE rfl⟩
    obtain⟨y,rfl⟩:∃y:Nat,x=y:=⟨x.toNat,by omega⟩
    have g3:=w8 (p:=f.r) (i:=y) (by omega)
    obtain rfl:B=(gi f.r.2 y == iw):=by rw[hB,a2];simp[cJ,lO,a1,a3]
    simp only[BW,gt_iff_lt,c4,c5,kD,lR,bC,g2,xc,ge_iff_le,a1,l1,kg,hw,bne,a2,a3,iM,l2,g3];exact⟨_,rfl,gE rfl⟩
  subst e;simp only[sh,sG,Nat.reduceBEq,Nat.reduceAdd,mS,oJ];cases B with
  | false =>
   simp only[BW];refine rg ?_;simp only[BW];have hb:kU (pg n0 f.r.2 iw p.2) p.2.length=false:=by
    rw[<- GR,bX];exact λh=>by rw[h i hi] at hB;cases hB
   exact fz rfl ⟨by rw[hb],[],by simp⟩
  | true =>
   simp only[BW];refine rg ?_;simp only[BW,z6 (show i<2 ^ 60 by omega)]
   exact⟨m - 1,by omega,i+1,_,by omega,rfl,gE rfl,λj hj=>by
    rcases eM j i with h|h
    ·exact di j h
    ·obtain rfl:j=i:=by omega
     exact hB.symm⟩
 ·obtain rfl:i=p.2.length:=by omega
  refine .inr ⟨by simp,?_⟩
  refine rg ?_;simp only[BW];exact fz (v:=.bool true) rfl ⟨by rw[bX.2 di],[],by simp⟩
end
section
set_option maxHeartbeats 2000000
variable{gl:Gl}{ez:bM}
theorem R4:prog.underlying 26=some (.slice 50):=by kernel_rfl
theorem KJ:qz prog 26=some false:=by kernel_rfl
theorem zj1{H:Hp}{p:Bool×List Q4}:qX prog H 26 (qv p)=some (p.2.length:Int):=by
 unfold qv;rcases bZ 4 p.1 (p.2.map qe) with h|⟨h0,h⟩<;>rw[h]
 ·simp[qX]
 ·simp only[HS] at h0;simp[qX,h0]
section
variable{bs:List aY}{es:aO}{cs:aD}{ty t:aB}{g:Nat->Nat->b_}{off:Nat}{z w:Int}{y:aY}{env:aD}{df:bP}
theorem Ck(ha:qz prog t=some false):zk prog ⟨bs++[.cells cs ty,y],es⟩ g t (.ptr bs.length off)=nth cs off:=by
 have hg:(⟨bs++[.cells cs ty,y],es⟩:Hp).get bs.length=some (.cells cs ty):=by
  show nth _ _=_;rw[zg,fI (dA _)];simp
 cases h:nth cs off with
 | some v=>exact zt ha hg h
 | none=>simp[zk,qu,ha,hg,h,wT]
theorem Va{x:aY}:nth (bs++[x,y]) (bs.length+1)=some y:=by
 rw[zg,fI (by omega),show bs.length+1 - bs.length=1 by omega];rfl
theorem Jq{x:aY}:zk prog ⟨bs++[x,.cells [.int .i64 z] 3],es⟩ g 3 (.ptr (bs.length+1) 0)=some (.int .i64 z):=zt (cs:=[.int .i64 z]) (ty:=3) fG Va rfl
theorem zrz{x:aY}:qr prog 3 ⟨bs++[x,.cells [.int .i64 z] 3],es⟩ [] df (some (.int .i64 w,env)) (some (.ptr (bs.length+1) 0))=some (.skip,⟨env,⟨bs++[x,.cells [.int .i64 w] 3],es⟩,[],df⟩):=by
 rw[zy (H:=⟨bs++[x,.cells [.int .i64 z] 3],es⟩) (b:=bs.length+1) (cs:=[.int .i64 z]) (ty:=3) Jd (show _=_ from Va) rfl rfl (by simp) (wj rfl (by simp)),jR (ec _)]
 simp only[Hp.set];rw[Aa _ _ (by omega),show bs.length+1 - bs.length=1 by omega]
 rfl
end
theorem HE(f:F):nth (fc f) 0=some (qv f.s)/\nth (fc f) 1=some (iv f.r)/\nth (fc f) 2=some (rv f.f)/\nth (fc f) 3=some (rv f.n):=⟨rfl,rfl,rfl,rfl⟩
def zpu(ez:bM):Bool:=[147,107,69,70,24].all (λf=>!ez.any (Nat.beq f))
theorem aak(hg:GK gl ez)(eH:zpu ez=true)(f:F)(hf:WF f):Kn prog gl 24 [fv f] (.bool (EC f.s.2.length f.r.2 (rowsOf f.f) (rowsOf f.n))):=by
 simp only[zpu,List.all_cons,List.all_nil,Bool.and_true,d_,Dd] at eH;obtain⟨aal,aam,n69,n70,n24⟩:=eH;have Hf:(2000:Nat)<=reachBytes:=by decide
 have Rf:=eV;have aan:=hf.r.1;refine⟨_,vz hg func24 rfl n24 rfl (reachBytes+10) λn hn bs=>?_⟩;have Xs:=hf.fi.1;have cH:=hf.ne.1;simp only[f24,zh];refine rg ?_;simp only[BW,List.replicate,OL,z8 (Zl f),UQ];have hz:(V.int .i64 0).cells=[.int .i64 0]:=rfl
 have la:zk prog ⟨bs++[.cells (fc f) 30],[]⟩ gl.g 26 (.ptr bs.length 0)=some (qv f.s):=eW KJ;have lb:zk prog ⟨bs++[.cells (fc f) 30],[]⟩ gl.g 28 (.ptr bs.length 2)=some (rv f.f):=eW lJ;have lc:∀z,zk prog ⟨bs++[.cells (fc f) 30,.cells [.int .i64 z] 3],[]⟩ gl.g 26 (.ptr bs.length 0)=some (qv f.s):=λz=>Ck KJ
 have ld:∀z,zk prog ⟨bs++[.cells (fc f) 30,.cells [.int .i64 z] 3],[]⟩ gl.g 28 (.ptr bs.length 2)=some (rv f.f):=λz=>Ck lJ;refine wY (tk:=[]) (by kernel_rfl) ?_
 apply Exists.intro;apply And.intro;refine oF 0 (.ptr bs.length 0) (by simp only[BW,iM]) ?_
 dsimp only[aq]
 refine oL 1 (qv f.s) (by simp only[BW,la,eo]) (λc h=>by cases h) ?_
 dsimp only[aq]
 refine oL 3 (.int .i64 (f.s.2.length:Nat)) (by simp only[BW,zj1,eo]) (λc h=>by cases h) ?_
 dsimp only[aq]
 refine oF 0 (.ptr bs.length 2) (by simp only[BW,iM]) ?_
 dsimp only[aq]
 refine oL 8 (rv f.f) (by simp only[BW,lb,bJ]) (λc h=>by cases h) ?_
 dsimp only[aq]
 refine oL 24 (.int .i64 (f.f.2.length:Nat)) (by simp only[BW,jX,bJ]) (λc h=>by cases h) ?_
 dsimp only[aq]
 refine ziE (m:=0) (v:=.ptr (bs.length+1) 0) (H1:=⟨bs++[.cells (fc f) 30,.cells [.int .i64 0] 3],[]⟩) (cK:=_) (eB:=[]) (eA:=[]) (cs':=[⟨64,⟨bs++[.cells (fc f) 30,.cells [.int .i64 0] 3],[]⟩,[],[]⟩,⟨0,⟨bs++[.cells (fc f) 30],[]⟩,[],[]⟩]) (by kernel_rfl) rfl (by simp only[BW,Zr,zJ (show dz (.int .i64 0)=true from rfl),hz];rfl) (by kernel_rfl) (by kernel_rfl) (by kernel_rfl) (λK=>j5 (by kernel_rfl) rfl (λc h=>by cases h) (zhQ λq hq=>?_)) ?_
 ·simp only[dG,A8,AM] at hq;rcases hq with rfl|rfl|rfl|rfl|rfl|rfl
  ·refine .inr ⟨rfl,.inr (.inr ?_)⟩;simp only[jr];exact OJ (by simp only[BW,jX,bJ];rfl)
  ·refine .inr ⟨rfl,.inr (.inr ?_)⟩;simp only[jr];exact OJ (by simp only[BW,ld,bJ];rfl)
  ·exact .inr ⟨rfl,.inl rfl⟩
  ·refine .inr ⟨rfl,.inr (.inr ?_)⟩;simp only[jr];exact OJ (by simp only[BW,zj1,eo];rfl)
  ·refine .inr ⟨rfl,.inr (.inr ?_)⟩;simp only[jr];exact OJ (by simp only[BW,lc,eo];rfl)
  ·exact .inr ⟨rfl,.inl rfl⟩
 dsimp only[aq]
 refine vg (m:=71) (H1:=⟨bs++[.cells (fc f) 30,.cells [.int .i64 (f.s.2.length:Nat)] 3],[]⟩) (cK:=_) (eB:=[]) (eA:=[]) (cs':=[⟨192,⟨bs++[.cells (fc f) 30,.cells [.int .i64 (f.s.2.length:Nat)] 3],[]⟩,[],[]⟩,⟨64,⟨bs++[.cells (fc f) 30,.cells [.int .i64 0] 3],[]⟩,[],[]⟩,⟨0,⟨bs++[.cells (fc f) 30],[]⟩,[],[]⟩]) (by kernel_rfl) rfl (by simp only[BW,zrz];rfl) (by kernel_rfl) (by kernel_rfl) (λK=>j5 (by kernel_rfl) rfl (λc h=>by rw[oG.1 h];kernel_rfl) (zhQ λq hq=>?_)) ?_
 ·simp only[dG,A8,AM] at hq;rcases hq with rfl|rfl|rfl|rfl|rfl|rfl|rfl
  ·exact .inl ⟨rfl,by kernel_rfl⟩
  ·refine .inr ⟨rfl,.inr (.inr ?_)⟩;simp only[jr];exact OJ (by simp only[BW,jX,bJ];rfl)
  ·refine .inr ⟨rfl,.inr (.inr ?_)⟩;simp only[jr];exact OJ (by simp only[BW,ld,bJ];rfl)
  ·exact .inr ⟨rfl,.inl rfl⟩
  ·exact .inr ⟨rfl,.inr (.inl (by kernel_rfl))⟩
  ·exact .inr ⟨rfl,.inr (.inl (by kernel_rfl))⟩
  ·exact .inr ⟨rfl,.inl rfl⟩
 dsimp only[aq]
 refine oF 255 (.int .i64 (f.f.2.length:Nat)) (by simp only[BW]) wZ
 simp only[aq,zh];have hch:EC f.s.2.length f.r.2 (rowsOf f.f) (rowsOf f.n)=bif (((cJ 1000 (f.s.2.length:Int) || cJ 200 (f.f.2.length:Int)) || !((f.r.2.length:Int) == (f.s.2.length:Int))) || !((f.n.2.length:Int) == (f.s.2.length:Int))) then false else
   bif nQ f.r.2 then bif cJ 0 (f.s.2.length:Int) then bif !cJ (gi f.r.2 0) 0 then bif lO (f.f.2.length:Int) (gi f.r.2 (f.s.2.length - 1)) then false else nR f.s.2.length f.r.2 (rowsOf f.f) (rowsOf f.n) else false else nR f.s.2.length f.r.2 (rowsOf f.f) (rowsOf f.n) else false:=by
  simp only[EC,ep]
 rw[hch];refine rg ?_;have Vb:∀H,Cx.bB ⟨prog,gl.g,zj prog gl n,nU⟩ 69 [iv f.r] H=some (.val (.bool (nQ f.r.2)),H):=jt func69 rfl (zrx hg aal aam n69 f.r aan n (by omega))
 by_cases c1:(1000:Int)<f.s.2.length
 ·simp only[BW,Jq,gt_iff_lt,c1];refine rg ?_;simp only[BW];exact fz rfl ⟨by simp[cJ,c1],_,rfl⟩
 by_cases c2:(200:Int)<f.f.2.length
 ·simp only[BW,Jq,gt_iff_lt,c1,c2];refine rg ?_;simp only[BW];exact fz rfl ⟨by simp[cJ,c2],_,rfl⟩
 cases c3:((f.r.2.length:Int) == (f.s.2.length:Int)) with
 | false =>
  simp only[BW,Jq,gt_iff_lt,c1,c2,iM,Ck iu,HE,bC,kP,bne,c3];refine rg ?_;simp only[BW];exact fz rfl ⟨by simp,_,rfl⟩
 | true =>
 cases c4:((f.n.2.length:Int) == (f.s.2.length:Int)) with
 | false =>
  simp only[BW,Jq,gt_iff_lt,c1,c2,iM,Ck iu,HE,Ck lJ,bC,bJ,kP,jX,bne,c3,c4];refine rg ?_;simp only[BW];exact fz rfl ⟨by simp,_,rfl⟩
 | true =>
 cases c5:nQ f.r.2 with
 | false =>
  rw[c5] at Vb;simp only[BW,Jq,gt_iff_lt,c1,c2,iM,Ck iu,HE,Ck lJ,bC,bJ,kP,jX,bne,c3,c4,Vb,iH];refine rg ?_;simp only[BW];exact fz rfl ⟨by simp,_,rfl⟩
 | true =>
 rw[c5] at Vb;simp only[BW,Jq,gt_iff_lt,c1,c2,iM,Ck iu,HE,Ck lJ,bC,bJ,kP,jX,bne,c3,c4,Vb,iH];have FA:f.r.2.length=f.s.2.length:=by have:=eq_of_beq c3;omega
 have oN:f.n.2.length=f.s.2.length:=by have:=eq_of_beq c4;omega
 simp only[show cJ 1000 (f.s.2.length:Int)=false by simp[cJ,c1],show cJ 200 (f.f.2.length:Int)=false by simp[cJ,c2],Bool.or_self,oJ,mS]
 obtain⟨B,hB⟩:∃B,B=(cJ 0 (f.s.2.length:Int) && (cJ (gi f.r.2 0) 0 || lO (f.f.2.length:Int) (gi f.r.2 (f.s.2.length - 1)))):=⟨_,rfl⟩
 have G0:(bif cJ 0 (f.s.2.length:Int) then bif !cJ (gi f.r.2 0) 0 then bif lO (f.f.2.length:Int) (gi f.r.2 (f.s.2.length - 1)) then false else nR f.s.2.length f.r.2 (rowsOf f.f) (rowsOf f.n) else false else nR f.s.2.length f.r.2 (rowsOf f.f) (rowsOf f.n))=(!B && nR f.s.2.length f.r.2 (rowsOf f.f) (rowsOf f.n)):=by
  rw[hB];cases cJ 0 (f.s.2.length:Int)<;>cases cJ (gi f.r.2 0) 0<;>cases lO (f.f.2.length:Int) (gi f.r.2 (f.s.2.length - 1))<;>simp
 rw[G0];refine MG 94 [(1,.ptr bs.length 0),(3,.ptr (bs.length+1) 0),(60,.bool B)] ?_ λenv ⟨j,e⟩=>?_
 ·refine rg ?_
  by_cases d1:(0:Int)<f.s.2.length
  ·have g1:=w8 (p:=f.r) (i:=0) (by omega)
   have g2:=w8 (p:=f.r) (i:=f.s.2.length - 1) (by omega)
   have lR:IntKind.i64.wrap ((f.s.2.length:Int) - 1)=((f.s.2.length - 1:Nat):Int):=by rw[Ke (by omega) (by omega)];omega
   have g1':zp prog 27 (iv f.r) 0=some (.vp [.int .i64 (gi f.r.2 0)]):=g1
   by_cases d2:gi f.r.2 0<0
   ·obtain rfl:B=true:=by rw[hB];simp only[cJ,lO,d1,d2,decide_true,tP,Bool.true_or]
    simp only[BW,Jq,gt_iff_lt,d1,iM,Ck iu,HE,bC,g1',xc,d2];exact⟨_,rfl,gE rfl⟩
   ·obtain rfl:B=decide ((f.f.2.length:Int)<=gi f.r.2 (f.s.2.length - 1)):=by rw[hB];simp only[cJ,lO,d1,d2,decide_true,decide_false,tP,uM]
    simp only[BW,Jq,gt_iff_lt,d1,iM,Ck iu,HE,bC,g1',xc,d2,kD,lR,g2,ge_iff_le];exact⟨_,rfl,gE rfl⟩
  ·obtain rfl:B=false:=by rw[hB];simp only[cJ,d1,decide_false,Fe]
   simp only[BW,Jq,gt_iff_lt,d1];exact⟨_,rfl,gE rfl⟩
 subst e;simp only[sh,sG,Nat.reduceBEq,Nat.reduceAdd,mS,oJ];cases B with
 | true =>
  simp only[BW];refine rg ?_;simp only[BW];exact fz rfl ⟨rfl,_,rfl⟩
 | false =>
 have R5:∀i,i<f.s.2.length->0<=gi f.r.2 i/\gi f.r.2 i<(f.f.2.length:Int):=λi hi=>by
  have h1:=pU c5 (i:=0) (j:=i) (by omega) (by omega)
  have h2:=pU c5 (i:=i) (j:=f.s.2.length - 1) (by omega) (by omega)
  have h3:(0:Int)<f.s.2.length:=by omega
  simp only[cJ,lO,h3,decide_true,tP] at hB;have Hl:=hB.symm;rw[JJ] at Hl;simp only[decide_eq_false_iff_not] at Hl;omega
 simp only[BW,tP];refine rg ?_;have cF:aV (V.fn (.func 70) [] [.ptr (bs.length+1) 0,.ptr bs.length 0])=.fn (.func 70) [] [.ptr (bs.length+1) 0,.ptr bs.length 0]:=rfl;have tF:∀env t,qF env t (some (.fn (.func 70) [] [.ptr (bs.length+1) 0,.ptr bs.length 0]))=some (.fn (.func 70) [] [.ptr (bs.length+1) 0,.ptr bs.length 0],env):=λ_ _=>rfl
 have cV:∀args H,Cx.mz ⟨prog,gl.g,zj prog gl n,nU⟩ (.fn (.func 70) [] [.ptr (bs.length+1) 0,.ptr bs.length 0]) args H=Cx.bB ⟨prog,gl.g,zj prog gl n,nU⟩ 70 (args.map aV++[.ptr (bs.length+1) 0,.ptr bs.length 0]) H:=λ_ _=>zef rfl;simp only[BW,U9,tF]
 obtain⟨P1,hP1⟩:∃P1:Nat->Bool,P1=λ(i:Nat)=>kU (pg f.s.2.length f.r.2 (i:Int) (gr (rowsOf f.f) i)) (gr (rowsOf f.f) i).length:=⟨_,rfl⟩;obtain⟨P2,KK⟩:∃P2:Nat->Bool,P2=λ(i:Nat)=>kU (pg f.s.2.length f.r.2 (gi f.r.2 i) (gr (rowsOf f.n) i)) (gr (rowsOf f.n) i).length:=⟨_,rfl⟩
 have lQ:nR f.s.2.length f.r.2 (rowsOf f.f) (rowsOf f.n)=bif kU P1 f.f.2.length then kU P2 f.s.2.length else false:=by
  simp only[nR,ep,hP1,KK]
 rw[lQ]
 have dj:∀(q:bW)(iw:Int),WI q->0<=iw->iw<=200->Cx.bB ⟨prog,gl.g,zj prog gl n,nU⟩ 70 [iv q,.int .i64 iw,.ptr (bs.length+1) 0,.ptr bs.length 0] ⟨bs++[.cells (fc f) 30,.cells [.int .i64 (f.s.2.length:Nat)] 3],[]⟩=some (.val (.bool (kU (pg f.s.2.length f.r.2 iw q.2) q.2.length)),⟨bs++[.cells (fc f) 30,.cells [.int .i64 (f.s.2.length:Nat)] 3],[]⟩):=λq iw hq h0 h1 =>
  zu func70 rfl (zry hg n70 f.s.2.length f FA q hq iw (Ke (by omega) (by omega)) (by have:=hq.1;omega) Va (by rw[zg,fI (dA _)];simp))
 refine rg ?_;simp only[BW,iM,Ck lJ,HE,bJ,jX]
 refine qj (λm st=>∃i env,m+i=f.f.2.length/\st=⟨env,⟨bs++[.cells (fc f) 30,.cells [.int .i64 (f.s.2.length:Nat)] 3],[]⟩,[],[]⟩/\Ks 94 [(1,.ptr bs.length 0),(5,.fn (.func 70) [] [.ptr (bs.length+1) 0,.ptr bs.length 0]),(63,rv f.f),(64,.int .i64 (f.f.2.length:Nat)),(65,.int .i64 (i:Nat))] env/\∀j,j<i->P1 j=true) f.f.2.length (by omega) ⟨0,_,rfl,rfl,gE rfl,λj h=>by omega⟩ ?_
 rintro m st ⟨i,env,tX,rfl,⟨j,rfl⟩,di⟩;simp only[sh,sG,Nat.reduceBEq,Nat.reduceAdd,mS,oJ];simp only[zh];refine rg ?_;simp only[BW,qi]
 by_cases hi:i<f.f.2.length
 ·refine .inl ⟨by simp;omega,?_⟩
  obtain⟨q,hq⟩:∃q,f.f.2[i]?=some q:=⟨f.f.2[i],by simp[hi]⟩
  have hc:=dj q (i:Int) (hf.fi.2 q (nB hq)) (by omega) (by omega)
  have hPi:P1 i=kU (pg f.s.2.length f.r.2 (i:Int) q.2) q.2.length:=by
   rw[hP1];simp only[o8 hq]
  rw[<- hPi] at hc;refine rg ?_;simp only[BW,bJ,OT hq,OU,bC,ZZ];refine rg ?_;cases hp:P1 i with
  | false =>
   rw[hp] at hc;simp only[BW,bC,yM,wL,cF,cV,hc,iH];refine rg ?_;simp only[BW];have hb:kU P1 f.f.2.length=false:=by
    rw[<- GR,bX];exact λh=>by rw[h i hi] at hp;cases hp
   exact fz rfl ⟨by rw[hb];rfl,_,rfl⟩
  | true =>
   rw[hp] at hc;simp only[BW,bC,yM,wL,cF,cV,hc,iH];refine rg ?_;simp only[BW,z6 (show i<2 ^ 60 by omega)]
   exact⟨m - 1,by omega,i+1,_,by omega,rfl,gE rfl,λj hj=>by
    rcases eM j i with h|h
    ·exact di j h
    ·obtain rfl:j=i:=by omega
     exact hp⟩
 ·obtain rfl:i=f.f.2.length:=by omega
  refine .inr ⟨by simp,?_⟩
  rw[bX.2 di,mS];refine rg ?_;simp only[BW,iM,Ck lJ,HE,bJ,jX]
  refine qj (λm st=>∃i env,m+i=f.n.2.length/\st=⟨env,⟨bs++[.cells (fc f) 30,.cells [.int .i64 (f.s.2.length:Nat)] 3],[]⟩,[],[]⟩/\Ks 94 [(1,.ptr bs.length 0),(5,.fn (.func 70) [] [.ptr (bs.length+1) 0,.ptr bs.length 0]),(77,rv f.n),(78,.int .i64 (f.n.2.length:Nat)),(79,.int .i64 (i:Nat))] env/\∀j,j<i->P2 j=true) f.n.2.length (by omega) ⟨0,_,rfl,rfl,gE rfl,λj h=>by omega⟩ ?_
  rintro m st ⟨i,env,tX,rfl,⟨j,rfl⟩,di⟩;simp only[sh,sG,Nat.reduceBEq,Nat.reduceAdd,mS,oJ];simp only[zh];refine rg ?_;simp only[BW,qi]
  by_cases hi:i<f.n.2.length
  ·refine .inl ⟨by simp;omega,?_⟩
   obtain⟨q,hq⟩:∃q,f.n.2[i]?=some q:=⟨f.n.2[i],by simp[hi]⟩
   obtain⟨r0,r1⟩:=R5 i (by omega)
   have hc:=dj q (gi f.r.2 i) (hf.ne.2 q (nB hq)) r0 (by omega)
   have g1:=w8 (p:=f.r) (i:=i) (by omega)
   have hPi:P2 i=kU (pg f.s.2.length f.r.2 (gi f.r.2 i) q.2) q.2.length:=by
    rw[KK];simp only[o8 hq]
   rw[<- hPi] at hc;refine rg ?_;simp only[BW,bJ,OT hq,OU,bC,ZZ];refine rg ?_;cases hp:P2 i with
   | false =>
    rw[hp] at hc;simp only[BW,iM,Ck iu,HE,bC,g1,xc,yM,wL,cF,cV,hc,iH];refine rg ?_;simp only[BW];have hb:kU P2 f.s.2.length=false:=by
     rw[<- GR,bX];exact λh=>by rw[h i (by omega)] at hp;cases hp
    exact fz rfl ⟨by rw[hb],_,rfl⟩
   | true =>
    rw[hp] at hc;simp only[BW,iM,Ck iu,HE,bC,g1,xc,yM,wL,cF,cV,hc,iH];refine rg ?_;simp only[BW,z6 (show i<2 ^ 60 by omega)]
    exact⟨m - 1,by omega,i+1,_,by omega,rfl,gE rfl,λj hj=>by
     rcases eM j i with h|h
     ·exact di j h
     ·obtain rfl:j=i:=by omega
      exact hp⟩
  ·obtain rfl:i=f.n.2.length:=by omega
   refine .inr ⟨by simp,?_⟩
   refine rg ?_;simp only[BW];rw[oN] at di;exact fz rfl ⟨by rw[bX.2 di],_,rfl⟩
end
section
set_option linter.unusedSectionVars false
variable{gl:Gl}
def Gq(p:Bool×List bW):V:=lv 1 p.1 (p.2.map mZ)
end
theorem c5:prog.cellsOf 5=1:=by kernel_rfl
theorem c78:prog.cellsOf 78=1:=by kernel_rfl
theorem c58:prog.cellsOf 58=1:=by kernel_rfl
theorem b5:prog.bytesOf 5=1:=by kernel_rfl
theorem b78:prog.bytesOf 78=24:=by kernel_rfl
theorem mk5(cs:aD):v5 prog 5 cs=cs.headD .dW:=by
 have:y7 prog 5=false:=by kernel_rfl
 simp[v5,this]
theorem zrA(cs:aD):v5 prog 78 cs=cs.headD .dW:=by
 have:y7 prog 78=false:=by kernel_rfl
 simp[v5,this]
def WB(t:bW):Prop:=t.2.length<2 ^ 60/\∀b∈t.2,0<=b/\b<256
theorem zqg{n:Nat}{xs:aD}(h:ji prog n 5 xs):∃z,xs=[be z]/\0<=z/\z<256:=by
 cases n with
 | zero=>exact h.elim
 | succ n =>
  simp only[ji,underlying5] at h;obtain⟨z,h,hw⟩:=h;refine⟨z,h,?_⟩;have sY:IntKind.u8.min<=z/\z<=IntKind.u8.max:=by simpa[Lit.wf] using hw
  have e1:IntKind.u8.min=0:=by decide
  have e2:IntKind.u8.max=255:=by decide
  rw[e1,e2] at sY;omega
theorem zoG{n:Nat}{xs:aD}(h:ji prog n 78 xs):∃p,xs=[mZ p]/\WB p:=by
 cases n with
 | zero=>exact h.elim
 | succ n =>
  simp only[ji,underlying78,c5,b5] at h;rcases h with h|⟨ys,h,⟨_,hl⟩,hy⟩
  ·exact⟨(true,[]),h,by simp[WB]⟩
  ·obtain⟨l,h1,h2⟩:=l9 (h:=be) (Q:=λb=>0<=b/\b<256) ys λy Gc=>by
    obtain⟨cs,g1,g2⟩:=hy y Gc;obtain⟨z,g3,g4⟩:=zqg g1;rw[mk5,g3] at g2;exact⟨z,g2.symm,g4⟩
   subst h1;rw[gk] at hl;exact⟨(false,l),h,by have:=eV;show l.length<_;omega,h2⟩
theorem Jr{n:Nat}{xs:aD}(h:ji prog n 58 xs):∃p,xs=[Gq p]/\p.2.length<2 ^ 60/\∀t∈p.2,WB t:=by
 cases n with
 | zero=>exact h.elim
 | succ n =>
  simp only[ji,underlying58,c78,b78] at h;rcases h with h|⟨ys,h,⟨_,hl⟩,hy⟩
  ·exact⟨(true,[]),h,by simp⟩
  ·obtain⟨l,h1,h2⟩:=l9 (h:=mZ) (Q:=WB) ys λy Gc=>by
    obtain⟨cs,g1,g2⟩:=hy y Gc;obtain⟨z,g3,g4⟩:=zoG g1;rw[zrA,g3] at g2;exact⟨z,g2.symm,g4⟩
   subst h1;rw[gk] at hl;exact⟨(false,l),h,by have:=eV;show l.length<_;omega,h2⟩
end Go.Proofs.YthohlnmcjkjeiaaGreatDoor.A2
namespace Go.Proofs.YthohlnmcjkjeiaaGreatDoor
open Go.Proofs.Tryz
set_option maxRecDepth 10000
open Go Go.Vm
theorem c45:prog.cellsOf 53=10:=by kernel_rfl
theorem c47:prog.cellsOf 55=21:=by kernel_rfl
theorem c41:prog.cellsOf 50=4:=by kernel_rfl
theorem c39:prog.cellsOf 48=1:=by kernel_rfl
theorem Vc:prog.cellsOf 51=1:=by kernel_rfl
theorem c9:prog.cellsOf 9=1:=by kernel_rfl
theorem Ls:prog.cellsOf 3=1:=by kernel_rfl
theorem c4':prog.cellsOf 4=1:=by kernel_rfl
theorem c22:prog.cellsOf 24=1:=by kernel_rfl
theorem c60:prog.cellsOf 60=3:=by kernel_rfl
theorem b47:prog.bytesOf 55=216:=by kernel_rfl
theorem zrB(cs:aD):v5 prog 53 cs=.agg cs:=by
 have:y7 prog 53=true:=by kernel_rfl
 simp only[v5,this,aF]
theorem zrC(cs:aD):v5 prog 55 cs=.agg cs:=by
 have:y7 prog 55=true:=by kernel_rfl
 simp only[v5,this,aF]
theorem rJ{n:Nat}{xs:aD}(h:ji prog n 3 xs):∃z,xs=[.int .i64 z]:=by
 cases n with
 | zero=>exact h.elim
 | succ n =>
  simp only[ji,underlying3] at h;obtain⟨z,h,_⟩:=h;exact⟨z,h⟩
theorem zqh{n:Nat}{xs:aD}(h:ji prog n 4 xs):∃b,xs=[.bool b]:=by
 cases n with
 | zero=>exact h.elim
 | succ n =>
  simp only[ji,underlying4] at h;exact h
def QU(z:Int):Prop:=0<=z/\z<18446744073709551616
mutual
def QE:E->Prop
 | .mk _ _ s0 s1 s2 s3 _ _ _ _ args=>(QU s0/\QU s1/\QU s2/\QU s3)/\Nf args
def Nf:List E->Prop
 | []=>True
 | e::l=>QE e/\Nf l
end
theorem Vd{n:Nat}{xs:aD}(h:ji prog n 48 xs):∃z,xs=[.int .u64 z]/\QU z:=by
 cases n with
 | zero=>exact h.elim
 | succ n =>
  simp only[ji,underlying48] at h;obtain⟨z,h,hw⟩:=h;refine⟨z,h,?_⟩;have sY:IntKind.u64.min<=z/\z<=IntKind.u64.max:=by simpa[Lit.wf] using hw
  have e1:IntKind.u64.min=0:=by decide
  have e2:IntKind.u64.max=18446744073709551615:=by decide
  rw[e1,e2] at sY;exact⟨by omega,by omega⟩
theorem zqi{n:Nat}{xs:aD}(h:ji prog n 9 xs):∃s,xs=[.str s]/\(∀b∈s,b<256)/\s.length<=maxLen:=by
 cases n with
 | zero=>exact h.elim
 | succ n =>
  simp only[ji,underlying9] at h;exact h
theorem zoH{n:Nat}{xs:aD}(h:ji prog n 50 xs):∃a b c d,xs=[.int .u64 a,.int .u64 b,.int .u64 c,.int .u64 d]/\QU a/\QU b/\QU c/\QU d:=by
 cases n with
 | zero=>exact h.elim
 | succ n =>
  simp only[ji,underlying50,c41,c39] at h;obtain⟨hl,h⟩:=h
  match xs,hl with
  | [x,y,z,w],_ =>
   obtain⟨a,ha,ka⟩:=Vd (h 0 (by omega))
   obtain⟨b,hb,kb⟩:=Vd (h 1 (by omega))
   obtain⟨c,hc,kc⟩:=Vd (h 2 (by omega))
   obtain⟨d,hd,kd⟩:=Vd (h 3 (by omega))
   simp at ha hb hc hd;exact⟨a,b,c,d,by rw[ha,hb,hc,hd],ka,kb,kc,kd⟩
theorem DP:∀(ys:aD),(∀y∈ys,∃e,enc e=y/\Wf e/\Can e/\QE e)->∃l,fe l=ys/\IV l/\Ey l/\Nf l
 | [],_=>⟨[],rfl,trivial,trivial,trivial⟩
 | y::ys,h=>by
  obtain⟨e,h1,h2,h5,h7⟩:=h y eK;obtain⟨l,h3,h4,h6,h8⟩:=DP ys λz hz=>h z (dU _ hz);exact⟨e::l,by simp[fe,h1,h3],⟨h2,h4⟩,⟨h5,h6⟩,h7,h8⟩
theorem l9{α:Type}{h:α->V}{Q:α->Prop}:∀(ys:aD),(∀y∈ys,∃a,h a=y/\Q a)->∃l:List α,l.map h=ys/\∀a∈l,Q a
 | [],_=>⟨[],rfl,λ_ h=>by simp at h⟩
 | y::ys,hy=>by
  obtain⟨a,h1,h2⟩:=hy y (eK ..);obtain⟨l,h3,h4⟩:=l9 ys λz hz=>hy z (dU _ hz);refine⟨a::l,by simp[h1,h3],λb hb=>?_⟩
  rcases dG.1 hb with rfl|hb
  ·exact h2
  ·exact h4 b hb
mutual
theorem C_:∀(n:Nat)(xs:aD),ji prog n 53 xs->∃e,enc e=.agg xs/\Wf e/\Can e/\QE e
 | 0,_,h=>h.elim
 | n+1,xs,h=>by
  simp only[ji,underlying53,c45] at h;obtain⟨hl,h⟩:=h;have f0:=h ⟨ "Op",3,0,false,"","",0⟩ (by simp)
  have f1:=h ⟨ "At",3,1,false,"","",8⟩ (by simp)
  have f2:=h ⟨ "Set",50,2,false,"","",16⟩ (by simp)
  have f3:=h ⟨ "Text",9,6,false,"","",48⟩ (by simp)
  have f4:=h ⟨ "Min",3,7,false,"","",64⟩ (by simp)
  have f5:=h ⟨ "Max",3,8,false,"","",72⟩ (by simp)
  have f6:=h ⟨ "Args",51,9,false,"","",80⟩ (by simp)
  clear h;simp only[Ls,c41,c9,Vc] at f0 f1 f2 f3 f4 f5 f6
  match xs,hl with
  | [x0,x1,x2,x3,x4,x5,x6,x7,x8,x9],_ =>
   simp only[uJ,mu,Ab,AL] at f0 f1 f2 f3 f4 f5 f6;obtain⟨op,h0⟩:=rJ f0;obtain⟨pl,h1⟩:=rJ f1;obtain⟨a,b,c,d,h2,hq⟩:=zoH f2;obtain⟨s,h3,_,hs⟩:=zqi f3;obtain⟨mn,h4⟩:=rJ f4;obtain⟨mx,h5⟩:=rJ f5;obtain⟨nl,l,h6,h7,h8,h9,CR,QG⟩:=Ng n x9 f6;simp only[List.cons.injEq,BY] at h0 h1 h2 h3 h4 h5;obtain⟨rfl,rfl,rfl,rfl⟩:=h2;subst h0 h1 h3 h4 h5 h6
   exact⟨.mk op pl a b c d s mn mx nl l,rfl,⟨hs,h7,h8⟩,⟨CR,h9⟩,hq,QG⟩
theorem Ng:∀(n:Nat)(v:V),ji prog n 51 [v]->∃nl l,v=ye nl (fe l)/\l.length<=maxLen/\IV l/\Ey l/\(nl=true->l=[])/\Nf l
 | 0,_,h=>h.elim
 | n+1,v,h=>by
  simp only[ji,underlying51,c45] at h;rcases h with h|⟨ys,h,⟨hl,_⟩,hy⟩
  ·simp only[List.cons.injEq,BY] at h;exact⟨true,[],by rw[h];rfl,by simp,trivial,trivial,λ_=>rfl,trivial⟩
  ·simp only[List.cons.injEq,BY] at h;obtain⟨l,h1,h2,h3,h4⟩:=DP ys λy Gc=>by
    obtain⟨cs,g1,g2⟩:=hy y Gc;rw[zrB] at g2;rw[g2];exact C_ n cs g1
   subst h1;rw[fE] at hl;exact⟨false,l,by rw[h];rfl,hl,h2,h3,(λh=>by cases h),h4⟩
end
theorem zoI{n:Nat}{xs:aD}(h:ji prog n 55 xs):∃c:Cr,Cf c=.agg xs/\MF c/\Ji c/\QE c.1/\QE c.2.2:=by
 cases n with
 | zero=>exact h.elim
 | succ n =>
  simp only[ji,underlying55,c47] at h;obtain⟨hl,h⟩:=h;have f0:=h ⟨ "Head",53,0,false,"","",0⟩ (by simp)
  have f1:=h ⟨ "HasTrail",4,10,false,"","",104⟩ (by simp)
  have f2:=h ⟨ "Trail",53,11,false,"","",112⟩ (by simp)
  clear h;simp only[c45,c4'] at f0 f1 f2;rw[mu] at f0;obtain⟨a,ha,wa,ka,qa⟩:=C_ n _ f0;obtain⟨t,ht⟩:=zqh f1;obtain⟨b,hb,wb,kb,qb⟩:=C_ n _ f2;refine⟨(a,t,b),?_,⟨wa,wb⟩,⟨ka,kb⟩,qa,qb⟩;rw[qB,V.agg.injEq] at ha hb;simp only[Cf,iR,ha,hb];rw[V.agg.injEq,a_,<- ht];have e3:(xs.drop 11).take 10=xs.drop 11:=r9 (by simp;omega)
  have e4:xs.drop 11=(xs.drop 10).drop 1:=by rw[List.drop_drop]
  rw[e3,e4,Co,Co]
theorem zoJ{n:Nat}{v:V}(h:ji prog n 24 [v]):∃nl l,v=zX nl l/\l.length<=maxLen/\l.length * 216<=reachBytes/\(∀c∈l,MF c)/\(∀c∈l,Ji c)/\∀c∈l,QE c.1/\QE c.2.2:=by
 cases n with
 | zero=>exact h.elim
 | succ n =>
  simp only[ji,underlying24,c47,b47] at h;rcases h with h|⟨ys,h,⟨hl,hb⟩,hy⟩
  ·simp only[List.cons.injEq,BY] at h;exact⟨true,[],by rw[h];rfl,by simp,by simp,by simp,by simp,by simp⟩
  ·simp only[List.cons.injEq,BY] at h;obtain⟨l,h1,h2⟩:=l9 (h:=Cf) (Q:=λc=>MF c/\Ji c/\QE c.1/\QE c.2.2) ys λy Gc=>by
    obtain⟨cs,g1,g2⟩:=hy y Gc;rw[zrC] at g2;rw[g2];exact zoI g1
   subst h1;rw[gk] at hl hb;refine⟨false,l,by rw[h];rfl,hl,hb,λc hc=>(h2 c hc).1,λc hc=>(h2 c hc).2.1,λc hc=>(h2 c hc).2.2⟩
structure A4 where
 nl:Bool
 l:List Cr
 a:A2.gJ
 t:Bool×List A2.bW
def wr(p:A4):aD:=[zX p.nl p.l,A2.rv p.a,A2.Gq p.t]
structure BP(p:A4):Prop where
 len:p.l.length<=maxLen
 Cd:p.l.length * 216<=reachBytes
 wf:∀c∈p.l,MF c
 can:∀c∈p.l,Ji c
 q:∀c∈p.l,QE c.1/\QE c.2.2
 a:A2.WR p.a
 tl:p.t.2.length<2 ^ 60
 t:∀t∈p.t.2,A2.WB t
theorem zoK{n:Nat}{xs:aD}(h:ji prog n 60 xs):∃p,xs=wr p/\BP p:=by
 cases n with
 | zero=>exact h.elim
 | succ n =>
  simp only[ji,underlying60,c60] at h;obtain⟨hl,h⟩:=h
  match xs,hl with
  | [x,y,z],_ =>
   have f0:=h ⟨ "L",24,0,false,"","",0⟩ (by simp)
   have f1:=h ⟨ "Active",28,1,false,"","",24⟩ (by simp)
   have f2:=h ⟨ "Texts",58,2,false,"","",48⟩ (by simp)
   simp only[c22,A2.Ri,A2.c58,uJ,mu,Ab,AL] at f0 f1 f2;obtain⟨nl,l,rfl,k1,k2,k3,k4,k5⟩:=zoJ f0;obtain⟨p,hp,wp⟩:=A2.Jc f1;obtain⟨q,hq,lq,wq⟩:=A2.Jr f2;simp at hp hq;subst hp hq;exact⟨⟨nl,l,p,q⟩,rfl,k1,k2,k3,k4,k5,wp,lq,wq⟩
end Go.Proofs.YthohlnmcjkjeiaaGreatDoor
namespace Go.Proofs.YthohlnmcjkjeiaaGreatDoor.A2
open Go Go.Vm Go.Vm.Sx
open Go.Proofs.Tryz
set_option maxRecDepth 100000
section
set_option maxHeartbeats 2000000
variable{gl:Gl}{ez:bM}
theorem fH:zB prog 60 0=some 0/\zB prog 60 1=some 1/\zB prog 60 2=some 2:=⟨by kernel_rfl,by kernel_rfl,by kernel_rfl⟩
theorem KL:qz prog 24=some false:=by kernel_rfl
theorem zj2(p:A4):dz (.agg (wr p))=true:=rfl
theorem OW(q:Bool×List bW):aV (Gq q)=Gq q:=Qv ..
theorem zfh(p:A4):(V.agg (wr p)).laid=wr p:=by simp[V.laid,wr,qZ,bJ,OW]
theorem zj3(p:A4)(env:aD)(t:Nat):qF env t (some (.agg (wr p)))=some (.agg (wr p),env):=rfl
theorem zrD(p:A4):nth (wr p) 0=some (zX p.nl p.l)/\nth (wr p) 1=some (rv p.a)/\nth (wr p) 2=some (Gq p.t):=⟨rfl,rfl,rfl⟩
theorem zoL(c:Cr):(iR c).drop 11=aK c.2.2:=by
 simp only[iR];rw[List.drop_left' (by simp[z0])]
theorem zq6{H:Hp}{g:Nat->Nat->b_}{c:Cr}:zk prog H g 53 (.vp (iR c))=some (.agg (aK c.1)):=by
 have h:(iR c).take 10=aK c.1:=by
  simp only[iR,a_];rw[List.take_left' (z0 c.1)]
 simp[zk,qu,BB,s6,Oe,w7,h]
theorem rZ:∀(l:List Cr)(n:Int)(c:Cr),fh n (l++[c])=IntKind.i64.wrap (IntKind.i64.wrap (fh n l+ey c.1 0)+ey c.2.2 0)
 | [],n,c=>by simp only[aZ,fh]
 | a::l,n,c=>by simp only[bh,fh,rZ l]
def tv(p:A4):Bool:=cJ 500 (fh 0 p.l) || cJ 16 (p.a.2.length:Int)
theorem zrE{a:aW}{t:aB}{x:V}:qL prog .neq 37 a (.const .nilIface) (some (.dF t x)) (some .bN)=some (.bool true):=by kernel_rfl
theorem R6{a:aW}:qL prog .neq 37 a (.const .nilIface) (some .bN) (some .bN)=some (.bool false):=by cases a<;>kernel_rfl
theorem zrF{a:aW}{t:aB}{x:V}:qL prog .eql 37 a (.const .nilIface) (some (.dF t x)) (some .bN)=some (.bool false):=by kernel_rfl
theorem zq7{a:aW}:qL prog .eql 37 a (.const .nilIface) (some .bN) (some .bN)=some (.bool true):=by cases a<;>kernel_rfl
theorem zq8(l:List Cr):∃K,∀c∈l,Go.Proofs.YthohlnmcjkjeiaaGreatDoor.hg c.1<=K/\Go.Proofs.YthohlnmcjkjeiaaGreatDoor.hg c.2.2<=K:=by
 induction l with
 | nil=>exact⟨0,λc h=>by cases h⟩
 | cons a l ih =>
  obtain⟨K,hK⟩:=ih;refine⟨max K (max (Go.Proofs.YthohlnmcjkjeiaaGreatDoor.hg a.1) (Go.Proofs.YthohlnmcjkjeiaaGreatDoor.hg a.2.2)),λc h=>?_⟩;rcases dG.1 h with rfl|h
  ·omega
  ·have:=hK c h;omega
theorem Nh(f:F):aV (fv f)=fv f:=by simp[fv,fc,qW]
def zF:aD:=fc ⟨(true,[]),(true,[]),(true,[]),(true,[])⟩
theorem Js:qP prog 30=some (.agg zF):=by kernel_rfl
theorem R7:prog.underlying 61=some (.slice 66):=by kernel_rfl
theorem zoM{H:Hp}{vs:aD}{o:uN}:qX prog H 61 (.sl 2 vs o)=some (vs.length:Int):=by simp[qX]
theorem R8:qz prog 30=some true:=by kernel_rfl
theorem KM:z4 prog 30=some 4:=by kernel_rfl
section
variable{bs:List aY}{es:aO}{env:aD}{df:bP}{x:aY}{g:Nat->Nat->b_}
theorem Ve(f:F):qr prog 30 ⟨bs++[x,.cells zF 30],es⟩ [] df (some (fv f,env)) (some (.ptr (bs.length+1) 0))=some (.skip,⟨env,⟨bs++[x,.cells (fc f) 30],es⟩,[],df⟩):=by
 have h:=Kg (P:=prog) (t:=30) (n:=4) (B:=bs) (ls:=[x,.cells zF 30]) (k:=1) (off:=0) (cs:=zF) (ty:=30) (v:=fv f) (env:=env) (lk:=[]) (df:=df) (es:=es) KM rfl (Zl f) (by rw[UQ];rfl) (by decide) rfl (tc f)
 rw[h,UQ,wQ (by rfl)]
 rfl
theorem zqj(f:F):zk prog ⟨bs++[x,.cells (fc f) 30],es⟩ g 30 (.ptr (bs.length+1) 0)=some (fv f):=by
 have h:Hp.get ⟨bs++[x,.cells (fc f) 30],es⟩ (bs.length+1)=some (.cells (fc f) 30):=Va;rw[jc R8 KM h (by simp[fc])];rfl
end
inductive R9(k:Nat)(gl:Gl)(p:A4):V->Prop
 |big (h:tv p=true):R9 k gl p (.br [.aG,.bool false])
 |ref (h:tv p=false) (f:F) (t:aB) (o:Nat) (tw:mY k prog gl 14 [zX p.nl p.l] (.br [fv f,.dF t (.obj o)])):R9 k gl p (.br [.aG,.bool false])
 |bad (h:tv p=false) (f:F) (t:aB) (o:Nat) (tw:mY k prog gl 14 [zX p.nl p.l] (.br [fv f,.bN])) (uB:mY k prog gl 30 [fv f,rv p.a] (.br [.aG,.dF t (.obj o)])):R9 k gl p (.br [.aG,.bool false])
 |go (h:tv p=false) (f:F) (vs:aD) (ht:aI vs=0) (tw:mY k prog gl 14 [zX p.nl p.l] (.br [fv f,.bN])) (uB:mY k prog gl 30 [fv f,rv p.a] (.br [.sl 2 vs .no,.bN])) (hl:vs.length=p.a.2.length):R9 k gl p (.br [.sl 2 vs .no,.bool true])
theorem Jt(hg:GK gl ez)(h71:ez.any (Nat.beq 71)=false)(ua:ez.any (Nat.beq 25)=false)(p:A4)(hp:BP p){R:V}{k:Nat}(hR:R9 k gl p R):Kn prog gl 25 [.agg (wr p)] R:=by
 have Rf:=eV;have Ii:=hp.Cd
 have W1:=hp.a.1;have dx:R.top=0:=by
  cases hR with
  | go h f vs ht tw uB hl=>simp[V.top,aI,ht]
  | _=>rfl
 obtain⟨K,hK⟩:=zq8 p.l;refine⟨_,vz hg func25 rfl ua dx (p.l.length+K+k+10) λn hn bs=>?_⟩;have lA:∀g,zk prog ⟨bs++[.cells (wr p) 60],[]⟩ g 24 (.ptr bs.length 0)=some (zX p.nl p.l):=λg=>DJ KL;have lB:∀g,zk prog ⟨bs++[.cells (wr p) 60],[]⟩ g 28 (.ptr bs.length 1)=some (rv p.a):=λg=>DJ lJ;simp only[f25,zh];refine rg ?_
 simp only[BW,List.replicate,z8 (zj2 p),zfh];refine rg ?_;simp only[BW];refine rg ?_;simp only[BW]
 refine qj (λm st=>∃i env,m+i=p.l.length/\st=⟨env,⟨bs++[.cells (wr p) 60],[]⟩,[],[]⟩/\Ks 67 [(1,.ptr bs.length 0),(2,.aG),(3,.bool false),(4,.int .i64 (fh 0 (p.l.take i))),(5,.int .i64 (i:Nat))] env) p.l.length (by omega) ⟨0,_,rfl,rfl,gE rfl⟩ ?_
 rintro m st ⟨i,env,tX,rfl,⟨j,rfl⟩⟩;simp only[sh,sG,Nat.reduceBEq,Nat.reduceAdd,mS,oJ];simp only[zh];refine rg ?_;simp only[BW,qi,fH,lA,qZ,yu]
 by_cases hi:i<p.l.length
 ·refine .inl ⟨by simp;omega,?_⟩
  obtain⟨c,hc⟩:∃c,p.l[i]?=some c:=⟨p.l[i],by simp[hi]⟩
  have rq:=nB hc;obtain⟨w1,w2⟩:=hp.wf c rq;obtain⟨k1,k2⟩:=hK c rq;have c71:∀e,Wf e->Go.Proofs.YthohlnmcjkjeiaaGreatDoor.hg e<=K->∀H,Cx.bB ⟨prog,gl.g,zj prog gl n,nU⟩ 71 [.agg (aK e),.int .i64 0] H=some (.val (.int .i64 (ey e 0)),H):=λe w k=>by
   rw[<- qB];exact jt func71 rfl (zq2 hg h71 e w 0 n (by omega))
  have v1:=c71 c.1 w1 k1;have v2:=c71 c.2.2 w2 k2;have Jn:fh 0 (p.l.take (i+1))=IntKind.i64.wrap (IntKind.i64.wrap (fh 0 (p.l.take i)+ey c.1 0)+ey c.2.2 0):=by
   rw[List.take_add_one,hc];exact rZ _ _ _
  generalize fh 0 (p.l.take i)=s at Jn ⊢;generalize ey c.1 0=z1 at v1 Jn;generalize ey c.2.2 0=z2 at v2 Jn;have Ce:=Ze (nl:=p.nl) hc;refine wY (tk:=[]) (by kernel_rfl) ?_
  apply Exists.intro;apply And.intro;refine oF 0 (.int .i64 s) (by simp only[BW]) ?_
  dsimp only[aq]
  refine oF 0 (.ptr bs.length 0) (by simp only[BW,fH]) ?_
  dsimp only[aq]
  refine oL 2 (zX p.nl p.l) (by simp only[BW,lA,qZ]) (λc h=>by cases h) ?_
  dsimp only[aq]
  refine oF 0 (.int .i64 (i:Nat)) (by simp only[BW]) ?_
  dsimp only[aq]
  refine oF 14 (.vp (iR c)) (by simp only[BW,qZ,Ce]) ?_
  dsimp only[aq]
  refine oF 30 (.vp (iR c)) (by simp only[BW,pT,mu]) ?_
  dsimp only[aq]
  refine oL 62 (.agg (aK c.1)) (by simp only[BW,zq6]) (λc h=>by cases h) ?_
  dsimp only[aq]
  refine oH 126 128 (.int .i64 z1) (by simp only[BW,v1]) (λc h=>by cases h) (by kernel_rfl) ?_
  dsimp only[aq]
  refine oF 255 (.int .i64 (IntKind.i64.wrap (s+z1))) (by simp only[BW,kg]) ?_
  dsimp only[aq]
  refine oF 0 (.ptr bs.length 0) (by simp only[BW,fH]) ?_
  dsimp only[aq]
  refine oL 512 (zX p.nl p.l) (by simp only[BW,lA,qZ]) (λc h=>by rw[oG.1 h];exact⟨rfl,rfl,rfl⟩) ?_
  dsimp only[aq]
  refine oF 0 (.int .i64 (i:Nat)) (by simp only[BW]) ?_
  dsimp only[aq]
  refine oF 3584 (.vp (iR c)) (by simp only[BW,qZ,Ce]) ?_
  dsimp only[aq]
  refine oF 7680 (.vp (aK c.2.2)) (by simp only[BW,pT,zoL]) ?_
  dsimp only[aq]
  refine oL 15872 (.agg (aK c.2.2)) (by simp only[BW,UH]) (λc h=>by rw[oG.1 h];exact⟨rfl,rfl,rfl⟩) ?_
  dsimp only[aq]
  refine oH 32510 32896 (.int .i64 z2) (by simp only[BW,v2]) (λc h=>by rw[oG.1 h];kernel_rfl) (by kernel_rfl) ?_
  dsimp only[aq]
  refine oF 65535 (.int .i64 (IntKind.i64.wrap (IntKind.i64.wrap (s+z1)+z2))) (by simp only[BW,kg]) ?_
  dsimp only[aq]
  refine oF 131071 (.int .i64 (IntKind.i64.wrap (IntKind.i64.wrap (s+z1)+z2))) (by simp only[BW]) wZ
  simp only[aq];simp only[BW];refine rg ?_;simp only[BW,z6 (show i<2 ^ 60 by omega),<- Jn]
  exact⟨m - 1,by omega,i+1,_,by omega,rfl,gE rfl⟩
 ·obtain rfl:i=p.l.length:=by omega
  refine .inr ⟨by simp,?_⟩
  rw[D1];have CF:tv p=false->¬500<fh 0 p.l/\¬(16:Int)<p.a.2.length:=λh=>by
   simp only[tv,cJ,JJ,decide_eq_false_iff_not] at h;exact h
  have mC:∀f:F,∀e,mY k prog gl 14 [zX p.nl p.l] (.br [fv f,e])->∀H,Cx.bB ⟨prog,gl.g,zj prog gl n,nU⟩ 14 [zX p.nl p.l] H=some (.val (.br [fv f,e]),H):=λf e h=>jt func14 rfl (h n (by omega))
  have nS:∀f:F,∀v,mY k prog gl 30 [fv f,rv p.a] v->∀H,Cx.bB ⟨prog,gl.g,zj prog gl n,nU⟩ 30 [fv f,rv p.a] H=some (.val v,H):=λf v h=>jt func30 rfl (h n (by omega))
  have qI:∀t o,aV (V.dF t (.obj o))=.dF t (.obj o):=λ_ _=>rfl;have qN:aV V.bN=.bN:=rfl;have tI:∀t o env s,qF env s (some (.dF t (.obj o)))=some (.dF t (.obj o),env):=λ_ _ _ _=>rfl;have tN:∀env s,qF env s (some V.bN)=some (.bN,env):=λ_ _=>rfl;have tS:∀vs env s,qF env s (some (.sl 2 vs .no))=some (.sl 2 vs .no,env):=λ_ _ _=>rfl;have hz:(V.agg zF).cells=zF:=rfl
  have lB':∀g f,zk prog ⟨bs++[.cells (wr p) 60,.cells (fc f) 30],[]⟩ g 28 (.ptr bs.length 1)=some (rv p.a):=λg f=>Ck lJ;refine rg ?_;cases hR with
  | big h =>
   by_cases a1:500<fh 0 p.l
   ·simp only[BW,gt_iff_lt,a1];refine rg ?_;simp only[BW];exact Hw rfl rfl ⟨rfl,_,rfl⟩
   ·have a2:(16:Int)<p.a.2.length:=by
     simp only[tv,cJ,a1,decide_false,uM,decide_eq_true_eq] at h;exact h
    simp only[BW,gt_iff_lt,a1,fH,lB,bJ,jX,a2];refine rg ?_;simp only[BW];exact Hw rfl rfl ⟨rfl,_,rfl⟩
  | ref h f t o tw =>
   obtain⟨a1,a2⟩:=CF h;have Ni:=mC f _ tw;simp only[BW,gt_iff_lt,a1,fH,lB,bJ,jX,a2];refine rg ?_;simp only[BW,fH,lA,qZ,Ni,dZ,Nh,qI,Js,zJ (show dz (.agg zF)=true from rfl),hz,OL,Ve];refine rg ?_;simp only[BW,zrE,qI];refine rg ?_
   simp only[BW];exact Hw rfl rfl ⟨rfl,_,rfl⟩
  | bad h f t o tw uB =>
   obtain⟨a1,a2⟩:=CF h;have Ni:=mC f _ tw;have c30:=nS f _ uB;simp only[BW,gt_iff_lt,a1,fH,lB,bJ,jX,a2];refine rg ?_;simp only[BW,fH,lA,qZ,Ni,dZ,Nh,qN,Js,zJ (show dz (.agg zF)=true from rfl),hz,OL,Ve];refine rg ?_
   simp only[BW,R6,qN];refine rg ?_;simp only[BW,zqj,fH,lB',Nh,bJ,c30,dZ,qI];refine ja (tk:=[]) (by kernel_rfl) (by kernel_rfl) ?_
   simp only[BW,zrF,qI];exact Hw rfl rfl ⟨rfl,_,rfl⟩
  | go h f vs ht tw uB hl =>
   obtain⟨a1,a2⟩:=CF h;have Ni:=mC f _ tw;have c30:=nS f _ uB;simp only[BW,gt_iff_lt,a1,fH,lB,bJ,jX,a2];refine rg ?_;simp only[BW,fH,lA,qZ,Ni,dZ,Nh,qN,Js,zJ (show dz (.agg zF)=true from rfl),hz,OL,Ve];refine rg ?_
   simp only[BW,R6,qN];refine rg ?_;simp only[BW,zqj,fH,lB',Nh,bJ,c30,dZ,qN];refine ja (tk:=[]) (by kernel_rfl) (by kernel_rfl) ?_
   simp only[BW,zq7,qN,tS,lJ,fH,lB',bJ,jX,zoM,hl,beq_self_eq_true];exact Hw rfl rfl ⟨rfl,_,rfl⟩
end
def hasB(a:bW)(n:Int):Bool:=!kU (λi=>!(gi a.2 i == n)) a.2.length
def dH(a b:bW)(n:Nat):List Int:=((List.range n).filter λr=>hasB a (r:Nat) || hasB b (r:Nat)).map Int.ofNat
theorem zoO{a b:bW}{n:Nat}:dH a b (n+1)=if (hasB a (n:Nat) || hasB b (n:Nat))=true then dH a b n++[((n:Nat):Int)] else dH a b n:=by
 unfold dH;rw[List.range_succ,List.filter_append]
 by_cases h:(hasB a (n:Nat) || hasB b (n:Nat))=true
 ·rw[if_pos h];simp[h]
 ·rw[if_neg h];simp[h]
theorem u7{a b:bW}{n:Nat}:(dH a b n).length<=n:=by
 unfold dH;rw[gk];exact cN (List.length_filter_le ..) (by simp)
def rK(a b:Int):Int:=if a<0\/(0<=b/\b<a) then b else a
theorem zoP{a b:Int}(h:(cJ a 0 || (lO 0 b && cJ b a))=true):rK a b=b:=by
 simp only[cJ,lO,p7,d_,decide_eq_true_eq] at h;exact if_pos h
theorem zoQ{a b:Int}(h:(cJ a 0 || (lO 0 b && cJ b a))=false):rK a b=a:=by
 refine if_neg λh'=>?_;have:(cJ a 0 || (lO 0 b && cJ b a))=true:=by
  simp only[cJ,lO,p7,d_,decide_eq_true_eq];exact h'
 rw[h] at this;cases this
section
set_option maxHeartbeats 2000000
variable{gl:Gl}{ez:bM}
theorem R_:qz prog 60=some true:=by kernel_rfl
theorem Sa:z4 prog 60=some 3:=by kernel_rfl
theorem Sb:qz prog 58=some false:=by kernel_rfl
theorem Sc:qz prog 78=some false:=by kernel_rfl
theorem Sd:z4 prog 78=some 1:=by kernel_rfl
theorem Nj:prog.underlying 58=some (.slice 78):=by kernel_rfl
theorem aat:qP prog 66=some (.agg [.aG,.aG]):=by kernel_rfl
theorem zq9{bs:List aY}{es:aO}{g:Nat->Nat->b_}{p:A4}:zk prog ⟨bs++[.cells (wr p) 60],es⟩ g 60 (.ptr bs.length 0)=some (.agg (wr p)):=by
 rw[jc R_ Sa OK (by simp[wr])];rfl
theorem zj4(p:A4):aV (.agg (wr p))=.agg (wr p):=by simp[wr,qW]
theorem zgr{H:Hp}{q:Bool×List bW}:qX prog H 58 (Gq q)=some (q.2.length:Int):=by
 unfold Gq;rcases bZ 1 q.1 (q.2.map mZ) with h|⟨h0,h⟩<;>rw[h]
 ·simp[qX]
 ·simp only[HS] at h0;simp[qX,h0]
theorem zoR{p:Bool×List bW}{i:Nat}{q:bW}(h:p.2[i]?=some q):zp prog 58 (Gq p) (i:Int)=some (.vp [mZ q]):=by
 have hk:¬((i:Int)<0):=by omega
 have hn:nth (p.2.map mZ) i=some (mZ q):=by rw[zg,iX,h];rfl
 have cH:Gq p=.sl 1 (p.2.map mZ) .no:=by
  unfold Gq;rcases bZ 1 p.1 (p.2.map mZ) with h'|⟨h0,_⟩
  ·exact h'
  ·simp only[HS] at h0;rw[h0] at h;simp at h
 have hc:(mZ q).cells=[mZ q]:=by
  unfold mZ;rcases bZ 1 q.1 (q.2.map be) with h'|⟨_,h'⟩<;>rw[h']<;>rfl
 rw[cH];simp[zp,Sd,hk,hn,hc]
theorem zra{H:Hp}{g:Nat->Nat->b_}{v:V}:zk prog H g 78 (.vp [v])=some v:=by
 simp[zk,qu,Sc,nth,wT]
theorem zj5{vs:aD}{i:Nat}{d:D}(h:nth vs i=some (iL d)):zp prog 61 (.sl 2 vs .no) (i:Int)=some (.vp [rv d.1,iv d.2]):=by
 have hk:¬((i:Int)<0):=by omega
 simp[zp,BO,hk,h,iL,V.cells]
theorem zmV{H:Hp}{g:Nat->Nat->b_}{d:D}:zk prog H g 66 (.vp [rv d.1,iv d.2])=some (iL d):=by
 simp[zk,qu,Gj,BO,Oe,iL]
theorem zoS(l:List Int):aV (zl 1 3 (l.map ie))=iv (true,l):=by cases l<;>simp[zl,aV,iv,lv]
section
variable{bs:List aY}{es:aO}{env:aD}{df:bP}{x y:aY}{g:Nat->Nat->b_}{t:aB}{off:Nat}
theorem zrb{z:aY}{cs:aD}{ty:aB}:(⟨bs++[.cells cs ty,y,z],es⟩:Hp).get bs.length=some (.cells cs ty):=by
 show nth _ _=_;rw[zg,fI (dA _)];simp
theorem zrc{z:aY}:(⟨bs++[x,y,z],es⟩:Hp).get (bs.length+2)=some z:=by
 show nth _ _=_;rw[zg,fI (by omega),show bs.length+2 - bs.length=2 by omega];rfl
theorem zrG{z:aY}{cs:aD}{ty:aB}{v:V}(ha:qz prog t=some false)(hn:nth cs off=some v):zk prog ⟨bs++[.cells cs ty,y,z],es⟩ g t (.ptr bs.length off)=some v:=zt ha zrb hn
theorem zrH(d:D):qr prog 66 ⟨bs++[x,y,.cells [.aG,.aG] 66],es⟩ [] df (some (iL d,env)) (some (.ptr (bs.length+2) 0))=some (.skip,⟨env,⟨bs++[x,y,.cells [rv d.1,iv d.2] 66],es⟩,[],df⟩):=by
 have h:=Kg (P:=prog) (t:=66) (n:=2) (B:=bs) (ls:=[x,y,.cells [.aG,.aG] 66]) (k:=2) (off:=0) (cs:=[.aG,.aG]) (ty:=66) (v:=iL d) (env:=env) (lk:=[]) (df:=df) (es:=es) BO rfl (U3 d) (by rw[RN];rfl) (by decide) rfl (C6 d)
 rw[h,RN,wQ (by rfl)]
 rfl
theorem zrI{d:D}:zk prog ⟨bs++[x,y,.cells [rv d.1,iv d.2] 66],es⟩ g 66 (.ptr (bs.length+2) 0)=some (iL d):=by
 rw[jc Gj BO zrc (by simp)];rfl
end
inductive B9(k:Nat)(gl:Gl)(p:A4):Prop
 |early (l:V) (ok:Bool) (ua:mY k prog gl 25 [.agg (wr p)] (.br [l,.bool ok])) (hl:aV l=l) (ht:∀env t,qF env t (some l)=some (l,env)) (h:ok=false\/p.a.2.length<2)
 |full (vs:aD) (a0 a1:bW) (tl:List bW) (f:F) (d:D) (e:V) (c:Int) (ua:mY k prog gl 25 [.agg (wr p)] (.br [.sl 2 vs .no,.bool true])) (hA:p.a.2=a0::a1::tl) (tw:mY k prog gl 14 [zX p.nl p.l] (.br [fv f,.bN])) (Gr:mY k prog gl 28 [fv f,iv (true,dH a0 a1 p.l.length)] (.br [iL d,e])) (E0:mY k prog gl 43 [e] (.int .i64 c))
  (h:(∃t o,e=.dF t (.obj o)/\c=11)\/(e=.bN/\c=0/\∃d0 d1,nth vs 0=some (iL d0)/\nth vs 1=some (iL d1)/\∀t∈p.t.2,∃a b,mY k prog gl 44 [iL d,mZ t] (.int .i64 (rK a b))/\mY k prog gl 44 [iL d0,mZ t] (.int .i64 a)/\mY k prog gl 44 [iL d1,mZ t] (.int .i64 b)))
theorem B9.mono{k k':Nat}{p:A4}(h:k<=k'):B9 k gl p->B9 k' gl p
 | .early l ok ua hl ht g=>.early l ok (ua.mono h) hl ht g
 | .full vs a0 a1 tl f d e c ua hA tw Gr E0 g=>.full vs a0 a1 tl f d e c (ua.mono h) hA (tw.mono h) (Gr.mono h) (E0.mono h) (g.imp id λ⟨x,y,d0,d1,m0,m1,g⟩=>⟨x,y,d0,d1,m0,m1,λt ht=>by
  obtain⟨a,b,x,y,z⟩:=g t ht
  exact⟨a,b,x.mono h,y.mono h,z.mono h⟩⟩)
theorem kn9(hg:GK gl ez)(h42:ez.any (Nat.beq 42)=false)(h9:ez.any (Nat.beq 9)=false)(p:A4)(hp:BP p){k:Nat}(sI:mY k prog gl 26 [] (.bool true))(hB:B9 k gl p):Kn prog gl 9 [.agg (wr p)] (.bool true):=by
 have Rf:=eV;have Ii:=hp.Cd
 have W1:=hp.a.1;have Ai:=hp.tl;refine⟨_,vz hg func9 rfl h9 rfl (p.l.length+reachBytes+k+20) λn hn bs=>?_⟩;have Se:∀H,Cx.bB ⟨prog,gl.g,zj prog gl n,nU⟩ 26 [] H=some (.val (.bool true),H):=jt func26 rfl (sI n (by omega))
 have lA:∀g,zk prog ⟨bs++[.cells (wr p) 60],[]⟩ g 24 (.ptr bs.length 0)=some (zX p.nl p.l):=λg=>DJ KL;have lB:∀g,zk prog ⟨bs++[.cells (wr p) 60],[]⟩ g 28 (.ptr bs.length 1)=some (rv p.a):=λg=>DJ lJ;simp only[f9,zh];refine rg ?_;simp only[BW,List.replicate,z8 (zj2 p),zfh];refine rg ?_
 have mA:∀{l:V}{ok:Bool},mY k prog gl 25 [.agg (wr p)] (.br [l,.bool ok])->∀H,Cx.bB ⟨prog,gl.g,zj prog gl n,nU⟩ 25 [.agg (wr p)] H=some (.val (.br [l,.bool ok]),H):=λh=>jt func25 rfl (h n (by omega))
 rcases hB with⟨l,ok,ua,hl,ht,h⟩|⟨vs,a0,a1,tl,f,d,e,c,ua,hA,tw,Gr,E0,mC⟩
 ·have Ri:=mA ua;simp only[BW,zq9,Ri,dZ,hl,ht];refine rg ?_;cases ok with
  | false =>
   simp only[BW,iH];refine rg ?_;simp only[BW,Se];exact fz rfl ⟨rfl,_,rfl⟩
  | true =>
   have h:(p.a.2.length:Int)<2:=by rcases h with h|h;cases h;omega
   simp only[BW,iH,fH,lB,bJ,jX,h];refine rg ?_;simp only[BW,Se];exact fz rfl ⟨rfl,_,rfl⟩
 have Ri:=mA ua;have Ni:∀H,Cx.bB ⟨prog,gl.g,zj prog gl n,nU⟩ 14 [zX p.nl p.l] H=some (.val (.br [fv f,.bN]),H):=jt func14 rfl (tw n (by omega))
 have c28:∀H,Cx.bB ⟨prog,gl.g,zj prog gl n,nU⟩ 28 [fv f,iv (true,dH a0 a1 p.l.length)] H=some (.val (.br [iL d,e]),H):=jt func28 rfl (Gr n (by omega))
 have Vc:∀H,Cx.bB ⟨prog,gl.g,zj prog gl n,nU⟩ 43 [e] H=some (.val (.int .i64 c),H):=jt func43 rfl (E0 n (by omega))
 have cS:aV (.sl 2 vs .no)=.sl 2 vs .no:=rfl;have tS:∀env t,qF env t (some (.sl 2 vs .no))=some (.sl 2 vs .no,env):=λ_ _=>rfl;have hA2:¬(p.a.2.length:Int)<2:=by rw[hA];simp only[aX];omega
 have q0:p.a.2[0]?=some a0:=by rw[hA];rfl
 have q1:p.a.2[1]?=some a1:=by rw[hA];rfl
 have x0:zp prog 28 (rv p.a) 0=some (.vp [iv a0]):=OT q0;have x1:zp prog 28 (rv p.a) 1=some (.vp [iv a1]):=OT q1;have w0:=(hp.a.2 a0 (by rw[hA];simp)).1
 have w1:=(hp.a.2 a1 (by rw[hA];simp)).1
 simp only[BW,zq9,Ri,dZ,cS,tS];refine rg ?_;simp only[BW,iH,fH,lB,bJ,jX,hA2];refine rg ?_;simp only[BW];refine rg ?_;simp only[BW]
 refine qj (λm st=>∃i env,m+i=p.l.length/\st=⟨env,⟨bs++[.cells (wr p) 60],[]⟩,[],[]⟩/\Ks 128 [(1,.ptr bs.length 0),(3,.sl 2 vs .no),(5,zl 1 3 ((dH a0 a1 i).map ie)),(6,.int .i64 (i:Nat))] env) p.l.length (by omega) ⟨0,_,rfl,rfl,gE rfl⟩ ?_
 ·rintro m st ⟨i,env,tX,rfl,⟨j,rfl⟩⟩;simp only[sh,sG,Nat.reduceBEq,Nat.reduceAdd,mS,oJ];simp only[zh];refine rg ?_;simp only[BW,qi,fH,lA,qZ,yu]
  by_cases hi:i<p.l.length
  ·refine .inl ⟨by simp;omega,?_⟩
   have e0:∀H,Cx.bB ⟨prog,gl.g,zj prog gl n,nU⟩ 42 [iv a0,.int .i64 (i:Nat)] H=some (.val (.bool (hasB a0 i)),H):=jt func42 rfl (zqU hg h42 a0 (by omega) (i:Nat) n (by omega))
   have e1:∀H,Cx.bB ⟨prog,gl.g,zj prog gl n,nU⟩ 42 [iv a1,.int .i64 (i:Nat)] H=some (.val (.bool (hasB a1 i)),H):=jt func42 rfl (zqU hg h42 a1 (by omega) (i:Nat) n (by omega))
   have hs:=zoO (a:=a0) (b:=a1) (n:=i);have iU:=u7 (a:=a0) (b:=a1) (n:=i);obtain⟨B,Gs⟩:∃B,B=(hasB a0 i || hasB a1 i):=⟨_,rfl⟩
   rw[<- Gs] at hs;refine MG 128 [(1,.ptr bs.length 0),(3,.sl 2 vs .no),(5,zl 1 3 ((dH a0 a1 i).map ie)),(6,.int .i64 (i:Nat)),(51,.bool B)] ?_ λenv ⟨j,he⟩=>?_
   ·refine rg ?_;cases b0:hasB a0 i with
    | true =>
     rw[b0] at e0 Gs;obtain rfl:B=true:=Gs;simp only[BW,fH,lB,bJ,x0,OU,bC,e0];exact⟨_,rfl,gE rfl⟩
    | false =>
     rw[b0] at e0 Gs;obtain rfl:B=hasB a1 i:=Gs;simp only[BW,fH,lB,bJ,x0,x1,OU,bC,e0,e1];exact⟨_,rfl,gE rfl⟩
   subst he;simp only[sh,sG,Nat.reduceBEq,Nat.reduceAdd,mS,oJ];cases B with
   | false =>
    rw[if_neg Bool.false_ne_true] at hs;simp only[BW];refine rg ?_;simp only[BW,z6 (show i<2 ^ 60 by omega)]
    refine⟨m - 1,by omega,i+1,_,by omega,rfl,?_⟩
    rw[hs];exact gE rfl
   | true =>
    rw[if_pos rfl] at hs;generalize dH a0 a1 i=L at hs iU ⊢;have fy:=jD DA (H:=⟨bs++[.cells (wr p) 60],[]⟩) (xs:=L.map ie) (ys:=[V.int .i64 (i:Nat)]) (o:=.no) (by simp) (Vm.dD (by simp;omega) (by simp;omega))
    have FL:=DA.Cc (v:=.int .i64 (i:Nat)) rfl rfl;have RX:zl 1 3 (L.map ie++[V.int .i64 (i:Nat)])=.sl 1 (L.map ie++[V.int .i64 (i:Nat)]) (.yes 3):=by cases L<;>rfl
    have M_:zl 1 3 ((dH a0 a1 (i+1)).map ie)=.sl 1 (L.map ie++[V.int .i64 (i:Nat)]) (.yes 3):=by rw[hs,<- RX];simp[ie]
    rw[RX] at fy;simp only[BW];refine ww (tk:=[52]) (by kernel_rfl) ?_
    have tO:∀l env s,qF env s (some (.sl 1 l (.yes 3)))=some (.sl 1 l (.yes 3),env.set s (.sl 1 l .no)):=λ_ _ _=>rfl;cases L with
    | nil =>
     simp only[bp,aZ,zl] at fy M_ ⊢;simp only[BW,Nat.reduceEqDiff,jT (cx:=⟨prog,gl.g,zj prog gl n,nU⟩) (show p_ prog nU 27=false by kernel_rfl),FL,tO,xR,fy]
     refine rg ?_;simp only[BW,z6 (show i<2 ^ 60 by omega)]
     refine⟨m - 1,by omega,i+1,_,by omega,rfl,?_⟩
     rw[M_];exact gE rfl
    | cons x L =>
     simp only[bg,bh,zl] at fy M_ ⊢;simp only[BW,Nat.reduceEqDiff,jT (cx:=⟨prog,gl.g,zj prog gl n,nU⟩) (show p_ prog nU 27=false by kernel_rfl),FL,tO,xR,fy]
     refine rg ?_;simp only[BW,z6 (show i<2 ^ 60 by omega)]
     refine⟨m - 1,by omega,i+1,_,by omega,rfl,?_⟩
     rw[M_];exact gE rfl
  ·obtain rfl:i=p.l.length:=by omega
   refine .inr ⟨by simp,?_⟩
   have hz:(V.agg zF).cells=zF:=rfl;have ES:(V.agg [.aG,.aG]).cells=[.aG,.aG]:=rfl;have qN:aV V.bN=.bN:=rfl;have tN:∀env s,qF env s (some V.bN)=some (.bN,env):=λ_ _=>rfl;have he:aV e=e/\∀env s,qF env s (some e)=some (e,env):=by
    rcases mC with⟨t,o,rfl,_⟩|⟨rfl,_⟩<;>exact⟨rfl,λ_ _=>rfl⟩
   refine rg ?_;simp only[BW,fH,lA,qZ,Ni,dZ,Nh,qN,tN,Js,zJ (show dz (.agg zF)=true from rfl),hz,OL,Ve];refine rg ?_;simp only[BW,Nat.reduceAdd,zqj,Nh,zoS,bC,c28,dZ,M8,he,aat,zJ (show dz (.agg [.aG,.aG])=true from rfl),ES,U4,zrH];refine rg ?_
   rcases mC with⟨t,o,rfl,rfl⟩|⟨rfl,rfl,d0,d1,m0,m1,Wx⟩
   ·simp only[BW,qN,he,R6,Vc,beq_self_eq_true];refine rg ?_;simp only[BW,qN,zq7,Se];exact fz rfl ⟨rfl,_,rfl⟩
   ·simp only[BW,qN,R6,Vc,show((0:Int) == 11)=false from rfl];refine rg ?_;simp only[BW,qN,R6];refine rg ?_;simp only[BW];obtain⟨M,hM1,R3,hM3⟩:∃m,m<=p.t.2.length/\m<=6/\(m=p.t.2.length\/m=6):=⟨min p.t.2.length 6,by omega,by omega,by omega⟩
    have lD:∀g,zk prog ⟨bs++[.cells (wr p) 60,.cells (fc f) 30,.cells [rv d.1,iv d.2] 66],[]⟩ g 66 (.ptr (bs.length+2) 0)=some (iL d):=λg=>zrI;have lT:∀g,zk prog ⟨bs++[.cells (wr p) 60,.cells (fc f) 30,.cells [rv d.1,iv d.2] 66],[]⟩ g 58 (.ptr bs.length 2)=some (Gq p.t):=λg=>zrG Sb (zrD p).2.2
    refine qj (λm st=>∃i env,m+i=M/\st=⟨env,⟨bs++[.cells (wr p) 60,.cells (fc f) 30,.cells [rv d.1,iv d.2] 66],[]⟩,[],[]⟩/\Ks 128 [(1,.ptr bs.length 0),(3,.sl 2 vs .no),(9,.ptr (bs.length+2) 0),(11,.int .i64 (i:Nat))] env) M (by omega) ⟨0,_,rfl,rfl,gE rfl⟩ ?_
    rintro m st ⟨i,env,tX,rfl,⟨j,rfl⟩⟩;simp only[sh,sG,Nat.reduceBEq,Nat.reduceAdd,mS,oJ];simp only[zh];refine rg ?_
    by_cases hi:i<M
    ·have h1:(i:Int)<p.t.2.length:=by omega
     have h2:(i:Int)<6:=by omega
     simp only[BW,qi,fH,lT,OW,zgr,h1,h2];obtain⟨t,ht⟩:∃t,p.t.2[i]?=some t:=⟨p.t.2[i]'(by omega),by simp[show i<p.t.2.length by omega]⟩
     obtain⟨a,b,g0,g1,g2⟩:=Wx t (nB ht);have v0:∀H,Cx.bB ⟨prog,gl.g,zj prog gl n,nU⟩ 44 [iL d,mZ t] H=some (.val (.int .i64 (rK a b)),H):=jt func44 rfl (g0 n (by omega))
     have v1:∀H,Cx.bB ⟨prog,gl.g,zj prog gl n,nU⟩ 44 [iL d0,mZ t] H=some (.val (.int .i64 a),H):=jt func44 rfl (g1 n (by omega))
     have v2:∀H,Cx.bB ⟨prog,gl.g,zj prog gl n,nU⟩ 44 [iL d1,mZ t] H=some (.val (.int .i64 b),H):=jt func44 rfl (g2 n (by omega))
     have y0:zp prog 61 (.sl 2 vs .no) 0=some (.vp [rv d0.1,iv d0.2]):=zj5 m0;have y1:zp prog 61 (.sl 2 vs .no) 1=some (.vp [rv d1.1,iv d1.2]):=zj5 m1;have tB:∀env s,qF env s (some (mZ t))=some (mZ t,env):=λenv s=>by
      unfold mZ;rcases bZ 1 t.1 (t.2.map be) with h|⟨_,h⟩<;>rw[h]<;>rfl
     have cD:∀d:D,aV (.vp [rv d.1,iv d.2])=.vp [rv d.1,iv d.2]:=λ_=>rfl;refine .inl ?_;refine rg ?_;simp only[BW,fH,lT,OW,zoR ht,zra,MH,tB];refine rg ?_;simp only[BW,lD,M8,MH,v0];refine rg ?_;simp only[BW,cS,y0,cD,zmV,M8,MH,v1];refine rg ?_
     simp only[BW,cS,y1,cD,zmV,M8,MH,v2];refine rg ?_;simp only[BW];obtain⟨B,Gs⟩:∃B,B=(cJ a 0 || (lO 0 b && cJ b a)):=⟨_,rfl⟩
     refine MG 128 [(1,.ptr bs.length 0),(3,.sl 2 vs .no),(9,.ptr (bs.length+2) 0),(11,.int .i64 (i:Nat)),(13,.int .i64 (rK a b)),(15,.int .i64 b),(16,.int .i64 a),(122,.bool B)] ?_ λenv ⟨j,he⟩=>?_
     ·refine rg ?_
      by_cases z1:a<0
      ·obtain rfl:B=true:=by rw[Gs];simp[cJ,z1]
       simp only[BW,z1];exact⟨_,rfl,gE rfl⟩
      ·by_cases z2:0<=b
       ·obtain rfl:B=decide (b<a):=by rw[Gs];simp[cJ,lO,z1,z2]
        simp only[BW,z1,ge_iff_le,z2];exact⟨_,rfl,gE rfl⟩
       ·obtain rfl:B=false:=by rw[Gs];simp[cJ,lO,z1,z2]
        simp only[BW,z1,ge_iff_le,z2];exact⟨_,rfl,gE rfl⟩
     subst he;simp only[sh,sG,Nat.reduceBEq,Nat.reduceAdd,mS,oJ];have hN:∀z:Int,(z != z)=false:=λz=>by simp
     cases B with
     | true =>
      rw[zoP Gs.symm];simp only[BW];refine rg ?_;simp only[BW];refine rg ?_;simp only[BW,hN];refine rg ?_;simp only[BW,z6 (show i<2 ^ 60 by omega)]
      exact⟨m - 1,by omega,i+1,_,by omega,rfl,gE rfl⟩
     | false =>
      rw[zoQ Gs.symm];simp only[BW];refine rg ?_;simp only[BW,hN];refine rg ?_;simp only[BW,z6 (show i<2 ^ 60 by omega)]
      exact⟨m - 1,by omega,i+1,_,by omega,rfl,gE rfl⟩
    ·by_cases h1:(i:Int)<p.t.2.length
     ·have h2:¬(i:Int)<6:=by omega
      simp only[BW,qi,fH,lT,OW,zgr,h1,h2];refine .inr ?_;refine rg ?_;simp only[BW,Se];exact fz rfl ⟨rfl,_,rfl⟩
     ·simp only[BW,qi,fH,lT,OW,zgr,h1];refine .inr ?_;refine rg ?_;simp only[BW,Se];exact fz rfl ⟨rfl,_,rfl⟩
end
end Go.Proofs.YthohlnmcjkjeiaaGreatDoor.A2
namespace Go.Proofs.YthohlnmcjkjeiaaGreatDoor
open Go Go.Vm
open Go.Proofs.Tryz
set_option maxRecDepth 100000
section
open Go.Vm.Sx
theorem zmW{l:List Cr}(h:Jj l)(he:bE l=.bN):∃k:Nat,yP l=((k:Int),true)/\k<=1000/\k=mN (l.map ff)/\l.length<=200/\nt 0 l=((k:Int),true)/\(∀c∈l,nodes c.1<=1800/\nodes c.2.2<=1800)/\∀e∈l.map ff,gd e=true:=by
 obtain⟨p,ok,Ay⟩:∃p ok,yP l=(p,ok):=⟨_,_,rfl⟩;rw[bE,Ay] at he;cases ok with
 | false=>cases he
 | true =>
  simp only[mS] at he;have hp:p<=1000:=by
   rcases Int.lt_or_le 1000 p with h|h
   ·rw[if_pos h] at he;cases he
   ·exact h
  have hlen:l.length<=200/\nt 0 l=(p,true):=by
   unfold yP at Ay;cases hx:cJ 200 (l.length:Int) with
   | true=>rw[hx] at Ay;simp at Ay
   | false =>
    rw[hx] at Ay;simp only[oJ] at Ay;refine⟨?_,Ay⟩;rcases eM 200 l.length with hh|hh
    ·rw[Kb (by omega)] at hx;cases hx
    ·exact hh
  have Gi:∀c∈l,nodes c.1<=1800/\nodes c.2.2<=1800:=by
   rcases h.nod with hh|hh
   ·omega
   ·exact hh
  obtain⟨m1,_,m3⟩:=C8 l 0 Gi (by omega) (by omega) (by rw[hlen.2]) (by rw[hlen.2];exact hp)
  rw[hlen.2] at m1;simp only[Int.zero_add] at m1;exact⟨mN (l.map ff),by rw[Ay,m1],by omega,rfl,hlen.1,by rw[hlen.2,m1],Gi,m3⟩
theorem ziO{n:Nat}(es:List E):∀(r:Nat)(m:Mk),(qt n r es m).1.length=es.length:=by
 induction es with
 | nil=>intro r m;rfl
 | cons e es ih=>intro r m;simp only[qt,aX,ih]
theorem zmX{p:Nat->Bool}:(jg p 19).length<=1216:=by
 have:=xp (p:=p) 19;rw[xH,gk] at this;omega
end
section
variable{gl:Gl}
theorem ED:prog.underlying 27=some (.slice 3):=by kernel_rfl
theorem Sf:z4 prog 27=some 1:=by kernel_rfl
theorem BQ:qz prog 27=some false:=by kernel_rfl
theorem ziP{H:Hp}{p:A2.bW}:qX prog H 27 (A2.iv p)=some ((p.2.length:Nat):Int):=by
 rcases Sx.bZ 1 p.1 (p.2.map A2.ie) with e|⟨e0,e⟩
 ·simp[A2.iv,e,qX]
 ·have:p.2=[]:=by simpa using e0
  rw[A2.iv,e,this];simp[qX]
theorem zmY{sz:Nat}{nl:Bool}{l:aD}{k:Nat}{v:V}(h:l[k]?=some v):Sx.lv sz nl l=.sl sz l .no:=by
 rcases Sx.bZ sz nl l with e|⟨e0,e⟩
 ·exact e
 ·rw[e0] at h;simp at h
theorem ziQ{p:A2.bW}{k:Nat}{z:Int}(h:p.2[k]?=some z):zp prog 27 (A2.iv p) ((k:Nat):Int)=some (.vp [.int .i64 z]):=by
 have hn:(p.2.map A2.ie)[k]?=some (A2.ie z):=by rw[iX,h];rfl
 rw[A2.iv,zmY hn];simp only[zp,ED,uA,Ac,zg,hn];simp[A2.ie,V.cells]
theorem zmZ{H:Hp}{z:Int}:zk prog H gl.g 3 (.vp [.int .i64 z])=some (.int .i64 z):=by
 simp[zk,iS,wg,zg]
theorem Vf{p:A2.gJ}{k:Nat}{r:A2.bW}(h:p.2[k]?=some r):zp prog 28 (A2.rv p) ((k:Nat):Int)=some (.vp [A2.iv r]):=by
 have hn:(p.2.map A2.iv)[k]?=some (A2.iv r):=by rw[iX,h];rfl
 have hc:(A2.iv r).cells=[A2.iv r]:=by
  rcases Sx.bZ 1 r.1 (r.2.map A2.ie) with e|⟨_,e⟩<;>rw[A2.iv,e]<;>rfl
 rw[A2.rv,zmY hn];simp only[zp,Nc,Sf,Ac,zg,hn,hc];simp
theorem Vg{H:Hp}{r:A2.bW}:zk prog H gl.g 27 (.vp [A2.iv r])=some (A2.iv r):=by
 simp[zk,BQ,wg,zg]
def wU(l:List Int)(q:Nat):Nat:=l.foldl (λq n=>q ||| 2 ^ n.toNat) q
def qc(rows:List A2.bW)(l:List Int)(q:Nat):Nat:=l.foldl (λq r=>wU ((rows[r.toNat]?).map (·.2) |>.getD []) q) q
theorem zeh{l:List Int}{z:Int}{q:Nat}:wU (l++[z]) q=wU l q ||| 2 ^ z.toNat:=by simp[wU]
theorem zgt{rows:List A2.bW}{l:List Int}{r:Int}{row:A2.bW}{q:Nat}(h:rows[r.toNat]?=some row):qc rows (l++[r]) q=wU row.2 (qc rows l q):=by
 simp[qc,h]
theorem zk5(hg:GS gl){n bm m:Nat}{f:A2.F}{act:A2.bW}{tM:aB}{mc:aD}(oN:f.s.2.length<2 ^ 36)(hnf:f.f.2.length<2 ^ 36)(Ir:m=(f.s.2.length+f.f.2.length) / 8+1)
  (ha:∀r∈act.2,0<=r/\r.toNat<f.f.2.length) (hr:∀row∈f.f.2,row.2.length<n+1/\row.2.length<2 ^ 60/\∀z∈row.2,0<=z/\z.toNat<f.s.2.length+f.f.2.length) (han:act.2.length<n+1) (sQ:act.2.length<2 ^ 60) {bs:List aY} {es:aO}
  (hM:nth bs bm=some (.cells mc tM)) (DO:nth mc 0=some (A2.qv f.s)) (R3:nth mc 2=some (A2.rv f.f)) :
  zj prog gl (n+1+1) 113 [.ptr bm 0,A2.iv act] ⟨bs,es⟩=some (.ret (cG m bs.length),⟨bs++[.cells (dL m (qc f.f.2 act.2 0)) 5],es⟩):=by
 have B_:bm<bs.length:=by rw[zg] at hM;exact(cZ.1 hM).1
 suffices bL:(go ⟨prog,gl,zj prog gl (n+1),eu⟩ (n+1) (Fx prog f113.results.toList λw H1=>w=cG m bs.length/\H1=⟨bs++[.cells (dL m (qc f.f.2 act.2 0)) 5],[]⟩) [.c (f113.body.getD .skip)] .normal ⟨[.ptr bm 0,A2.iv act]++List.replicate 47 (.br []),⟨bs,[]⟩,[],[]⟩) by
  obtain⟨w,H1,h0,rfl,rfl⟩:=zQ (gl:=gl) (f:=113) (bs:=bs) (es:=es) (args:=[.ptr bm 0,A2.iv act]) (n:=n+1) (hg.hk _ _ (by decide)) (λH=>hg.fA _ _ _ _ (by decide)) func113 rfl (by rw[hg.uq];exact bL)
  rw[h0,yL (by simp only[V.top,cG];omega)]
  rfl
 let Hz:Nat->Hp:=λq=>⟨bs++[.cells (dL m q) 5],[]⟩
 have gM:∀q,(Hz q).get bm=some (.cells mc tM):=λq=>by
  show nth _ _=_;rw[zg,gb B_,<- zg,hM]
 have lS0:zk prog ⟨bs,[]⟩ gl.g 26 (.ptr bm 0)=some (A2.qv f.s):=zt nh hM DO;have lF0:zk prog ⟨bs,[]⟩ gl.g 28 (.ptr bm 2)=some (A2.rv f.f):=zt oE hM R3;have lF:∀q,zk prog (Hz q) gl.g 28 (.ptr bm 2)=some (A2.rv f.f):=λq=>zt oE (gM q) R3
 have Ae:Cx.bB ⟨prog,gl.g,zj prog gl (n+1),eu⟩ 108 [.int .i64 ((f.s.2.length+f.f.2.length:Nat):Int)] ⟨bs,[]⟩=some (.val (cG m bs.length),Hz 0):=by
  refine zu func108 rfl ?_;have:=xw hg (n:=n) (k:=f.s.2.length+f.f.2.length) (by omega) (bs:=bs) (es:=[])
  rw[<- Ir] at this;exact this
 have om:∀q (z:Int),0<=z->z.toNat<f.s.2.length+f.f.2.length->Cx.bB ⟨prog,gl.g,zj prog gl (n+1),eu⟩ 109 [cG m bs.length,A2.ie z] (Hz q)=some (.val (.br []),Hz (q ||| 2 ^ z.toNat)):=λq z h0 h1=>by
  refine zu func109 rfl ?_;have:=Z6 hg (n:=n) (k:=z.toNat) (m:=m) (p:=q) (b:=bs.length) (by omega) (by omega) (bs:=bs++[.cells (dL m q) 5]) (es:=[]) (by rw[zg,fI (dA _)];simp)
  rw[show((z.toNat:Nat):Int)=z by omega] at this
  refine this.trans ?_;simp[Hz]
 have ni:∀c,aV (cG m c)=cG m c:=λ_=>rfl;have eZ:∀c env t,qF env t (some (cG m c))=some (cG m c,env):=λ_ _ _=>rfl;simp only[f113,fS,zh];refine zi ?_;simp only[BA,aj,aq,bS,bT,List.replicate]
 refine ja (tk:=[]) (by kernel_rfl) (by kernel_rfl) ?_
 simp only[BA,av,ak,aq,aa,ah,aA,au,zd,ze,bS,bT,lS0,lF0,nh,oE,mb,m4,AA,A2.eo,A2.bJ,xK,R1,xr (show f.s.2.length+f.f.2.length<2 ^ 60 by omega),Ae,eZ]
 refine zi ?_;simp only[BA,ak,aj,aq,zd,ze,bS,bT,A2.bC,ziP]
 refine qj (λk s=>∃i env,k+i=act.2.length/\s=⟨env,Hz (qc f.f.2 (act.2.take i) 0),[],[]⟩/\env.length=49/\nth env 0=some (.ptr bm 0)/\nth env 5=some (cG m bs.length)/\nth env 24=some (A2.iv act)/\nth env 25=some (.int .i64 (act.2.length:Nat))/\nth env 26=some (.int .i64 (i:Nat))) act.2.length han ⟨0,_,rfl,rfl,rfl,rfl,rfl,rfl,rfl,rfl⟩ ?_;rintro k s ⟨i,env,hki,rfl,hlen,h0,h5,Cm,ua,sI⟩
 simp only[zh];refine zi ?_;simp only[BA,ak,aq,za,Nat.reduceLT,ua,sI,hlen,qT]
 by_cases hi:i<act.2.length
 ·refine .inl ⟨by simp;omega,?_⟩
  obtain⟨r,rS⟩:∃r,act.2[i]?=some r:=⟨_,gj hi⟩;obtain⟨hr0,oU⟩:=ha r (nB rS);obtain⟨row,cj⟩:∃row,f.f.2[r.toNat]?=some row:=⟨_,gj oU⟩;obtain⟨sL,G4,hz⟩:=hr row (nB cj);have N6:((r.toNat:Nat):Int)=r:=by omega
  have Ce:zp prog 28 (A2.rv f.f) r=some (.vp [A2.iv row]):=by
   have:=Vf cj
   rwa [N6] at this
  have mq:act.2.take (i+1)=act.2.take i++[r]:=by rw[List.take_add_one,rS];rfl
  refine zi ?_;simp only[BA,Nat.reduceEqDiff,ak,aq,aE,za,bD,Nat.reduceLT,bw,Cm,sI,hlen,A2.bC,ziQ rS,zmZ];refine zi ?_
  simp only[BA,Nat.reduceEqDiff,ak,aj,aq,aa,ah,aE,za,bD,Nat.reduceLT,bw,h0,hlen,lF,mb,AA,A2.bJ,A2.bC,Ce,Vg,ziP]
  refine qj (λk2 s=>∃j env,k2+j=row.2.length/\s=⟨env,Hz (wU (row.2.take j) (qc f.f.2 (act.2.take i) 0)),[],[]⟩/\env.length=49/\nth env 0=some (.ptr bm 0)/\nth env 5=some (cG m bs.length)/\nth env 24=some (A2.iv act)/\nth env 25=some (.int .i64 (act.2.length:Nat))/\nth env 26=some (.int .i64 (i:Nat))/\nth env 37=some (A2.iv row)/\nth env 38=some (.int .i64 (row.2.length:Nat))/\nth env 39=some (.int .i64 (j:Nat))) row.2.length sL ?_ ?_
  ·refine⟨0,_,rfl,rfl,?_,?_,?_,?_,?_,?_,?_,?_,?_⟩<;>simp[za,hlen,h0,h5,Cm,ua,sI]
  rintro k2 s ⟨j,bH,hkj,rfl,cI,e0,e5,Sg,E1,Nk,Ju,Jv,Vh⟩;simp only[zh];refine zi ?_;simp only[BA,ak,aq,za,Nat.reduceLT,Jv,Vh,cI,qT]
  by_cases hj:j<row.2.length
  ·refine .inl ⟨by simp;omega,?_⟩
   obtain⟨z,Nl⟩:∃z,row.2[j]?=some z:=⟨_,gj hj⟩;obtain⟨KH,Hj⟩:=hz z (nB Nl);have Nm:row.2.take (j+1)=row.2.take j++[z]:=by rw[List.take_add_one,Nl];rfl
   have gG:∀q,Cx.bB ⟨prog,gl.g,zj prog gl (n+1),eu⟩ 109 [cG m bs.length,.int .i64 z] (Hz q)=some (.val (.br []),Hz (q ||| 2 ^ z.toNat)):=λq=>om q z KH Hj
   refine zi ?_;simp only[BA,Nat.reduceEqDiff,ak,aq,aE,za,bD,Nat.reduceLT,bw,Ju,Vh,cI,A2.bC,ziQ Nl,zmZ];refine zi ?_
   simp only[BA,Nat.reduceEqDiff,av,ak,aq,aA,za,bD,Nat.reduceLT,bw,e5,cI,ni,gG];refine zi ?_
   simp only[BA,Nat.reduceEqDiff,ak,aj,aq,za,bD,Nat.reduceLT,bw,Vh,cI,z6 (show j<2 ^ 60 by omega),zq,aN]
   rw[show Hz (wU (row.2.take j) (qc f.f.2 (act.2.take i) 0) ||| 2 ^ z.toNat)=Hz (wU (row.2.take (j+1)) (qc f.f.2 (act.2.take i) 0)) by rw[Nm,zeh]]
   refine⟨row.2.length - 1 - j,by omega,j+1,_,by omega,rfl,?_,?_,?_,?_,?_,?_,?_,?_,?_⟩
   all_goals simp[za,cI,e0,e5,Sg,E1,Nk,Ju,Jv]
  ·refine .inr ⟨by simp;omega,?_⟩
   obtain rfl:j=row.2.length:=by omega
   simp only[qm,zN,zD,zq,bI,qD,lK,aF]
   refine zi ?_;simp only[BA,Nat.reduceEqDiff,ak,aj,aq,za,bD,Nat.reduceLT,bw,Nk,cI,z6 (show i<2 ^ 60 by omega),zq,aN]
   rw[show Hz (wU (row.2.take row.2.length) (qc f.f.2 (act.2.take i) 0))=Hz (qc f.f.2 (act.2.take (i+1)) 0) by rw[mq,zgt cj,D1]]
   refine⟨act.2.length - 1 - i,by omega,i+1,_,by omega,rfl,?_,?_,?_,?_,?_,?_⟩
   all_goals simp[za,cI,e0,e5,Sg,E1]
 ·obtain rfl:i=act.2.length:=by omega
  refine .inr ⟨by simp,?_⟩
  simp only[qm,zN,zD,zq,bI,zh,lK,aF]
  refine zi ?_;simp only[BA,Nat.reduceEqDiff,ak,aq,za,bD,Nat.reduceLT,bw,h5,hlen,ni,eZ,go_ret,zq,Fx]
  refine⟨[cG m bs.length],?_,rfl,?_⟩
  ·simp[zx,za,hlen]
  ·simp only[Hz,D1]
end
end Go.Proofs.YthohlnmcjkjeiaaGreatDoor
namespace Go.Vm
set_option maxRecDepth 100000
open Go
variable{cx:Cx}{takes:cg}{dst:fJ}{type:aB}{pos:String}{after:Array Edge}{guard:pI}{env:aD}{H:Hp}{lk:aO}{df:bP}
theorem vY{a b:aB}{x:aW}(hu:cx.uq (vi a)=true)(hm:Nat.beq a b=false):cx.op takes ⟨dst,.convert a b x,type,pos,after,guard⟩ env H lk df=iz env H lk df (Lc cx.P H a b (ak env x)):=by
 have hk:v7 cx.P a b x env=none:=by
  unfold v7;rw[hm]
 simp only[Cx.op,hk,hu];cases Lc cx.P H a b (ak env x)<;>rfl
def Vi(P:aQ)(t:aB)(H:Hp)(ok:Bool):b_->b_->b_
 | some m,some k=>match P.underlying t with
  | some (.map kt e)=>match P.underlying kt with
   | some kd=>match v6 kd k with
    | true=>match xf H m with
     | some es=>match NR P e k es with
      | some (v,f)=>some (if ok then .br [aV v,.bool f] else aV v)
      | none=>none
     | none=>none
    | false=>none
   | none=>none
  | _=>none
 | _,_=>none
theorem zcF{t : aB}{m k : aW}{ok : Bool} : cx.op takes ⟨dst, .lookup t m k ok, type, pos, after, guard⟩ env H lk df = iz env H lk df (Vi cx.P t H ok (ak env m) (ak env k)) := by
  simp only[Cx.op];refine vS ?_;simp only[je, Vi];cases ak env m with
  | none =>
    cases cx.P.underlying t with
    | none => rfl
    | some d => cases d <;> try rfl
                rename_i kt e;cases hu : cx.P.underlying kt <;> simp
  | some mv =>
    cases cx.P.underlying t with
    | none => cases ak env k <;> rfl
    | some d => cases d <;> try (cases ak env k <;> rfl)
                rename_i kt e;cases ak env k with
                | none => cases hu : cx.P.underlying kt <;> simp
                | some kv =>
                  cases hu : cx.P.underlying kt with
                  | none => simp[hu]
                  | some kd =>
                    simp only[hu, Option.bind_eq_bind, aT];cases v6 kd kv with
                    | false => rfl
                    | true =>
                      simp only[mo, fR, bw];cases xf H mv with
                      | none => rfl
                      | some es =>
                        simp only[aT];cases NR cx.P e kv es with
                        | none => rfl
                        | some q => rfl
theorem zei{t:aB}:cx.op takes ⟨dst,.makeMap t none,type,pos,after,guard⟩ env H lk df=some (.val (.map H.az.length),⟨env,H.push (.map []),lk,df⟩):=by
 simp[Cx.op,qn]
theorem zb5{t:aB}{m k x:aW}{b:Nat}{kv xv:V}{es iC:List (V×V)}(h1:ak env m=some (.map b))(h2:ak env k=some kv)(h3:ak env x=some xv)(hk:NQ cx.P t kv=true)(hb:H.get b=some (.map es))(hs:HY kv xv es=some iC)(ht:(V.br [kv,xv]).top<=b+1) :
  cx.op takes ⟨dst,.mapUpdate t m k x,type,pos,after,guard⟩ env H lk df=some (.skip,⟨env,H.set b (.map iC),lk,df⟩):=by
 simp only[Cx.op,h1,h2,h3,hk,mo,fR,bw,qp,hb,hs,eC,jd];rw[jR ht]
end Go.Vm
namespace Go.Proofs.YthohlnmcjkjeiaaGreatDoor
open Go Go.Vm
open Go.Proofs.Tryz
set_option maxRecDepth 100000
section
variable{gl:Gl}
theorem u_:∀{l:bM},(∀b∈l,b<256)->nD (l.map λb=>V.int .u8 (b:Nat))=some l
 | [],_=>rfl
 | b::l,h=>by
  have hb:=h b (eK ..);simp only[bg,nD,u_ λx hx=>h x (dU _ hx),aS]
  congr 2
  simp;omega
theorem Gt:∀{m:Nat}{l:aD},m<=l.length->xV false 1 m l=l.take m
 | 0,_,_=>rfl
 | m+1,[],h=>by simp at h
 | m+1,x::l,h=>by
  simp only[aX] at h;simp only[xV,uJ,mu,Ab];rw[Gt (by omega)]
  rfl
theorem xL{H:Hp}{m w c:Nat}(hb:H.get c=some (.cells (dL m w) 5)):Lc prog H 205 9 (some (cG m c))=some (.str (rE m w)):=by
 have gG:((dL m w).drop 0).map aV=dL m w:=by
  rw[mu];simp only[dL,List.map_map];exact List.map_congr_left λ_ _=>rfl
 have he:wA prog H 5 (.sr c 0 m m)=some (dL m w):=by
  simp only[wA,hb,Gk,tj,Option.bind_eq_bind,aT,gG];rw[if_pos (by simp[yU,Nat.ble_eq]),Gt (by rw[yU];exact dA _),r9 (by rw[yU];exact dA _)]
 simp only[Lc,Lb,Jo,cG,he,vy,U7,u5',Option.bind_eq_bind,aT];rw[dL,u_ zpV];rfl
def vh(m:Nat):Nat->bM->List (V×V)
 | _,[]=>[]
 | k,w::ws=>(.str (rE m w),.int .i64 (k:Nat))::vh m (k+1) ws
def ku(w:Nat):Nat->bM->Option Nat
 | _,[]=>none
 | k,x::xs=>if x=w then some k else ku w (k+1) xs
theorem zhW{m p q:Nat}(hp:p<2 ^ (8 * m))(hq:q<2 ^ (8 * m)):JP (.str (rE m p)) (.str (rE m q))=some (q == p):=by
 simp only[JP,zjC hp hq]
 congr 1
 exact EI.2 ⟨λh=>by simpa using (by simpa using h:p=q).symm,λh=>by simpa using (by simpa using h:q=p).symm⟩
theorem zhX{m w:Nat}(hw:w<2 ^ (8 * m)):∀{ws:bM}{k:Nat},(∀x∈ws,x<2 ^ (8 * m))->JQ (.str (rE m w)) (vh m k ws)=some ((ku w k ws).map λi=>.int .i64 (i:Nat))
 | [],_,_=>rfl
 | x::ws,k,h=>by
  simp only[vh,JQ,zhW hw (h x (eK ..)),ku]
  by_cases e:x=w
  ·simp[e]
  ·have:(x == w)=false:=by simpa using e
   simp only[this,if_neg e];exact zhX hw λy hy=>h y (dU _ hy)
theorem zgu{m w:Nat}(hw:w<2 ^ (8 * m)):∀{ws:bM}{k:Nat},(∀x∈ws,x<2 ^ (8 * m))->ku w k ws=none->HY (.str (rE m w)) (.int .i64 ((k+ws.length:Nat):Int)) (vh m k ws)=some (vh m k (ws++[w]))
 | [],_,_,_=>rfl
 | x::ws,k,h,hn=>by
  simp only[ku] at hn;split at hn
  ·cases hn
  ·rename_i e;have:(x == w)=false:=by simpa using e
   simp only[vh,HY,zhW hw (h x (eK ..)),this,aX,bh];rw[show k+(ws.length+1)=(k+1)+ws.length by omega,zgu hw (λy hy=>h y (dU _ hy)) hn]
   rfl
theorem zej{m:Nat}:∀{ws:bM}{k:Nat},(vh m k ws).length=ws.length
 | [],_=>rfl
 | _::ws,k=>by simp[vh,zej]
theorem Gu:prog.underlying 207=some (.map 9 3):=by kernel_rfl
theorem zek{H:Hp}{m w d:Nat}{ws:bM}(hw:w<2 ^ (8 * m))(DD:∀x∈ws,x<2 ^ (8 * m))(hb:H.get d=some (.map (vh m 0 ws))) :
  Vi prog 207 H true (some (.map d)) (some (.str (rE m w)))=some (.br [.int .i64 (((ku w 0 ws).getD 0:Nat):Int),.bool (ku w 0 ws).isSome]):=by
 simp only[Vi,Gu,U7,v6,xf,hb,NR,zhX hw DD];cases ku w 0 ws with
 | none=>simp[U_,aV]
 | some i=>simp[aV]
theorem zm0{s:bM}:NQ prog 207 (.str s)=true:=by
 simp only[NQ,Gu,U7,v6]
theorem zj8{H:Hp}{d:Nat}{es:List (V×V)}(hb:H.get d=some (.map es)):qX prog H 207 (.map d)=some ((es.length:Nat):Int):=by
 simp only[qX,Gu,hb]
end
section
variable{gl:Gl}
def nj(f:A2.F)(xs cls:aD)(ld:V):aD:=A2.qv f.s::A2.iv f.r::A2.rv f.f::A2.rv f.n::zl 1 205 xs::(cls++[ld])
def vk(es:aO)(b:Nat)(v:V):aO:=if v.top<=b+1 then es else (b,v.top)::es
theorem gz{B:List aY}{es:aO}{b:Nat}{v:V}:Hp.bQ ⟨B,es⟩ b v=⟨B,vk es b v⟩:=by
 unfold Hp.bQ vk;split<;>rfl
section
variable{P:aQ}{t n:aB}{B:List aY}{off bm:Nat}{cs:aD}{ty e:aB}{xs ys:aD}{env:aD}{df:bP}{es:aO}
theorem Sh(ha:qz P t=some false)(hb:nth B bm=some (.cells cs ty))(hn:nth cs off=some (zl n e xs)) :
  vU P t env ⟨B,es⟩ [] df (some (.ptr bm off))=some (.val (zl n e xs),⟨env,⟨B.set bm (.cells (cs.set off (oC n xs)) ty),es⟩,kE bm off xs,df⟩):=by
 rw[Ur ha (show Hp.get ⟨B,es⟩ bm=_ from hb) hn];rfl
theorem Vj(hs:z4 P t=some 1)(bR:bm<B.length)(ho:off<cs.length) :
  qr P t ⟨B.set bm (.cells (cs.set off (oC n xs)) ty),es⟩ (kE bm off xs) df (some (zl n e ys,env)) (some (.ptr bm off))=some (.skip,⟨env,⟨B.set bm (.cells (cs.set off (zl n e ys)) ty),vk es bm (zl n e ys)⟩,kE bm off xs,df⟩):=by
 rw[zy hs (show Hp.get ⟨_,es⟩ bm=some (.cells (cs.set off (oC n xs)) ty) by show nth _ _=_;simp[zg,bR]) Qu (by rw[vu];rfl) (by rw[bD];omega) (Qt ho)]
 simp only[Hp.set,List.set_set,vu,Vm.storeCells,gz]
end
theorem Gv:qz prog 30=some true:=by kernel_rfl
theorem Gw:z4 prog 30=some 4:=by kernel_rfl
theorem Nn:zB prog 30 3=some 3:=by kernel_rfl
theorem C':mW prog 201 205 1 24:=⟨by kernel_rfl,by kernel_rfl,by kernel_rfl,by decide,by kernel_rfl,by kernel_rfl,by kernel_rfl⟩
theorem zm1(f:A2.F):(A2.fc f).map aV=A2.fc f:=by
 simp[A2.fc,A2.eo,A2.bC,A2.bJ]
theorem zqk{f:A2.F}{env:aD}(h:nth env 17=some (A2.fv f)):ky prog 204 #[(0,.tmp 17)] env=some (.agg (nj f [] (List.replicate 256 (.int .i64 0)) .aG)):=by
 rw[zbF (bH:=List.replicate 17 .dW++[A2.fv f]) (xs:=[.tmp 17]) (λt ht=>?_) (by simp)]
 ·kernel_rfl
 ·have:t=17:=by simpa using ht
  subst this;rw[<- zg,h];rfl
theorem zoT{f:A2.F}{a0 a1 a2 a3 a4 a5 a6 a7 a8 a9 a10 a11 a12 a13 a14 a15 a16:V}{r:aD}:ky prog 204 #[(0,.tmp 17)] (a0::a1::a2::a3::a4::a5::a6::a7::a8::a9::a10::a11::a12::a13::a14::a15::a16::A2.fv f::r)=some (.agg (nj f [] (List.replicate 256 (.int .i64 0)) .aG)):=zqk rfl
theorem zoU{f:A2.F}:(nj f [] (List.replicate 256 (.int .i64 0)) .aG).map aV=nj f [] (List.replicate 256 (.int .i64 0)) .aG:=by
 simp only[nj,zl,bg,List.map_append,List.map_replicate,bp,A2.eo,A2.bC,A2.bJ,dg,zR]
def xx(r:A2.bW):Nat:=wU r.2 0
def eL(bs:List aY)(f:A2.F)(xs cls:aD)(ld:V)(rest:List aY):List aY:=bs++(.cells (A2.fc f) 30::.cells (nj f xs cls ld) 204::rest)
def yN(m:Nat)(rows:List A2.bW):List aY:=rows.map λr=>.cells (dL m (xx r)) 5
def yQ(m b k:Nat):aD:=(List.range k).map λj=>cG m (b+j)
section
variable{bs:List aY}{f:A2.F}{xs cls CC Si:aD}{ld HF:V}{rest:List aY}{x:aY}{i:Nat}
theorem OX:(eL bs f xs cls ld rest).length=bs.length+2+rest.length:=by simp[eL];omega
theorem Gx:nth (eL bs f xs cls ld rest) bs.length=some (.cells (A2.fc f) 30):=by
 rw[eL,zg,fI (dA _)];simp
theorem DQ:nth (eL bs f xs cls ld rest) (bs.length+1)=some (.cells (nj f xs cls ld) 204):=by
 rw[eL,zg,fI (by omega)];simp
theorem v_:nth (eL bs f xs cls ld rest) (bs.length+2+i)=nth rest i:=by
 rw[eL,zg,zg,fI (by omega),show bs.length+2+i - bs.length=i+1+1 by omega];simp
theorem zel:(eL bs f xs cls ld rest).set (bs.length+1) (.cells (nj f CC Si HF) 204)=eL bs f CC Si HF rest:=by
 rw[eL,Aa _ _ (by omega)];simp[eL]
theorem pV:eL bs f xs cls ld rest++[x]=eL bs f xs cls ld (rest++[x]):=by simp[eL]
theorem Vk:(eL bs f xs cls ld rest).set (bs.length+2+i) x=eL bs f xs cls ld (rest.set i x):=by
 rw[eL,Aa _ _ (by omega),show bs.length+2+i - bs.length=i+1+1 by omega];simp[eL]
end
theorem Vl{rs:List aY}{x y:aY}{i:Nat}(h:rs.length=i):(rs++[x]).set i y=rs++[y]/\nth (rs++[x]) i=some x:=by
 subst h;constructor
 ·rw[Aa _ _ (dA _)];simp
 ·rw[zg,fI (dA _)];simp
theorem zem{env:aD}{t:Nat}{r:A2.bW}:qF env t (some (A2.iv r))=some (A2.iv r,env):=by
 rcases Sx.bZ 1 r.1 (r.2.map A2.ie) with e|⟨_,e⟩<;>rw[A2.iv,e]<;>rfl
theorem zk6{m b k:Nat}:yQ m b (k+1)=yQ m b k++[cG m (b+k)]:=by simp[yQ,List.range_succ]
theorem zk7{m k:Nat}{rows:List A2.bW}{r:A2.bW}(h:rows[k]?=some r):yN m (rows.take (k+1))=yN m (rows.take k)++[.cells (dL m (xx r)) 5]:=by
 rw[List.take_add_one,h];simp[yN]
def pF(ss:List A2.Q4)(y:Nat):Nat->Nat
 | 0=>0
 | k+1=>match ss[k]? with
  | some s=>if EA s y then pF ss y k ||| 2 ^ k else pF ss y k
  | none=>pF ss y k
def fK(w:Nat->Nat):Nat->bM×bM×bM
 | 0=>([],[],[])
 | y+1=>match ku (w y) 0 (fK w y).1 with
  | some i=>((fK w y).1,(fK w y).2.1++[i],(fK w y).2.2)
  | none=>((fK w y).1++[w y],(fK w y).2.1++[(fK w y).1.length],(fK w y).2.2++[y])
def xe(w:Nat->Nat)(y:Nat):aD:=(fK w y).2.1.map (λi=>.int .i64 (i:Nat))++List.replicate (256 - y) (.int .i64 0)
def uC(w:Nat->Nat)(y:Nat):V:=zl 1 5 ((fK w y).2.2.map λb=>.int .u8 (b:Nat))
theorem OY{w:Nat->Nat}:∀y,(fK w y).2.1.length=y
 | 0=>rfl
 | y+1=>by
  simp only[fK];split<;>simp[OY y]
theorem Vn{w:Nat->Nat}{y:Nat}(h:y<=256):(xe w y).length=256:=by simp[xe,OY];omega
theorem zm2{ss:List A2.Q4}{y m:Nat}:∀k,k<=8 * m->pF ss y k<2 ^ (8 * m)
 | 0,_=>Nat.pow_pos (by decide)
 | k+1,h=>by
  have h0:=zm2 (ss:=ss) (y:=y) (m:=m) k (by omega)
  simp only[pF];split
  ·split
   ·exact JL h0 (HP (by decide) (by omega))
   ·exact h0
  ·exact h0
theorem Sj{rs js:List aY}{x y:aY}{i:Nat}(h:rs.length=i):(rs++(x::js)).set i y=rs++(y::js)/\nth (rs++(x::js)) i=some x:=by
 subst h;constructor
 ·rw[Aa _ _ (dA _)];simp
 ·rw[zg,fI (dA _)];simp
theorem zcG{env:aD}{t b:Nat}:qF env t (some (.map b))=some (.map b,env):=rfl
theorem vx{b:Nat}:aV (.map b)=.map b:=rfl
theorem zhY{w:Nat->Nat}{y c:Nat}(h:y<256)(hc:(fK w (y+1)).2.1=(fK w y).2.1++[c]):(xe w y).set y (.int .i64 (c:Nat))=xe w (y+1):=by
 unfold xe;rw[hc,List.map_append,Aa _ _ (by simp[OY]),show 256 - y=(256 - (y+1))+1 by omega,HR]
 simp[OY]
theorem Sk:prog.underlying 202=some (.array 256 3):=by kernel_rfl
theorem ziR{b y:Nat}(h:y<256):zp prog 202 (.ptr b 5) ((y:Nat):Int)=some (.ptr b (5+y)):=by
 simp only[zp,Sk,uA];rw[if_pos (by omega),Ac,JN]
theorem zoV{f:A2.F}{xs cls:aD}{ld v:V}{y:Nat}(h:y<cls.length):(nj f xs cls ld).set (5+y) v=nj f xs (cls.set y v) ld:=by
 rw[JM 5 y];simp only[nj,bT];rw[GP _ _ h]
theorem zka{f:A2.F}{xs cls:aD}{ld:V}{y:Nat}(h:y<cls.length):(nj f xs cls ld)[5+y]?=cls[y]?:=by
 rw[JM 5 y];simp only[nj,List.getElem?_cons_succ];rw[gb h]
theorem zm4{w:Nat->Nat}{y i:Nat}(h:i<(xe w y).length):∃z,(xe w y)[i]?=some (.int .i64 z):=by
 have di:∀v∈xe w y,∃z,v=.int .i64 z:=by
  intro v hv;unfold xe at hv;rcases sw.1 hv with hv|hv
  ·obtain⟨a,_,ha⟩:=mg.1 hv;exact⟨_,ha.symm⟩
  ·exact⟨0,(List.mem_replicate.1 hv).2⟩
 obtain⟨z,hz⟩:=di _ (List.getElem_mem h);exact⟨z,by rw[gj h,hz]⟩
theorem zm5{f:A2.F}{xs cls:aD}{ld:V}(h:cls.length=256):nth (nj f xs cls ld) 261=some ld:=by
 rw[zg,show 261=5+256 from rfl,JM];simp only[nj,List.getElem?_cons_succ];rw[fI (by omega),h];rfl
theorem zm6{f:A2.F}{xs cls:aD}{ld v:V}(h:cls.length=256):(nj f xs cls ld).set 261 v=nj f xs cls v:=by
 rw[show 261=256+5 from rfl];simp only[nj,bT];rw[Aa _ _ (by omega),h];rfl
theorem r78:mW prog 78 5 1 1:=⟨by kernel_rfl,by kernel_rfl,by kernel_rfl,by decide,by kernel_rfl,by kernel_rfl,by kernel_rfl⟩
theorem DS:qz prog 78=some false:=by kernel_rfl
theorem zc0{w:Nat->Nat}:∀y,(fK w y).2.2.length<=y/\(fK w y).1.length<=y
 | 0=>by simp[fK]
 | y+1=>by
  have:=zc0 (w:=w) y;simp only[fK];split
  ·exact⟨K8 this.1,K8 this.2⟩
  ·simp only[aU,JI];omega
theorem dZ{l:aD}:aV (.br l)=.br l:=rfl
theorem Sl:z4 prog 50=some 4:=by kernel_rfl
theorem aaH:qP prog 50=some (.agg [.int .u64 0,.int .u64 0,.int .u64 0,.int .u64 0]):=by kernel_rfl
theorem ziS{y:Nat}(h:y<256):vy prog 3 5 (.int .i64 (y:Nat))=some (.int .u8 (y:Nat)):=by
 simp only[vy,u3',u5',Option.bind_eq_bind,aT,Qx h]
theorem zb8(hg:GS gl){n m:Nat}{f:A2.F}(oN:f.s.2.length<2 ^ 30)(hnf:f.f.2.length<2 ^ 30)(hnn:f.n.2.length<2 ^ 30)(Ir:m=(f.s.2.length+f.f.2.length) / 8+1)(hln:f.n.2.length<n+1)(AX:f.s.2.length<n+1)(hn:300<=n)
  (hr:∀row∈f.n.2,row.2.length<n+1/\row.2.length<2 ^ 60/\∀z∈row.2,0<=z/\z.toNat<f.s.2.length+f.f.2.length) (hs:∀q∈f.s.2,C9 q) {bs:List aY} {es:aO} :
  ∃dW iC,zj prog gl (n+1+1) 73 [A2.fv f] ⟨bs,es⟩=some (.ret (.ptr (bs.length+1) 0),⟨eL bs f (yQ m (bs.length+2) f.n.2.length) (xe (λy=>pF f.s.2 y f.s.2.length) 256) (uC (λy=>pF f.s.2 y f.s.2.length) 256) (yN m f.n.2++dW),iC⟩):=by
 suffices bL:(go ⟨prog,gl,zj prog gl (n+1),eu⟩ (n+1) (Fx prog f73.results.toList λw H1=>w=.ptr (bs.length+1) 0/\∃dW iC,H1=⟨eL bs f (yQ m (bs.length+2) f.n.2.length) (xe (λy=>pF f.s.2 y f.s.2.length) 256) (uC (λy=>pF f.s.2 y f.s.2.length) 256) (yN m f.n.2++dW),iC⟩) [.c (f73.body.getD .skip)] .normal ⟨[A2.fv f]++List.replicate 112 (.br []),⟨bs,[]⟩,[],[]⟩) by
  obtain⟨w,H1,h0,rfl,dW,iC,rfl⟩:=zQ (gl:=gl) (f:=73) (bs:=bs) (es:=es) (args:=[A2.fv f]) (n:=n+1) (hg.hk _ _ (by decide)) (λH=>hg.fA _ _ _ _ (by decide)) func73 rfl (by rw[hg.uq];exact bL)
  exact⟨dW,iC++es,by rw[h0,yL (by simp only[V.top];omega)]⟩
 have J8:dz (A2.fv f)=true:=rfl;have G8:∀env t,qF env t (some (A2.fv f))=some (A2.fv f,env):=λ_ _=>rfl;have nk:V.laid (A2.fv f)=A2.fc f:=zm1 f;have Aw:aV (A2.fv f)=A2.fv f:=rfl;simp only[f73,fS,zh];refine zi ?_
 simp only[BA,aj,aq,zc,zd,bS,bT,List.replicate,G8,z8 J8,nk];refine zi ?_;have Vo:(⟨bs++[.cells (A2.fc f) 30],[]⟩:Hp).get bs.length=some (.cells (A2.fc f) 30):=by
  show nth _ _=_;rw[zg,fI (dA _)];simp
 have EE:zk prog ⟨bs++[.cells (A2.fc f) 30],[]⟩ gl.g 30 (.ptr bs.length 0)=some (A2.fv f):=by
  rw[jU,Vo,jx,qu,Gv,Gw];simp[wT,A2.fv,A2.fc]
 have RR:∀env t,qF env t (some (.agg (nj f [] (List.replicate 256 (.int .i64 0)) .aG)))=some (.agg (nj f [] (List.replicate 256 (.int .i64 0)) .aG),env):=λ_ _=>rfl;have B_:V.laid (.agg (nj f [] (List.replicate 256 (.int .i64 0)) .aG))=nj f [] (List.replicate 256 (.int .i64 0)) .aG:=zoU;have Ds:dz (V.agg (nj f [] (List.replicate 256 (.int .i64 0)) .aG))=true:=rfl
 have hmc:aV (V.agg (nj f [] (List.replicate 256 (.int .i64 0)) .aG))=V.agg (nj f [] (List.replicate 256 (.int .i64 0)) .aG):=rfl;simp only[BA,ak,aq,zc,zd,ze,bS,bT,EE,Aw,zoT,RR,z8 Ds,B_]
 obtain⟨lW,Gy⟩:∃c:aD,c=List.replicate 256 (.int .i64 0):=⟨_,rfl⟩;rw[<- Gy];have aqS:lW.length=256:=by rw[Gy];simp
 have F6:bs++[aY.cells (A2.fc f) 30,.cells (nj f [] lW .aG) 204]=eL bs f [] lW .aG []:=rfl;rw[F6];have lS:∀xs cls ld rest e,zk prog ⟨eL bs f xs cls ld rest,e⟩ gl.g 26 (.ptr bs.length 0)=some (A2.qv f.s):=λ_ _ _ _ _=>zt nh Gx rfl
 have lF:∀xs cls ld rest e,zk prog ⟨eL bs f xs cls ld rest,e⟩ gl.g 28 (.ptr bs.length 2)=some (A2.rv f.f):=λ_ _ _ _ _=>zt oE Gx rfl;have lN:∀xs cls ld rest e,zk prog ⟨eL bs f xs cls ld rest,e⟩ gl.g 28 (.ptr bs.length 3)=some (A2.rv f.n):=λ_ _ _ _ _=>zt oE Gx rfl;refine zi ?_
 simp only[BA,ak,aq,ah,zd,ze,bS,bT,lS,lF,m4,AA,A2.eo,A2.bJ,xK,R1,xr (show f.s.2.length+f.f.2.length<2 ^ 60 by omega)]
 refine zi ?_;simp only[BA,ak,aj,aq,ah,zd,ze,bS,bT,lN,Nn,A2.bJ,R1];have ni:∀c,aV (cG m c)=cG m c:=λ_=>rfl;have eZ:∀c env t,qF env t (some (cG m c))=some (cG m c,env):=λ_ _ _=>rfl
 refine qj (λk s=>∃i env e,k+i=f.n.2.length/\s=⟨env,⟨eL bs f (yQ m (bs.length+2) i) lW .aG (yN m (f.n.2.take i)),e⟩,[],[]⟩/\env.length=113/\nth env 1=some (.ptr bs.length 0)/\nth env 3=some (.ptr (bs.length+1) 0)/\nth env 4=some (.int .i64 ((f.s.2.length+f.f.2.length:Nat):Int))/\nth env 28=some (A2.rv f.n)/\nth env 29=some (.int .i64 (f.n.2.length:Nat))/\nth env 30=some (.int .i64 (i:Nat))) f.n.2.length hln ⟨0,_,_,rfl,rfl,rfl,rfl,rfl,rfl,rfl,rfl,rfl⟩ ?_
 rintro k s ⟨i,env,e,hki,rfl,hlen,h1,h3,h4,Gr,OZ,uB⟩;simp only[zh];refine zi ?_;simp only[BA,ak,aq,za,Nat.reduceLT,OZ,uB,hlen,qT]
 by_cases hi:i<f.n.2.length
 ·refine .inl ⟨by simp;omega,?_⟩
  obtain⟨row,cj⟩:∃row,f.n.2[i]?=some row:=⟨_,gj hi⟩;obtain⟨sL,G4,hz⟩:=hr row (nB cj);refine zi ?_;simp only[BA,Nat.reduceEqDiff,ak,aq,aE,za,bD,Nat.reduceLT,bw,Gr,uB,hlen,A2.bJ,A2.bC,Vf cj,Vg,zem];refine zi ?_
  have J7:(yN m (f.n.2.take i)).length=i:=by simp[yN];omega
  obtain⟨bi,ID⟩:∃x,x=bs.length+2+i:=⟨_,rfl⟩;have Ae:Cx.bB ⟨prog,gl.g,zj prog gl (n+1),eu⟩ 108 [.int .i64 ((f.s.2.length+f.f.2.length:Nat):Int)] ⟨eL bs f (yQ m (bs.length+2) i) lW .aG (yN m (f.n.2.take i)),e⟩=some (.val (cG m bi),⟨eL bs f (yQ m (bs.length+2) i) lW .aG (yN m (f.n.2.take i)++[.cells (dL m 0) 5]),e⟩):=by
   refine zu func108 rfl ?_;have:=xw hg (n:=n) (k:=f.s.2.length+f.f.2.length) (by omega) (bs:=eL bs f (yQ m (bs.length+2) i) lW .aG (yN m (f.n.2.take i))) (es:=e)
   rw[<- Ir,pV,OX,J7,<- ID] at this;exact this
  simp only[BA,Nat.reduceEqDiff,av,ak,aq,aA,za,bD,Nat.reduceLT,bw,h4,hlen,Ae,eZ];refine zi ?_
  simp only[BA,Nat.reduceEqDiff,ak,aj,aq,za,bD,Nat.reduceLT,bw,hlen,A2.bC,ziP]
  have om:∀q (z:Int),0<=z->z.toNat<f.s.2.length+f.f.2.length->Cx.bB ⟨prog,gl.g,zj prog gl (n+1),eu⟩ 109 [cG m bi,.int .i64 z] ⟨eL bs f (yQ m (bs.length+2) i) lW .aG (yN m (f.n.2.take i)++[.cells (dL m q) 5]),e⟩=some (.val (.br []),⟨eL bs f (yQ m (bs.length+2) i) lW .aG (yN m (f.n.2.take i)++[.cells (dL m (q ||| 2 ^ z.toNat)) 5]),e⟩):=λq z h0 h1=>by
   refine zu func109 rfl ?_;rw[ID];have:=Z6 hg (n:=n) (k:=z.toNat) (m:=m) (p:=q) (b:=bs.length+2+i) (by omega) (by omega) (bs:=eL bs f (yQ m (bs.length+2) i) lW .aG (yN m (f.n.2.take i)++[.cells (dL m q) 5])) (es:=e) (by rw[v_];exact(Vl (y:=.cells (dL m q) 5) J7).2)
   rw[show((z.toNat:Nat):Int)=z by omega,Vk,(Vl J7).1] at this
   exact this
  refine qj (λk2 s=>∃j env,k2+j=row.2.length/\s=⟨env,⟨eL bs f (yQ m (bs.length+2) i) lW .aG (yN m (f.n.2.take i)++[.cells (dL m (wU (row.2.take j) 0)) 5]),e⟩,[],[]⟩/\env.length=113/\nth env 1=some (.ptr bs.length 0)/\nth env 3=some (.ptr (bs.length+1) 0)/\nth env 4=some (.int .i64 ((f.s.2.length+f.f.2.length:Nat):Int))/\nth env 28=some (A2.rv f.n)/\nth env 29=some (.int .i64 (f.n.2.length:Nat))/\nth env 30=some (.int .i64 (i:Nat))/\nth env 7=some (cG m bi)/\nth env 36=some (A2.iv row)/\nth env 37=some (.int .i64 (row.2.length:Nat))/\nth env 38=some (.int .i64 (j:Nat))) row.2.length sL ?_ ?_
  ·refine⟨0,_,rfl,rfl,?_,?_,?_,?_,?_,?_,?_,?_,?_,?_,?_⟩<;>simp[za,hlen,h1,h3,h4,Gr,OZ,uB]
  rintro k2 s ⟨j,bH,hkj,rfl,cI,e1,e3,e4,O0,O1,Gz,e7,Vp,Ju,Jv⟩;simp only[zh];refine zi ?_;simp only[BA,ak,aq,za,Nat.reduceLT,Ju,Jv,cI,qT]
  by_cases hj:j<row.2.length
  ·refine .inl ⟨by simp;omega,?_⟩
   obtain⟨z,Nl⟩:∃z,row.2[j]?=some z:=⟨_,gj hj⟩;obtain⟨KH,Hj⟩:=hz z (nB Nl);have Nm:row.2.take (j+1)=row.2.take j++[z]:=by rw[List.take_add_one,Nl];rfl
   have gG:=λq=>om q z KH Hj;refine zi ?_;simp only[BA,Nat.reduceEqDiff,ak,aq,aE,za,bD,Nat.reduceLT,bw,Vp,Jv,cI,A2.bC,ziQ Nl,zmZ];refine zi ?_
   simp only[BA,Nat.reduceEqDiff,av,ak,aq,aA,za,bD,Nat.reduceLT,bw,e7,cI,ni,gG];refine zi ?_
   simp only[BA,Nat.reduceEqDiff,ak,aj,aq,za,bD,Nat.reduceLT,bw,Jv,cI,z6 (show j<2 ^ 60 by omega),zq,aN]
   rw[show wU (row.2.take j) 0 ||| 2 ^ z.toNat=wU (row.2.take (j+1)) 0 by rw[Nm,zeh]]
   refine⟨row.2.length - 1 - j,by omega,j+1,_,by omega,rfl,?_,?_,?_,?_,?_,?_,?_,?_,?_,?_,?_⟩
   all_goals simp[za,cI,e1,e3,e4,O0,O1,Gz,e7,Vp,Ju]
  ·refine .inr ⟨by simp;omega,?_⟩
   obtain rfl:j=row.2.length:=by omega
   simp only[qm,zN,zD,zq,bI,lK,aF]
   rw[D1,show wU row.2 0=xx row from rfl,<- zk7 cj];obtain⟨xs,pz⟩:∃xs,xs=yQ m (bs.length+2) i:=⟨_,rfl⟩;obtain⟨rb,Hf⟩:∃rb,rb=yN m (f.n.2.take (i+1)):=⟨_,rfl⟩;have Sm:xs.length=i:=by rw[pz];simp[yQ]
   rw[<- pz,<- Hf];have hMl:bs.length+1<(eL bs f xs lW .aG rb).length:=by rw[OX];omega
   have mX:∀env,vU prog 201 env ⟨eL bs f xs lW .aG rb,e⟩ [] [] (some (.ptr (bs.length+1) 4))=some (.val (zl 1 205 xs),⟨env,⟨(eL bs f xs lW .aG rb).set (bs.length+1) (.cells ((nj f xs lW .aG).set 4 (oC 1 xs)) 204),e⟩,kE (bs.length+1) 4 xs,[]⟩):=λenv=>Sh ig DQ rfl;have lU:=C'.Cc (v:=cG m bi) rfl rfl
   have fy:∀H,j9 prog H 201 (zl 1 205 xs) (.sl 1 [cG m bi] .no)=some (zl 1 205 (xs++[cG m bi])):=λH=>jD C' (by simp) (dD (by simp[Sm];omega) (by simp[Sm];omega))
   have BR:∀env,qr prog 201 ⟨(eL bs f xs lW .aG rb).set (bs.length+1) (.cells ((nj f xs lW .aG).set 4 (oC 1 xs)) 204),e⟩ (kE (bs.length+1) 4 xs) [] (some (zl 1 205 (xs++[cG m bi]),env)) (some (.ptr (bs.length+1) 4))=some (.skip,⟨env,⟨eL bs f (xs++[cG m bi]) lW .aG rb,vk e (bs.length+1) (zl 1 205 (xs++[cG m bi]))⟩,kE (bs.length+1) 4 xs,[]⟩):=λenv=>by
    rw[Vj C'.st hMl (by simp[nj])]
    rw[show(nj f xs lW .aG).set 4 (zl 1 205 (xs++[cG m bi]))=nj f (xs++[cG m bi]) lW .aG from rfl,zel]
   refine ww (tk:=[50]) (by kernel_rfl) ?_
   simp only[BA,Nat.reduceEqDiff,ak,aq,aa,ah,za,bD,Nat.reduceLT,bw,e3,e7,cI,DM,ni,mX,lU,xR,fy,BR,jT (cx:=⟨prog,gl.g,zj prog gl (n+1),eu⟩) (show p_ prog eu 201=false by kernel_rfl)]
   have Dp:xs++[cG m bi]=yQ m (bs.length+2) (i+1):=by rw[zk6,pz,ID]
   rw[Dp,Hf];refine zi ?_;simp only[BA,Nat.reduceEqDiff,ak,aj,aq,za,bD,Nat.reduceLT,bw,Gz,cI,z6 (show i<2 ^ 60 by omega),zq,aN]
   refine⟨f.n.2.length - 1 - i,by omega,i+1,_,_,by omega,rfl,?_,?_,?_,?_,?_,?_,?_⟩
   all_goals simp[za,cI,e1,e3,e4,O0,O1]
 ·obtain rfl:i=f.n.2.length:=by omega
  refine .inr ⟨by simp,?_⟩
  simp only[qm,zN,zD,zq,bI,zh,lK,aF]
  have Hf:f.n.2.take f.n.2.length=f.n.2:=D1;rw[Hf];obtain⟨X,hX⟩:∃X,X=yQ m (bs.length+2) f.n.2.length:=⟨_,rfl⟩;obtain⟨R,hR⟩:∃R,R=yN m f.n.2:=⟨_,rfl⟩;obtain⟨mi,tX⟩:∃x,x=bs.length+2+R.length:=⟨_,rfl⟩;rw[<- hX,<- hR];obtain⟨w,hw⟩:∃w:Nat->Nat,w=λy=>pF f.s.2 y f.s.2.length:=⟨_,rfl⟩;have Vq:∀y,w y<2 ^ (8 * m):=λy=>by rw[hw];exact zm2 _ (by omega)
  have Sn:∀y,∀x∈(fK w y).1,x<2 ^ (8 * m):=by
   intro y
   induction y with
   | zero=>intro x hx;simp[fK] at hx
   | succ y ih =>
    intro x hx;simp only[fK] at hx;split at hx
    ·exact ih x hx
    ·rcases sw.1 hx with hx|hx
     ·exact ih x hx
     ·rw[oG.1 hx];exact Vq y
  refine zi ?_;have So:(eL bs f X lW .aG R).length=mi:=by rw[OX,tX]
  simp only[BA,Nat.reduceEqDiff,aq,zc,za,bD,Nat.reduceLT,bw,hlen,zei,So,pV,zcG];refine zi ?_
  simp only[BA,ak,aj,aq];have Sp:eL bs f X lW .aG (R++[.map []])=eL bs f X (xe w 0) (uC w 0) (R++(.map (vh m 0 (fK w 0).1)::[])):=by
   rw[Gy];rfl
  rw[Sp];have No:∀cls ld es j0 e,(⟨eL bs f X cls ld (R++(.map es::j0)),e⟩:Hp).get mi=some (.map es):=λcls ld es j0 e=>by
   show nth _ _=_;rw[tX,v_];exact(Sj (y:=.map es) rfl).2
  refine qj (λk s=>∃y env e j0,k+y=256/\s=⟨env,⟨eL bs f X (xe w y) (uC w y) (R++(.map (vh m 0 (fK w y).1)::j0)),e⟩,[],[]⟩/\env.length=113/\nth env 1=some (.ptr bs.length 0)/\nth env 3=some (.ptr (bs.length+1) 0)/\nth env 4=some (.int .i64 ((f.s.2.length+f.f.2.length:Nat):Int))/\nth env 10=some (.map mi)/\nth env 58=some (.int .i64 (y:Nat))) 256 (by omega) ?_ ?_
  ·refine⟨0,_,_,[],rfl,rfl,?_,?_,?_,?_,?_,?_⟩<;>simp[za,hlen,h1,h3,h4]
  clear Sp h1 h3 h4 Gr OZ uB hlen lN;rintro k s ⟨y,env,e,j0,hky,rfl,hlen,h1,h3,h4,CR,Sq⟩;simp only[zh];refine zi ?_;simp only[BA,ak,aj,aq,za,Nat.reduceLT,Sq,hlen,qT]
  by_cases hy:y<256
  ·refine .inl ⟨by simp;omega,?_⟩
   obtain⟨cls,GA⟩:∃c,c=xe w y:=⟨_,rfl⟩;obtain⟨ld,gx⟩:∃c,c=uC w y:=⟨_,rfl⟩;obtain⟨pre,gv⟩:∃p,p=R++(.map (vh m 0 (fK w y).1)::j0):=⟨_,rfl⟩;obtain⟨pc,PJ⟩:∃x,x=bs.length+2+pre.length:=⟨_,rfl⟩;rw[<- GA,<- gx,<- gv];refine zi ?_
   simp only[BA,Nat.reduceEqDiff,ak,aq,za,bD,Nat.reduceLT,bw,Sq,hlen]
   have Ae:Cx.bB ⟨prog,gl.g,zj prog gl (n+1),eu⟩ 108 [.int .i64 ((f.s.2.length+f.f.2.length:Nat):Int)] ⟨eL bs f X cls ld pre,e⟩=some (.val (cG m pc),⟨eL bs f X cls ld (pre++(.cells (dL m 0) 5::[])),e⟩):=by
    refine zu func108 rfl ?_;have:=xw hg (n:=n) (k:=f.s.2.length+f.f.2.length) (by omega) (bs:=eL bs f X cls ld pre) (es:=e)
    rw[<- Ir,pV,OX,<- PJ] at this;exact this
   refine zi ?_;simp only[BA,Nat.reduceEqDiff,av,ak,aq,aA,za,bD,Nat.reduceLT,bw,h4,hlen,Ae,eZ];refine zi ?_
   simp only[BA,Nat.reduceEqDiff,ak,aj,aq,ah,za,bD,Nat.reduceLT,bw,h1,hlen,lS,m4,A2.eo,xK]
   refine qj (λk2 s=>∃i env j1,k2+i=f.s.2.length/\s=⟨env,⟨eL bs f X cls ld (pre++(.cells (dL m (pF f.s.2 y i)) 5::j1)),e⟩,[],[]⟩/\env.length=113/\nth env 1=some (.ptr bs.length 0)/\nth env 3=some (.ptr (bs.length+1) 0)/\nth env 4=some (.int .i64 ((f.s.2.length+f.f.2.length:Nat):Int))/\nth env 10=some (.map mi)/\nth env 58=some (.int .i64 (y:Nat))/\nth env 11=some (.int .i64 (y:Nat))/\nth env 12=some (cG m pc)/\nth env 64=some (A2.qv f.s)/\nth env 65=some (.int .i64 (f.s.2.length:Nat))/\nth env 66=some (.int .i64 (i:Nat))) f.s.2.length AX ?_ ?_
   ·refine⟨0,_,[],rfl,rfl,?_,?_,?_,?_,?_,?_,?_,?_,?_,?_,?_⟩<;>simp[za,hlen,h1,h3,h4,CR,Sq]
   rintro k2 s ⟨i,bH,j1,aqT,rfl,cI,e1,e3,e4,sH,uD,iW,oq,O2,O3,O4⟩;simp only[zh];refine zi ?_;simp only[BA,ak,aq,za,Nat.reduceLT,O3,O4,cI,qT]
   by_cases Xh:i<f.s.2.length
   ·refine .inl ⟨by simp;omega,?_⟩
    obtain⟨q,hq⟩:∃q,f.s.2[i]?=some q:=⟨_,gj Xh⟩;have hqk:=hs q (nB hq);obtain⟨rest,mC⟩:∃p,p=pre++(.cells (dL m (pF f.s.2 y i)) 5::j1):=⟨_,rfl⟩;obtain⟨ai,hai⟩:∃x,x=bs.length+2+rest.length:=⟨_,rfl⟩;rw[<- mC];have sQ:(eL bs f X cls ld rest).length=ai:=by rw[OX,hai]
    have hgz:∀cs,(⟨eL bs f X cls ld (rest++[.cells cs 50]),e⟩:Hp).get ai=some (.cells cs 50):=λcs=>by
     show nth _ _=_;rw[hai,v_];exact(Vl (y:=.cells cs 50) rfl).2
    have uk:∀env t,qF env t (some (A2.qe q))=some (A2.qe q,env):=λ_ _=>rfl;have U8:aV (A2.qe q)=A2.qe q:=rfl;have hzc:V.cells (.agg [.int .u64 0,.int .u64 0,.int .u64 0,.int .u64 0])=[.int .u64 0,.int .u64 0,.int .u64 0,.int .u64 0]:=rfl
    have BR:∀env,qr prog 50 ⟨eL bs f X cls ld (rest++[.cells [.int .u64 0,.int .u64 0,.int .u64 0,.int .u64 0] 50]),e⟩ [] [] (some (A2.qe q,env)) (some (.ptr ai 0))=some (.skip,⟨env,⟨eL bs f X cls ld (rest++[.cells (A2.qe q).laid 50]),e⟩,[],[]⟩):=λenv=>by
     rw[zy Sl (hgz _) rfl rfl (by simp) rfl,jR (by simp[A2.qe,V.top,aI])]
     simp only[Hp.set];rw[hai,Vk,(Vl rfl).1];rfl
    refine zi ?_
    simp only[qx,aH,zh,zK,qw,qO,zU,z7,zT,Nat.reduceEqDiff,ak,zL,qq,zr,qd,aM,bu,aq,zR,ql,wW,aT,aS,aE,zc,aF,za,bD,Nat.reduceLT,aF,bw,O2,O4,cI,A2.eo,zmS hq,zps,U8,uk,aaH,zJ (show dz (V.agg [.int .u64 0,.int .u64 0,.int .u64 0,.int .u64 0])=true from rfl),hzc,sQ,pV,BR]
    have Sr:zk prog ⟨eL bs f X cls ld (rest++[.cells (A2.qe q).laid 50]),e⟩ gl.g 50 (.ptr ai 0)=some (A2.qe q):=by
     rw[jU,hgz,jx,qu,DK,Gm];rfl
    have Na:Cx.bB ⟨prog,gl.g,zj prog gl (n+1),eu⟩ 110 [A2.qe q,.int .u8 (y:Nat)] ⟨eL bs f X cls ld (rest++[.cells (A2.qe q).laid 50]),e⟩=some (.val (.bool (EA q y)),⟨eL bs f X cls ld (rest++[.cells (A2.qe q).laid 50]),e⟩):=zu func110 rfl (zjY hg hqk hy);refine zi ?_
    simp only[BA,Nat.reduceEqDiff,av,ak,aq,aA,za,bD,Nat.reduceLT,bw,iW,cI,Sr,U8,vT (a:=3) (b:=5) (hm:=rfl),show eu (vi 3)=false from rfl,ziS hy,Na];obtain⟨Z,hZ⟩:∃Z,Z=aY.cells (A2.qe q).laid 50:=⟨_,rfl⟩
    have Tt:∀x,pre++(x::j1)++[Z]=pre++(x::(j1++[Z])):=λx=>by simp
    rw[<- hZ];cases hh:EA q y with
    | true =>
     have Ss:pF f.s.2 y (i+1)=pF f.s.2 y i ||| 2 ^ i:=by simp[pF,hq,hh]
     refine .inl ⟨by first|rfl|trivial,?_⟩
     have om:Cx.bB ⟨prog,gl.g,zj prog gl (n+1),eu⟩ 109 [cG m pc,.int .i64 (i:Nat)] ⟨eL bs f X cls ld (rest++[Z]),e⟩=some (.val (.br []),⟨eL bs f X cls ld (pre++(.cells (dL m (pF f.s.2 y (i+1))) 5::(j1++[Z]))),e⟩):=by
      refine zu func109 rfl ?_;rw[mC,Tt,PJ,Ss];have:=Z6 hg (n:=n) (k:=i) (m:=m) (p:=pF f.s.2 y i) (b:=bs.length+2+pre.length) (by omega) (by omega) (bs:=eL bs f X cls ld (pre++(.cells (dL m (pF f.s.2 y i)) 5::(j1++[Z])))) (es:=e) (by rw[v_];exact(Sj (y:=.cells (dL m 0) 5) rfl).2)
      rw[Vk,(Sj rfl).1] at this;exact this
     refine zi ?_;simp only[BA,Nat.reduceEqDiff,av,ak,aq,aA,za,bD,Nat.reduceLT,bw,oq,cI,ni,om];refine zi ?_
     simp only[BA,Nat.reduceEqDiff,ak,aj,aq,za,bD,Nat.reduceLT,bw,O4,cI,z6 (show i<2 ^ 60 by omega),zq,aN]
     refine⟨f.s.2.length - 1 - i,by omega,i+1,_,_,by omega,rfl,?_,?_,?_,?_,?_,?_,?_,?_,?_,?_,?_⟩
     all_goals simp[za,cI,e1,e3,e4,sH,uD,iW,oq,O2,O3]
    | false =>
     have Ss:pF f.s.2 y (i+1)=pF f.s.2 y i:=by simp[pF,hq,hh]
     refine .inr ⟨by first|rfl|trivial,?_⟩
     rw[mC,Tt,<- Ss];refine zi ?_;simp only[BA,Nat.reduceEqDiff,ak,aj,aq,za,bD,Nat.reduceLT,bw,O4,cI,z6 (show i<2 ^ 60 by omega),zq,aN]
     refine⟨f.s.2.length - 1 - i,by omega,i+1,_,_,by omega,rfl,?_,?_,?_,?_,?_,?_,?_,?_,?_,?_,?_⟩
     all_goals simp[za,cI,e1,e3,e4,sH,uD,iW,oq,O2,O3]
   ·obtain rfl:i=f.s.2.length:=by omega
    refine .inr ⟨by simp,?_⟩
    simp only[qm,zN,zD,zq,bI,zh,lK,aF]
    have Ss:pF f.s.2 y f.s.2.length=w y:=by rw[hw]
    rw[Ss];have Tw:pre++(.cells (dL m (w y)) 5::j1)=R++(.map (vh m 0 (fK w y).1)::(j0++(.cells (dL m (w y)) 5::j1))):=by rw[gv];simp
    obtain⟨j2,YJ⟩:∃j,j=j0++(aY.cells (dL m (w y)) 5::j1):=⟨_,rfl⟩;rw[Tw,<- YJ];have gP:∀xs cls ld es e,(⟨eL bs f xs cls ld (R++(.map es::j2)),e⟩:Hp).get pc=some (.cells (dL m (w y)) 5):=λxs cls ld es e=>by
     show nth _ _=_;rw[PJ,v_,gv,YJ];have:=(Sj (rs:=R++(.map es::j0)) (js:=j1) (x:=.cells (dL m (w y)) 5) (y:=.cells (dL m (w y)) 5) (i:=(R++(.map (vh m 0 (fK w y).1)::j0)).length) (by simp)).2
     rw[<- this];simp
    have q_:=zek (Vq y) (Sn y) (No cls ld (vh m 0 (fK w y).1) j2 e);have gG:cls.length=256:=by rw[GA];exact Vn (by omega)
    refine zi ?_
    simp only[BA,Nat.reduceEqDiff,ak,aq,za,bD,Nat.reduceLT,bw,sH,oq,cI,ni,vx,vY (cx:=⟨prog,gl.g,zj prog gl (n+1),eu⟩) (a:=205) (b:=9) (show eu (vi 205)=true from rfl) rfl,xL (gP X cls ld (vh m 0 (fK w y).1) e),q_,zcF,kY,dZ,zd,ze]
    have Su:∀HF,(nj f X cls HF).length=262:=λHF=>by simp[nj,gG]
    have KN:∀HF iC e' env (c:Int),qr prog 3 ⟨eL bs f X cls HF (R++(.map iC::j2)),e'⟩ [] [] (some (.int .i64 c,env)) (some (.ptr (bs.length+1) (5+y)))=some (.skip,⟨env,⟨eL bs f X (cls.set y (.int .i64 c)) HF (R++(.map iC::j2)),e'⟩,[],[]⟩):=λHF iC e' env c=>by
     rw[zy uA (show Hp.get ⟨eL bs f X cls HF (R++(.map iC::j2)),e'⟩ (bs.length+1)=_ from DQ) rfl rfl (by rw[Su];omega) (yp λk hk=>by
      obtain rfl:k=0:=by omega
      obtain⟨z,hz⟩:=zm4 (w:=w) (y:=y) (i:=y) (by rw[Vn (by omega)];omega)
      exact⟨_,by rw[nZ,zka (by rw[gG];omega),GA,hz],rfl⟩),jR (by simp[V.top])]
     simp only[V.laid,Vm.storeCells,Hp.set];rw[zoV (by rw[gG];omega),zel]
    refine zi ?_;cases hx:ku (w y) 0 (fK w y).1 with
    | some ix =>
     have Dt:fK w (y+1)=((fK w y).1,(fK w y).2.1++[ix],(fK w y).2.2):=by simp only[fK,hx]
     simp only[BA,Nat.reduceEqDiff,ak,aq,za,bD,Nat.reduceLT,bw,cI,Option.isSome_some,fS,iH,mo];refine .inr ?_;refine zi ?_
     simp only[BA,Nat.reduceEqDiff,ak,aq,aa,ah,aE,za,bD,Nat.reduceLT,bw,e3,iW,cI,Az,ziR hy,KN];refine zi ?_
     simp only[BA,Nat.reduceEqDiff,ak,aj,aq,za,bD,Nat.reduceLT,bw,uD,cI,z6 (show y<2 ^ 60 by omega),zq,aN]
     rw[GA,zhY hy (by rw[Dt]),gx,show uC w y=uC w (y+1) by unfold uC;rw[Dt],show(fK w y).1=(fK w (y+1)).1 by rw[Dt]]
     refine⟨256 - 1 - y,by omega,y+1,_,_,_,by omega,rfl,?_,?_,?_,?_,?_,?_⟩
     all_goals simp[za,cI,e1,e3,e4,sH]
    | none =>
     have Dt:fK w (y+1)=((fK w y).1++[w y],(fK w y).2.1++[(fK w y).1.length],(fK w y).2.2++[y]):=by simp only[fK,hx]
     simp only[BA,Nat.reduceEqDiff,ak,aq,za,bD,Nat.reduceLT,bw,cI,Option.isSome_none,Option.getD_none,iH,oI];refine .inl ?_;obtain⟨Ig,Lp⟩:=zc0 (w:=w) y
     have PT:qX prog ⟨eL bs f X cls ld (R++(.map (vh m 0 (fK w y).1)::j2)),e⟩ 207 (.map mi)=some (((fK w y).1.length:Nat):Int):=by
      rw[zj8 (No cls ld (vh m 0 (fK w y).1) j2 e),zej]
     refine zi ?_;simp only[BA,Nat.reduceEqDiff,ak,aq,za,bD,Nat.reduceLT,bw,sH,cI,vx,PT];refine zi ?_
     simp only[BA,Nat.reduceEqDiff,ak,aq,za,bD,Nat.reduceLT,bw,sH,oq,cI,vx,ni,vY (cx:=⟨prog,gl.g,zj prog gl (n+1),eu⟩) (a:=205) (b:=9) (show eu (vi 205)=true from rfl) rfl,xL (gP X cls ld (vh m 0 (fK w y).1) e)]
     have Np:=zgu (k:=0) (Vq y) (Sn y) hx;rw[nY] at Np;rw[zb5 (b:=mi) (kv:=.str (rE m (w y))) (xv:=.int .i64 ((fK w y).1.length:Nat)) (by simp[ak,za,cI,aV]) (by simp[ak,za,cI,aV]) (by simp[ak,za,cI,aV]) zm0 (No cls ld (vh m 0 (fK w y).1) j2 e) Np (by simp[V.top,aI])]
     have hHm:(⟨eL bs f X cls ld (R++(.map (vh m 0 (fK w y).1)::j2)),e⟩:Hp).set mi (.map (vh m 0 ((fK w y).1++[w y])))=⟨eL bs f X cls ld (R++(.map (vh m 0 ((fK w y).1++[w y]))::j2)),e⟩:=by
      simp only[Hp.set];rw[tX,Vk,(Sj rfl).1]
     rw[hHm];simp only[bu,aq]
     obtain⟨DT,Nq⟩:∃l:aD,l=(fK w y).2.2.map λb=>.int .u8 (b:Nat):=⟨_,rfl⟩;have ahf:DT.length<=256:=by rw[Nq];simp;omega
     have aaL:ld=zl 1 5 DT:=by rw[gx,Nq];rfl
     obtain⟨rr,N6⟩:∃rr,rr=R++(aY.map (vh m 0 ((fK w y).1++[w y]))::j2):=⟨_,rfl⟩;rw[<- N6];have hMl:bs.length+1<(eL bs f X cls ld rr).length:=by rw[OX];omega
     have mX:∀env,vU prog 78 env ⟨eL bs f X cls ld rr,e⟩ [] [] (some (.ptr (bs.length+1) 261))=some (.val (zl 1 5 DT),⟨env,⟨(eL bs f X cls ld rr).set (bs.length+1) (.cells ((nj f X cls ld).set 261 (oC 1 DT)) 204),e⟩,kE (bs.length+1) 261 DT,[]⟩):=λenv=>Sh DS DQ (by rw[zm5 gG,aaL])
     have lU:=r78.Cc (v:=.int .u8 (y:Nat)) rfl rfl;have fy:∀H,j9 prog H 78 (zl 1 5 DT) (.sl 1 [.int .u8 (y:Nat)] .no)=some (zl 1 5 (DT++[.int .u8 (y:Nat)])):=λH=>jD r78 (by simp) (dD (by simp;omega) (by simp;omega))
     have BR:∀env,qr prog 78 ⟨(eL bs f X cls ld rr).set (bs.length+1) (.cells ((nj f X cls ld).set 261 (oC 1 DT)) 204),e⟩ (kE (bs.length+1) 261 DT) [] (some (zl 1 5 (DT++[.int .u8 (y:Nat)]),env)) (some (.ptr (bs.length+1) 261))=some (.skip,⟨env,⟨eL bs f X cls (zl 1 5 (DT++[.int .u8 (y:Nat)])) rr,vk e (bs.length+1) (zl 1 5 (DT++[.int .u8 (y:Nat)]))⟩,kE (bs.length+1) 261 DT,[]⟩):=λenv=>by
      rw[Vj r78.st hMl (by rw[Su];omega),zm6 gG,zel]
     refine ww (tk:=[98]) (by kernel_rfl) ?_
     simp only[BA,Nat.reduceEqDiff,ak,aq,aa,ah,za,bD,Nat.reduceLT,bw,e3,iW,cI,DN,mX,lU,xR,fy,BR,vT (a:=3) (b:=5) (hm:=rfl),show eu (vi 3)=false from rfl,ziS hy,jT (cx:=⟨prog,gl.g,zj prog gl (n+1),eu⟩) (show p_ prog eu 78=false by kernel_rfl)]
     rw[N6];refine zi ?_;simp only[BA,Nat.reduceEqDiff,ak,aq,aa,ah,aE,za,bD,Nat.reduceLT,bw,e3,iW,cI,Az,ziR hy,KN];refine zi ?_
     simp only[BA,Nat.reduceEqDiff,ak,aj,aq,za,bD,Nat.reduceLT,bw,uD,cI,z6 (show y<2 ^ 60 by omega),zq,aN]
     have sL:zl 1 5 (DT++[.int .u8 (y:Nat)])=uC w (y+1):=by unfold uC;rw[Dt,Nq];simp
     rw[GA,zhY hy (by rw[Dt]),sL,show(fK w y).1++[w y]=(fK w (y+1)).1 by rw[Dt]]
     refine⟨256 - 1 - y,by omega,y+1,_,_,_,by omega,rfl,?_,?_,?_,?_,?_,?_⟩
     all_goals simp[za,cI,e1,e3,e4,sH]
  ·obtain rfl:y=256:=by omega
   refine .inr ⟨by simp,?_⟩
   simp only[qm,zN,zD,zq,bI,zh,lK,aF]
   refine zi ?_;simp only[BA,Nat.reduceEqDiff,ak,aq,za,bD,Nat.reduceLT,bw,h3,hlen,go_ret,zq,Fx]
   first|refine⟨rfl,[.ptr (bs.length+1) 0],?_,rfl,?_⟩|refine⟨trivial,[.ptr (bs.length+1) 0],?_,rfl,?_⟩|refine⟨[.ptr (bs.length+1) 0],?_,rfl,?_⟩
   ·simp[zx,za,hlen]
   ·exact⟨_,_,by rw[<- hw]⟩
end
section
variable{gl:Gl}
theorem GB:qz prog 207=some false:=by kernel_rfl
theorem zk8(hg:GS gl){n a1 a2 a3 a4 a5 mp m w c i:Nat}{ws:bM}{t1:aB}(hw:w<2 ^ (8 * m))(DD:∀x∈ws,x<2 ^ (8 * m)){B:List aY}{es:aO}(h1:nth B a1=some (.cells [.map mp] t1))(hm:nth B mp=some (.map (vh m 0 ws)))(hc:nth B c=some (.cells (dL m w) 5))(hx:ku w 0 ws=some i) :
  zj prog gl (n+1) 111 [cG m c,.ptr a1 0,.ptr a2 0,.ptr a3 0,.ptr a4 0,.ptr a5 0] ⟨B,es⟩=some (.ret (.int .i64 (i:Nat)),⟨B,es⟩):=by
 suffices bL:(go ⟨prog,gl,zj prog gl n,eu⟩ n (Fx prog f111.results.toList λw H1=>w=.int .i64 (i:Nat)/\H1=⟨B,[]⟩) [.c (f111.body.getD .skip)] .normal ⟨[cG m c,.ptr a1 0,.ptr a2 0,.ptr a3 0,.ptr a4 0,.ptr a5 0]++List.replicate 43 (.br []),⟨B,[]⟩,[],[]⟩) by
  obtain⟨w,H1,h0,rfl,rfl⟩:=zQ (gl:=gl) (f:=111) (bs:=B) (es:=es) (args:=[cG m c,.ptr a1 0,.ptr a2 0,.ptr a3 0,.ptr a4 0,.ptr a5 0]) (n:=n) (hg.hk _ _ (by decide)) (λH=>hg.fA _ _ _ _ (by decide)) func111 rfl (by rw[hg.uq];exact bL)
  rw[h0];have:=z9 (bs:=B) (ls:=[]) (es:=es) (t:=0) (ec _);rw[m7] at this;exact congrArg (λx=>some (Out.ret _,x)) this
 have l1:zk prog ⟨B,[]⟩ gl.g 207 (.ptr a1 0)=some (.map mp):=zt GB h1 rfl;have iT:=xL (H:=⟨B,[]⟩) (m:=m) (w:=w) (c:=c) hc;have q_:=zek (H:=⟨B,[]⟩) (d:=mp) hw DD hm;rw[hx] at q_;have ni:∀c,aV (cG m c)=cG m c:=λ_=>rfl;simp only[f111,fS,zh];refine zi ?_
 simp only[BA,aj,aq,bS,bT,List.replicate];refine zi ?_
 simp only[BA,ak,aq,zd,ze,bS,bT,l1,vx,ni,vY (cx:=⟨prog,gl.g,zj prog gl n,eu⟩) (a:=205) (b:=9) (show eu (vi 205)=true from rfl) rfl,iT,zcF,q_,kY,dZ,fS,Option.isSome_some];refine zi ?_
 simp only[BA,ak,aq,zd,ze,bS,bT,iH,mo];refine .inr ?_
 try simp only[bz]
 refine zi ?_;simp only[BA,ak,aq,zd,ze,bS,bT,go_ret,zq,Fx]
 refine⟨[.int .i64 (i:Nat)],?_,rfl,trivial⟩;simp only[zx,zd,ze]
end
end Go.Proofs.YthohlnmcjkjeiaaGreatDoor
