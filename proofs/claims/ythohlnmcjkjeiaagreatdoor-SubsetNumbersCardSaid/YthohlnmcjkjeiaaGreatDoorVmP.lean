/- Seat 8, subset: which automata may be (subset.Check): walked. Conditions: none but those named. -/
import Derived.Test.YthohlnmcjkjeiaaGreatDoorVmN
namespace Go.Proofs.YthohlnmcjkjeiaaGreatDoor.A2
open Go Go.Vm Go.Vm.Sx
open Go.Proofs.Tryz
set_option maxRecDepth 100000
section
set_option maxHeartbeats 1000000
variable{gl:Gl}{fj:bL}
theorem iV:qC prog 27=some false:=by kernel_rfl
theorem KA:z8 prog 27=some 1:=by kernel_rfl
theorem KB:qC prog 66=some true:=by kernel_rfl
theorem Gp:z8 prog 66=some 2:=by kernel_rfl
theorem mR:zD prog 66 0=some 0/\zD prog 66 1=some 1:=⟨by kernel_rfl,by kernel_rfl⟩
theorem zmv(d:D):dD (rK d)=true:=rfl
theorem zhA(d:D):(rK d).laid=[rv d.1,iv d.2]:=by simp[rK,V.laid,bH,bM]
theorem zmw(d:D)(env:aC)(t:Nat):qE env t (some (rK d))=some (rK d,env):=rfl
theorem UZ{p:gZ}{i:Nat}{q:cO}(h:p.2[i]?=some q):zp prog 28 (rv p) (i:Int)=some (.vp [iv q]):=by
 have hk:¬((i:Int)<0):=by omega
 have hn:nth (p.2.map iv) i=some (iv q):=by rw[zg,gj,h];rfl
 have b_:rv p=.sl 1 (p.2.map iv) .no:=by
  unfold rv;rcases cJ 1 p.1 (p.2.map iv) with h'|⟨h0,_⟩
  ·exact h'
  ·simp only[List.map_eq_nil_iff] at h0;rw[h0] at h;simp at h
 have hc:(iv q).cells=[iv q]:=by
  unfold iv;rcases cJ 1 q.1 (q.2.map ie) with h'|⟨_,h'⟩<;>rw[h']<;>rfl
 rw[b_];simp[zp,KA,hk,hn,hc]
theorem KC{H:Hp}{g:Nat->Nat->bY}{v:V}:zl prog H g 27 (.vp [v])=some v:=by
 simp[zl,qu,iV,nth,wV]
theorem vw{p:cO}{i:Nat}(h:i<p.2.length):zp prog 27 (iv p) (i:Int)=some (.vp [.int .i64 (gi p.2 i)]):=by
 rw[Y_ h];simp[ie,gi,h]
theorem E0{bs:List aT}{es:aN}{cs:aC}{ty t:aB}{g:Nat->Nat->bY}{off:Nat}(ha:qC prog t=some false):zl prog ⟨bs++[.cells cs ty],es⟩ g t (.ptr bs.length off)=nth cs off:=by
 cases h:nth cs off with
 | some v=>exact Za ha h
 | none=>simp[zl,qu,ha,OJ,h,wV]
theorem ZN(p:cO)(env:aC)(t:Nat):qE env t (some (iv p))=some (iv p,env):=by
 unfold iv;rcases cJ 1 p.1 (p.2.map ie) with h|⟨_,h⟩<;>rw[h]<;>rfl
theorem M5(hg:GK gl fj)(eH:fj.any (Nat.beq 27)=false)(d:D)(hd:WD d):rY (d.1.2.length+300) prog gl 27 [rK d] (.bool (pz (rowsOf d.1) d.2.2)):=by
 have hr:=fm;have LS:=hd.n.1;have AT:=hd.l.1;refine yM hg func27 rfl eH rfl (d.1.2.length+299) λn hn bs=>?_;simp only[f27,zh];refine rg ?_;simp only[BW,List.replicate,zmw,qc (zmv d),zhA];refine rg ?_;simp only[BW,mR,E0 gU,bM,jZ]
 have Dw:pz (rowsOf d.1) d.2.2=bif ((c_ (d.1.2.length:Int) 1 || c_ 600 (d.1.2.length:Int)) || !((d.2.2.length:Int) == (d.1.2.length:Int))) then false else wM (Ez (rowsOf d.1) d.2.2 d.1.2.length) d.1.2.length:=by
  simp only[pz,eB]
 refine rg ?_
 by_cases c1:(d.1.2.length:Int)<1
 ·simp only[BW,c1];refine rg ?_;simp only[BW];exact fY rfl ⟨by rw[Dw];simp[c_,c1],_,rfl⟩
 by_cases c2:(600:Int)<d.1.2.length
 ·simp only[BW,c1,gt_iff_lt,c2];refine rg ?_;simp only[BW];exact fY rfl ⟨by rw[Dw];simp[c_,c2],_,rfl⟩
 cases c3:((d.2.2.length:Int) == (d.1.2.length:Int)) with
 | false =>
  simp only[BW,c1,gt_iff_lt,c2,mR,E0 iV,bH,wy,bne,c3];refine rg ?_;simp only[BW];exact fY rfl ⟨by rw[Dw,c3];simp,_,rfl⟩
 | true =>
 have hll:d.2.2.length=d.1.2.length:=by have:=eq_of_beq c3;omega
 have AV:pz (rowsOf d.1) d.2.2=wM (Ez (rowsOf d.1) d.2.2 d.1.2.length) d.1.2.length:=by
  rw[Dw,c3];simp[c_,c1,c2]
 rw[AV];simp only[BW,c1,gt_iff_lt,c2,mR,E0 iV,bH,wy,bne,c3];refine rg ?_;simp only[BW,mR,E0 gU,bM,jZ]
 refine qd (λm st=>∃i env,m+i=d.1.2.length/\st=⟨env,⟨bs++[.cells [rv d.1,iv d.2] 66],[]⟩,[],[]⟩/\Ks 66 [(1,.ptr bs.length 0),(3,.int .i64 (d.1.2.length:Nat)),(25,rv d.1),(26,.int .i64 (d.1.2.length:Nat)),(27,.int .i64 (i:Nat))] env/\∀j,j<i->Ez (rowsOf d.1) d.2.2 d.1.2.length j=true) d.1.2.length (by omega) ⟨0,_,rfl,rfl,fZ rfl,λj h=>by omega⟩ ?_
 rintro m st ⟨i,env,tU,rfl,⟨j,rfl⟩,dH⟩;simp only[sh,pV,Nat.reduceBEq,Nat.reduceAdd,mh,nD];simp only[zh];refine rg ?_;simp only[BW,qh]
 by_cases hi:i<d.1.2.length
 ·refine .inl ⟨by simp;omega,?_⟩
  obtain⟨q,hq⟩:∃q,d.1.2[i]?=some q:=⟨d.1.2[i],by simp[hi]⟩
  have OE:gr (rowsOf d.1) i=q.2:=pq hq;have hql:=(hd.n.2 q (m8 hq)).1;have M6:Ez (rowsOf d.1) d.2.2 d.1.2.length i=false->wM (Ez (rowsOf d.1) d.2.2 d.1.2.length) d.1.2.length=false:=λh=>by
   rw[<- JG,cI];exact λk=>by rw[k i hi] at h;cases h
  refine rg ?_;simp only[BW,bM,UZ hq,KC,bH,ZN];obtain⟨B,hB⟩:∃B,B=((q.2.length:Int) == 256 && (!c_ (gi d.2.2 i) (-1) && !nA 200 (gi d.2.2 i))):=⟨_,rfl⟩;refine Rk 66 [(1,.ptr bs.length 0),(3,.int .i64 (d.1.2.length:Nat)),(5,iv q),(25,rv d.1),(26,.int .i64 (d.1.2.length:Nat)),(27,.int .i64 (i:Nat)),(50,.bool (!B))] ?_ λenv ⟨j,e⟩=>?_
  ·refine rg ?_;cases a1:((q.2.length:Int) == 256) with
   | false =>
    obtain rfl:B=false:=by rw[hB,a1];rfl
    simp only[BW,bH,wy,bne,a1];exact⟨_,rfl,fZ rfl⟩
   | true =>
   have M7:=vw (p:=d.2) (i:=i) (by omega)
   by_cases a2:gi d.2.2 i < -1
   ·simp only[BW,bH,wy,bne,a1,mR,E0 iV,M7,xJ,a2];obtain rfl:B=false:=by rw[hB];simp[c_,a2]
    exact⟨_,rfl,fZ rfl⟩
   by_cases a3:200<=gi d.2.2 i
   ·simp only[BW,bH,wy,bne,a1,mR,E0 iV,M7,xJ,a2,ge_iff_le,a3];obtain rfl:B=false:=by rw[hB];simp[c_,nA,a2,a3]
    exact⟨_,rfl,fZ rfl⟩
   ·simp only[BW,bH,wy,bne,a1,mR,E0 iV,M7,xJ,a2,ge_iff_le,a3];obtain rfl:B=true:=by rw[hB,a1];simp[c_,nA,a2,a3]
    exact⟨_,rfl,fZ rfl⟩
  subst e;simp only[sh,pV,Nat.reduceBEq,Nat.reduceAdd,mh,nD];cases B with
  | false =>
   have hb:=hB.symm;have ho:Ez (rowsOf d.1) d.2.2 d.1.2.length i=false:=by
    simp only[Ez,OE];cases a1:((q.2.length:Int) == 256) with
    | false=>rfl
    | true =>
     rw[a1,tE] at hb;rw[tE,<- Bool.and_assoc,hb];rfl
   simp only[BW];refine rg ?_;simp only[BW];exact fY rfl ⟨by rw[M6 ho],_,rfl⟩
  | true =>
  have hb:=hB.symm;have KD:q.2.length=256:=by
   simp only[ei] at hb;have:=eq_of_beq hb.1;omega
  have ho:Ez (rowsOf d.1) d.2.2 d.1.2.length i=wM (uw d.1.2.length q.2) 256:=by
   simp only[Ez,OE];simp only[ei] at hb;rw[hb.1,hb.2.1,hb.2.2];rfl
  simp only[BW];refine rg ?_;simp only[BW,wy,bH]
  refine qd (λm2 st=>∃k env,m2+k=256/\st=⟨env,⟨bs++[.cells [rv d.1,iv d.2] 66],[]⟩,[],[]⟩/\Ks 66 [(1,.ptr bs.length 0),(3,.int .i64 (d.1.2.length:Nat)),(25,rv d.1),(26,.int .i64 (d.1.2.length:Nat)),(27,.int .i64 (i:Nat)),(51,iv q),(52,.int .i64 (q.2.length:Nat)),(53,.int .i64 (k:Nat))] env/\∀j,j<k->uw d.1.2.length q.2 j=true) 256 (by omega) ⟨0,_,rfl,rfl,fZ rfl,λj h=>by omega⟩ ?_
  rintro m2 st ⟨k,env,Bn,rfl,⟨j,rfl⟩,bZ⟩;simp only[sh,pV,Nat.reduceBEq,Nat.reduceAdd,mh,nD];simp only[zh];refine rg ?_;simp only[BW,qh]
  by_cases hk:k<256
  ·refine .inl ⟨by simp;omega,?_⟩
   have M7:=vw (p:=q) (i:=k) (by omega)
   have hrf:uw d.1.2.length q.2 k=false->Ez (rowsOf d.1) d.2.2 d.1.2.length i=false:=λh=>by
    rw[ho,<- JG,cI];exact λh2=>by rw[h2 k hk] at h;cases h
   refine rg ?_;simp only[BW,bH,M7,xJ];refine rg ?_
   by_cases a2:gi q.2 k<0
   ·simp only[BW,a2];refine rg ?_;simp only[BW];exact fY rfl ⟨by rw[M6 (hrf (by simp[uw,c_,a2]))],_,rfl⟩
   by_cases a3:(d.1.2.length:Int)<=gi q.2 k
   ·simp only[BW,a2,ge_iff_le,a3];refine rg ?_;simp only[BW];exact fY rfl ⟨by rw[M6 (hrf (by simp[uw,nA,a3]))],_,rfl⟩
   ·simp only[BW,a2,ge_iff_le,a3];refine rg ?_;simp only[BW,zQ (show k<2 ^ 60 by omega)]
    exact⟨m2 - 1,by omega,k+1,_,by omega,rfl,fZ rfl,λj hj=>by
     rcases eI j k with h|h
     ·exact bZ j h
     ·obtain rfl:j=k:=by omega
      simp[uw,c_,nA,a2,a3]⟩
  ·obtain rfl:k=256:=by omega
   refine .inr ⟨by simp;omega,?_⟩
   refine rg ?_;simp only[BW,zQ (show i<2 ^ 60 by omega)]
   exact⟨m - 1,by omega,i+1,_,by omega,rfl,fZ rfl,λj hj=>by
    rcases eI j i with h|h
    ·exact dH j h
    ·obtain rfl:j=i:=by omega
     rw[ho];exact cI.2 bZ⟩
 ·obtain rfl:i=d.1.2.length:=by omega
  refine .inr ⟨by simp,?_⟩
  refine rg ?_;simp only[BW];exact fY (v:=.bool true) rfl ⟨by rw[cI.2 dH],_,rfl⟩
end
section
set_option maxHeartbeats 2000000
variable{gl:Gl}
def u3:aB->Bool:=λt=>Nat.beq t 3
def RN(i:Nat):aC:=List.replicate 258 (V.int .i64 (-1000 - (i:Int)))
def Hu(m:Nat):List aT:=(List.range m).map λj=>.ul 0 1 (RN j) 3
def uz(b m:Nat):aC:=(List.range m).map λj=>V.dw (b+j) 0 258
theorem zqM(m:Nat):Hu (m+1)=Hu m++[.ul 0 1 (RN m) 3]:=by simp[Hu,List.range_succ]
theorem ZO(b m:Nat):uz b (m+1)=uz b m++[V.dw (b+m) 0 258]:=by simp[uz,List.range_succ]
theorem zoe(m:Nat):(Hu m).length=m:=by simp[Hu]
theorem ZP(b m:Nat):(uz b m).length=m:=by simp[uz]
def Da(c:Int)(k:Nat)(l:aC):aC:=List.replicate k (V.int .i64 c)++l.drop k
theorem zof{c:Int}{k:Nat}{l:aC}(h:k<=l.length):(Da c k l).length=l.length:=by simp[Da];omega
theorem zqN{c:Int}{k:Nat}{l:aC}(h:k<l.length):Vm.storeCells (Da c k l) k [V.int .i64 c]=Da c (k+1) l:=by
 have h1:l.drop k=l[k]::l.drop (k+1):=E7 h;simp only[Da,h1,Vm.storeCells];rw[List.replicate_succ'];rw[tW _ _ (by simp)]
 simp;rw[h1];rfl
theorem zo4{H:Hp}{b u n:Nat}:qV prog H 27 (.dw b u n)=some (n:Int):=by simp[qV]
theorem zqO{b u n k:Nat}(h:k<n):zp prog 27 (.dw b u n) (k:Int)=some (.gm b u k):=by
 simp[zp,ux,h]
theorem U0{H:Hp}{xs:aC}{o:tG}:qV prog H 28 (.sl 1 xs o)=some (xs.length:Int):=by simp[qV]
theorem RO{xs:aC}{o:tG}{i:Nat}{v:V}(h:nth xs i=some v)(hc:v.cells=[v]):zp prog 28 (.sl 1 xs o) (i:Int)=some (.vp [v]):=by
 have hk:¬((i:Int)<0):=by omega
 simp[zp,KA,hk,h,hc]
theorem zrc{cx:Cx}{takes:cg}{dst:fJ}{type:aB}{pos:String}{after:Array Edge}{guard:oP}{env:aC}{H:Hp}{lk:aN}{df:bP}(hP:cx.P=prog){a b:Int} :
  cx.op takes ⟨dst,.buildSlice 27 2 #[(0,.const (.int .i64 a)),(1,.const (.int .i64 b))],type,pos,after,guard⟩ env H lk df=some (.val (.sl 1 [.int .i64 a,.int .i64 b] (.yes 3)),⟨env,H,lk,df⟩):=by
 have hz:qP prog 3=some (.int .i64 0):=by kernel_rfl
 have e1:dD (V.int .i64 0)=true:=rfl;have e2:∀k,dD (V.int .i64 k)=true:=λ_=>rfl;have e3:∀k,(V.int .i64 k).cells.length=1:=λ_=>rfl;simp[Cx.op,hP,qZ,ux,hz,e1,e2,e3,D8,ak,aj,qm,eW,Nat.blt,List.replicate]
theorem zrd{C:List aT}{b:Nat}{cs:aC}{env:aC}{lk:aN}{df:bP}{o:tG}{x y:Int}(hb:nth C b=some (.cells cs 3))(hl:cs.length=256)(hc:cs.map aW=cs)(pQ:∀v∈cs,v.cells=[v]) :
  Mb prog 27 env ⟨C,[]⟩ lk df (some (.sl 1 [.int .i64 x,.int .i64 y] o)) (some (.sr b 0 256 256))=some (.val (.dw C.length 0 258),⟨env,⟨C++[.ul 0 1 (cs++[.int .i64 x,.int .i64 y]) 3],[]⟩,lk,df⟩):=by
 obtain⟨i3,h3,BH,Yx⟩:∃i,prog.info? 3=some i/\i.zero=some (.int .i64 0)/\i.bytes=8:=⟨_,rfl,rfl,rfl⟩;rw[zjc (z:=.int .i64 0) Aw ux h3 BH rfl (by omega)]
 have hg:Hp.get ⟨C,[]⟩ b=some (.cells cs 3):=hb;have ZQ:∀l:aC,(∀v∈l,v.cells=[v])->bX l=l:=λl h=>by
  induction l with
  | nil=>rfl
  | cons a l ih=>simp only[bX,h a (eT ..),ih λv hv=>h v (d_ _ hv)];rfl
 have Lx:kU prog ⟨C,[]⟩ 3 (.sr b 0 256 256)=some cs:=by
  have Hv:∀(n:Nat)(l:aC),l.length=n->xc false 1 n l=l:=λn=>by
   induction n with
   | zero=>intro l h;rw[K6.1 h];rfl
   | succ n ih =>
    intro l h;cases l with
    | nil=>cases h
    | cons a l=>simp only[xc];rw[show List.drop 1 (a::l)=l from rfl,ih l (by simpa using h)];rfl
  simp only[kU,hg,ux,fo,Option.bind_eq_bind,aU,iW];rw[hc,if_pos (by rw[hl];rfl),Hv 256 cs hl]
 simp only[hg];rw[if_neg (by simp[Nat.ble]),Lx]
 simp only[hl,ZQ cs pQ,Yx];rfl
theorem zre{B:List aT}{k:Nat}{c:Int}{l:aC}{env:aC}(hk:k<l.length):qo prog 3 ⟨B++[.ul 0 1 (Da c k l) 3],[]⟩ [] [] (some (.int .i64 c,env)) (some (.gm B.length 0 k))=some (.skip,⟨env,⟨B++[.ul 0 1 (Da c (k+1) l) 3],[]⟩,[],[]⟩):=by
 have hg:Hp.get ⟨B++[.ul 0 1 (Da c k l) 3],[]⟩ B.length=some (.ul 0 1 (Da c k l) 3):=by
  show nth _ _=_;rw[zg,eM (dB _),Bb];rfl
 have h:=zeX (P:=prog) (t:=3) (H:=⟨B++[.ul 0 1 (Da c k l) 3],[]⟩) (lk:=[]) (df:=[]) (env:=env) (k:=k) (v:=.int .i64 c) ux hg rfl rfl rfl (by rw[zof (by omega)];omega)
 rw[h];simp only[V.cells,zqN hk];rw[zkj rfl];show some (OR.skip,St.mk env ⟨(B++[aT.ul 0 1 (Da c k l) 3]).set B.length _,[]⟩ [] [])=_;rw[tW _ _ (dB _),Bb];rfl
theorem zog{c:Int}{l:aC}(h:l.length=258):Da c 258 l=List.replicate 258 (V.int .i64 c):=by
 simp only[Da];rw[List.drop_of_length_le (by omega),mT]
theorem zqP(hu:gl.uq=u3)(h1:∀xs,gl.hk 17 xs=none)(h2:∀n xs H,gl.eV n 17 xs H=none){rows:aC}{bs:List aT}{es:aN}{n:Nat}
  (hr:∀i,i<rows.length->∃b cs,nth rows i=some (.sr b 0 256 256)/\nth bs b=some (.cells cs 3)/\cs.length=256/\cs.map aW=cs/\∀v∈cs,v.cells=[v]) (h0:0<rows.length) (hlen:rows.length<=100000) (hn:rows.length+300<=n) :
  zk prog gl (n+1) 17 [.sl 1 rows .no] ⟨bs,es⟩=some (.ret (.bool true),⟨bs,es⟩):=by
 suffices bK:go ⟨prog,gl,zk prog gl n,u3⟩ n (Fx prog f17.results.toList λw H1=>w=.bool true/\∃ls,H1=⟨bs++ls,[]⟩) [.c (f17.body.getD .skip)] .normal ⟨[.sl 1 rows .no]++List.replicate 60 (.br []),⟨bs,[]⟩,[],[]⟩ by
  obtain⟨w,H1,h0,rfl,ls,rfl⟩:=zJ (bs:=bs) (es:=es) (h1 _) (λH=>h2 _ _ H) func17 rfl (by rw[hu];exact bK)
  rw[h0];exact congrArg (λx=>some (Out.ret _,x)) (zW (dU _))
 have hug:q_ prog u3 27=true:=by kernel_rfl
 have RP:q_ prog u3 28=false:=by kernel_rfl
 have tS:∀vs env s,qE env s (some (.sl 1 vs .no))=some (.sl 1 vs .no,env):=λ_ _ _=>rfl;simp only[f17,ga,zh];refine rg ?_;simp only[BW,List.replicate];refine rg ?_;simp only[BW];refine rg ?_;simp only[BW]
 refine qd (λm st=>∃i env B,m+i=rows.length/\B=bs++Hu i/\st=⟨env,⟨B,[]⟩,[],[]⟩/\Ks 61 [(0,.sl 1 rows .no),(3,zm 1 27 (uz bs.length i)),(4,.int .i64 (i:Nat))] env) rows.length (by omega) ⟨0,_,bs,rfl,by simp[Hu],rfl,fZ rfl⟩ ?_
 rintro m st ⟨i,env,B,tU,hB,rfl,⟨j,rfl⟩⟩;have Mv:B.length=bs.length+i:=by rw[hB];simp[zoe]
 simp only[sh,pV,Nat.reduceBEq,Nat.reduceAdd,mh,nD];simp only[zh];refine rg ?_;simp only[BW,qh,U0]
 by_cases hi:i<rows.length
 ·refine .inl ⟨by simp;omega,?_⟩
  obtain⟨b,cs,bZ,lW,gE,rj,hco⟩:=hr i hi;have RQ:nth B b=some (.cells cs 3):=by
   rw[zg] at lW ⊢;rw[hB,fI (cP.1 lW).1,lW]
  have hq:aW (V.sr b 0 256 256)=.sr b 0 256 256:=rfl;have tq:∀env t,qE env t (some (V.sr b 0 256 256))=some (.sr b 0 256 256,env):=λ_ _=>rfl;obtain⟨l0,GP⟩:∃l0,l0=cs++[V.int .i64 (-1),V.int .i64 (-2)]:=⟨_,rfl⟩;have hll:l0.length=258:=by rw[GP];simp[gE]
  have hap:∀env lk df,Mb prog 27 env ⟨B,[]⟩ lk df (some (.sl 1 [.int .i64 (-1),.int .i64 (-2)] .no)) (some (.sr b 0 256 256))=some (.val (.dw B.length 0 258),⟨env,⟨B++[.ul 0 1 l0 3],[]⟩,lk,df⟩):=λenv lk df=>by rw[GP];exact zrd RQ gE rj hco
  have bR:∀env lk df,vA prog 27 env ⟨B,[]⟩ lk df (some (.vp [.sr b 0 256 256]))=some (.val (.sr b 0 256 256),⟨env,⟨B,[]⟩,lk,df⟩):=λenv lk df=>by simp only[vA,iV];rfl
  refine wd (tk:=[18]) (by kernel_rfl) ?_
  simp only[BW,Nat.reduceEqDiff,RO bZ rfl,bR,hq,zrc (cx:=⟨prog,gl.g,zk prog gl n,u3⟩) rfl,yU (cx:=⟨prog,gl.g,zk prog gl n,u3⟩) hug,hap];refine rg ?_;simp only[BW];generalize hc:(-1000 - (i:Int))=c
  refine qd (λm st=>∃k env,m+k=258/\st=⟨env,⟨B++[.ul 0 1 (Da c k l0) 3],[]⟩,[],[]⟩/\Ks 61 [(0,.sl 1 rows .no),(3,zm 1 27 (uz bs.length i)),(4,.int .i64 (i:Nat)),(5,.dw B.length 0 258),(6,.int .i64 (k:Nat))] env) 258 (by omega) ⟨0,_,rfl,rfl,fZ rfl⟩ ?_
  rintro m2 st ⟨k,env,Bn,rfl,⟨j2,rfl⟩⟩;simp only[sh,pV,Nat.reduceBEq,Nat.reduceAdd,mh,nD];simp only[zh];refine rg ?_;simp only[BW,qh,zo4]
  by_cases hk:k<258
  ·refine .inl ⟨by simp;omega,?_⟩
   have hw:IntKind.i64.wrap (-1000 - (i:Int))=c:=by rw[kw (by omega) (by omega),hc]
   have fe:∀env,qo prog 3 ⟨B++[.ul 0 1 (Da c k l0) 3],[]⟩ [] [] (some (.int .i64 c,env)) (some (.gm B.length 0 k))=_:=λenv=>zre (env:=env) (show k<l0.length by omega)
   refine rg ?_;simp only[BW,kj,hw,zqO hk,fe];refine rg ?_;simp only[BW,zQ (show k<2 ^ 60 by omega)]
   exact⟨m2 - 1,by omega,k+1,_,by omega,rfl,fZ rfl⟩
  ·obtain rfl:k=258:=by omega
   refine .inr ⟨by simp,?_⟩
   rw[zog hll,<- hc];have hBn:B++[.ul 0 1 (List.replicate 258 (V.int .i64 (-1000 - (i:Int)))) 3]=bs++Hu (i+1):=by rw[hB,zqM];simp[RN]
   have fH:=jE Kv (H:=⟨B++[.ul 0 1 (List.replicate 258 (V.int .i64 (-1000 - (i:Int)))) 3],[]⟩) (xs:=uz bs.length i) (ys:=[V.dw B.length 0 258]) (o:=.no) (by simp) (Vm.dJ (by simp[ZP];omega) (by simp[ZP];omega))
   have FL:=Kv.Ck (v:=.dw B.length 0 258) rfl rfl;have hA:uz bs.length (i+1)=uz bs.length i++[V.dw B.length 0 258]:=by rw[ZO,Mv]
   rw[<- hA] at fH;have tO:∀l env s,qE env s (some (.sl 1 l (.yes 27)))=some (.sl 1 l (.yes 27),env.set s (.sl 1 l .no)):=λ_ _ _=>rfl;have b_:∀k,zm 1 27 (uz bs.length (k+1))=.sl 1 (uz bs.length (k+1)) (.yes 27):=λk=>by rw[ZO];cases uz bs.length k<;>rfl
   refine wd (tk:=[32]) (by kernel_rfl) ?_
   cases i with
   | zero =>
    have e0:zm 1 27 (uz bs.length 0)=.aG:=rfl;rw[b_,e0] at fH;simp only[BW,Nat.reduceEqDiff,e0,jV (cx:=⟨prog,gl.g,zk prog gl n,u3⟩) RP,FL,tO,xR,fH];refine rg ?_;simp only[BW,zQ (show 0<2 ^ 60 by omega)]
    refine⟨m - 1,by omega,1,_,_,by omega,hBn,rfl,?_⟩
    rw[b_];exact fZ rfl
   | succ i =>
    rw[b_,b_] at fH;simp only[BW,Nat.reduceEqDiff,Nat.reduceAdd,b_,jV (cx:=⟨prog,gl.g,zk prog gl n,u3⟩) RP,FL,tO,xR,fH];refine rg ?_;simp only[BW,Nat.reduceAdd,zQ (show i+1<2 ^ 60 by omega)]
    refine⟨m - 1,by omega,i+1+1,_,_,by omega,hBn,rfl,?_⟩
    rw[b_];exact fZ rfl
 ·obtain rfl:i=rows.length:=by omega
  refine .inr ⟨by simp,?_⟩
  obtain⟨N,hN⟩:∃N,N=rows.length:=⟨_,rfl⟩;rw[<- hN];have b_:zm 1 27 (uz bs.length N)=.sl 1 (uz bs.length N) (.yes 27):=by
   obtain⟨k,rfl⟩:∃k,N=k+1:=⟨N - 1,by omega⟩
   rw[ZO];cases uz bs.length k<;>rfl
  rw[b_];refine rg ?_;simp only[BW];refine qd (λm st=>∃i env,m+i=N/\st=⟨env,⟨B,[]⟩,[],[]⟩/\Ks 61 [(3,.sl 1 (uz bs.length N) (.yes 27)),(7,.int .i64 (i:Nat))] env) N (by omega) ⟨0,_,rfl,rfl,fZ rfl⟩ ?_
  rintro m st ⟨i,env,tU,rfl,⟨j,rfl⟩⟩;simp only[sh,pV,Nat.reduceBEq,Nat.reduceAdd,mh,nD];simp only[zh];refine rg ?_;simp only[BW,qh,U0,ZP]
  by_cases hi:i<N
  ·refine .inl ⟨by simp;omega,?_⟩
   have ha:nth (uz bs.length N) i=some (.dw (bs.length+i) 0 258):=by
    rw[zg,uz,gj,uG hi];rfl
   have hb:Hp.get ⟨B,[]⟩ (bs.length+i)=some (.ul 0 1 (RN i) 3):=by
    show nth _ _=_;rw[zg,hB,<- hN,eM (by omega),E8,Hu,gj,uG hi];rfl
   refine rg ?_;simp only[BW];refine qd (λm st=>∃k env,m+k=258/\st=⟨env,⟨B,[]⟩,[],[]⟩/\Ks 61 [(3,.sl 1 (uz bs.length N) (.yes 27)),(7,.int .i64 (i:Nat)),(8,.int .i64 (k:Nat))] env) 258 (by omega) ⟨0,_,rfl,rfl,fZ rfl⟩ ?_
   rintro m2 st ⟨k,env,Bn,rfl,⟨j2,rfl⟩⟩;simp only[sh,pV,Nat.reduceBEq,Nat.reduceAdd,mh,nD];simp only[zh];refine rg ?_;simp only[BW,qh,RO ha rfl,KC,zo4]
   by_cases hk:k<258
   ·refine .inl ⟨by simp;omega,?_⟩
    have hw:IntKind.i64.wrap (-1000 - (i:Int)) = -1000 - (i:Int):=kw (by omega) (by omega)
    have gp:∀g,zl prog ⟨B,[]⟩ g 3 (.gm (bs.length+i) 0 k)=some (.int .i64 (-1000 - (i:Int))):=λg=>XN fo hb (by rw[zg,RN,List.getElem?_replicate,if_pos hk])
    have RH:∀z:Int,(z != z)=false:=λz=>by simp
    refine rg ?_;simp only[BW,RO ha rfl,KC,zqO hk,gp,kj,hw,RH];refine rg ?_;simp only[BW,zQ (show k<2 ^ 60 by omega)]
    exact⟨m2 - 1,by omega,k+1,_,by omega,rfl,fZ rfl⟩
   ·obtain rfl:k=258:=by omega
    refine .inr ⟨by simp,?_⟩
    refine rg ?_;simp only[BW,zQ (show i<2 ^ 60 by omega)]
    exact⟨m - 1,by omega,i+1,_,by omega,rfl,fZ rfl⟩
  ·obtain rfl:i=N:=by omega
   refine .inr ⟨by simp,?_⟩
   refine rg ?_;simp only[BW];exact fY rfl ⟨rfl,Hu rows.length,by rw[hB]⟩
end
section
variable{gl:Gl}{fj:bL}
theorem ZR(hG:GK gl fj)(h0:fj.any (Nat.beq 71)=false):∀(e:E),Wf e->∀d:Int,rY (hg e+2) prog gl 71 [enc e,.int .i64 d] (.int .i64 (dP e d))
 | .mk op pl s0 s1 s2 s3 text mn mx nl args,hw=>by
  intro d;have Ci:=rG;have hlen:=hw.2.1;have fM:∀a,a∈args->rY (hg a+2) prog gl 71 [enc a,.int .i64 (IntKind.i64.wrap (d+1))] (.int .i64 (dP a (IntKind.i64.wrap (d+1)))):=λa ha=>ZR hG h0 a (hw.2.2.mem ha) _;have hgm:∀a∈args,hg a<=On args:=λa ha=>QB ha;simp only[hg];generalize he:E.mk op pl s0 s1 s2 s3 text mn mx nl args=e at hw ⊢
  have e9:nth (aL e) 9=some (yi nl (fy args)):=by rw[<- he];rfl
  have hs:dP e d=if c_ 5000 d then 1048576 else lO (IntKind.i64.wrap (d+1)) 1 args:=by rw[<- he];simp only[dP]
  refine yM hG func71 rfl h0 rfl (On args+args.length+3) λn hn bs=>?_;simp only[f71,zh];refine rg ?_;simp only[BW,Nat.reduceAdd,List.replicate,MN,qc (Kr e),yj];refine rg ?_
  by_cases c1:5000<d
  ·rw[hs,show c_ 5000 d=true by simp[c_,c1],if_pos rfl]
   simp only[BW,gt_iff_lt,c1];refine rg ?_;simp only[BW];exact fY rfl ⟨rfl,_,rfl⟩
  rw[hs,show c_ 5000 d=false by simp[c_,c1],if_neg (by decide)]
  simp only[BW,gt_iff_lt,c1];refine rg ?_;simp only[BW];refine rg ?_;simp only[BW];generalize hR:lO (IntKind.i64.wrap (d+1)) 1 args=R
  refine qd (λm st=>∃i env n',m+i=args.length/\st=⟨env,⟨bs++[.cells (aL e) 53],[]⟩,[],[]⟩/\Ks 31 [(1,.int .i64 d),(2,.ptr bs.length 0),(5,.int .i64 n'),(6,.int .i64 (i:Nat))] env/\lO (IntKind.i64.wrap (d+1)) n' (args.drop i)=R) args.length (by omega) ⟨0,_,_,rfl,rfl,fZ rfl,hR⟩ ?_
  rintro m st ⟨i,env,n',tU,rfl,⟨j,rfl⟩,o8⟩;simp only[sh,pV,Nat.reduceBEq,Nat.reduceAdd,mh,nD];simp only[zh];refine rg ?_
  by_cases hi:i<args.length
  ·obtain⟨a,ha⟩:∃a,args[i]?=some a:=⟨args[i],by simp[hi]⟩
   have e_:args.drop i=a::args.drop (i+1):=by
    rw[E7 hi];rw[fQ hi] at ha;cases ha;rfl
   have M8:=m8 ha;rw[e_] at o8;simp only[lO] at o8;have uc:((i:Int)<(args.length:Int)):=by omega
   by_cases U1:n'<1048576
   ·simp only[BW,dQ,fq dX,e9,z4,qp,uc,U1];have hc:∀H,Cx.bD ⟨prog,gl.g,zk prog gl n,nU⟩ 71 [.agg (aL a),.int .i64 (IntKind.i64.wrap (d+1))] H=some (.val (.int .i64 (dP a (IntKind.i64.wrap (d+1)))),H):=by
     rw[<- qz];exact wh func71 rfl (fM a M8 n (by have:=hgm a M8;omega))
    refine rg ?_;simp only[BW,dQ,fq dX,e9,z4,YO ha,Ra,jO,hc];refine rg ?_;have h4:=XV (i:=i) (by omega)
    simp only[BW,jO,h4];rw[show c_ n' 1048576=true by simp[c_,U1],if_pos rfl] at o8
    exact⟨m - 1,by omega,i+1,_,_,by omega,rfl,fZ rfl,o8⟩
   ·simp only[BW,dQ,fq dX,e9,z4,qp,uc,U1];refine rg ?_;simp only[BW];rw[show c_ n' 1048576=false by simp[c_,U1],if_neg (by decide)] at o8
    subst o8;exact fY rfl ⟨rfl,_,rfl⟩
  ·obtain rfl:i=args.length:=by omega
   rw[List.drop_length] at o8;simp only[lO] at o8;subst o8;simp only[BW,dQ,fq dX,e9,z4,qp,show ¬((args.length:Int)<(args.length:Int)) by omega]
   refine rg ?_;simp only[BW];exact fY rfl ⟨rfl,_,rfl⟩
termination_by e=>hg e
decreasing_by simp only[hg];have:=QB ha;omega
end
end Go.Proofs.YthohlnmcjkjeiaaGreatDoor.A2
namespace Go.Proofs.YthohlnmcjkjeiaaGreatDoor
open Go.Proofs.Tryz
set_option maxRecDepth 100000
open Go Go.Vm
variable{gl:Gl}
def eC(e:aB):Bool:=fG e || Nat.beq e mJ
def RR:bL:=[28,30,73,74,108,109,110,111,112,113,114,148,149,150,151,188]
structure GS(gl:Gl):Prop where
 uq:gl.uq=eC
 eV:∀n f args H,(RR.any (Nat.beq f))=true->gl.eV n f args H=none
 hk:∀f args,(RR.any (Nat.beq f))=true->gl.hk f args=none
theorem vZ{n0 t:Nat}{es:aN}{H:Hp}(h:n0<t):zX n0 es t H=⟨H.au,H.bC++es⟩:=by
 unfold zX;have:Nat.ble t n0=false:=by
  cases hb:Nat.ble t n0 with
  | false=>rfl
  | true=>have:=r8 hb;omega
 rw[this];rfl
theorem U2{bs:List aT}{es:aN}{b:Nat}{x:aT}:zX bs.length es 0 ⟨bs.set b x,[]⟩=⟨bs.set b x,es⟩:=by
 have:=zW (bs:=bs.set b x) (ls:=[]) (es:=es) (t:=0) (dU _)
 rwa [mT,bG] at this
theorem Jh:prog.underlying 205=some (.slice 5):=by kernel_rfl
theorem Gq:z8 prog 5=some 1:=by kernel_rfl
theorem s8:qC prog 5=some false:=by kernel_rfl
theorem z5':qP prog 5=some (.int .u8 0):=by kernel_rfl
theorem in5:∃i,prog.info? 5=some i/\i.bytes=1:=⟨_,rfl,rfl⟩
theorem ze2{v:V}:∀{k:Nat},(List.replicate k [v]).flatten=List.replicate k v
 | 0=>rfl
 | k+1=>by rw[HQ,List.flatten_cons,ze2,HQ];rfl
theorem xr(hg:GS gl){n k:Nat}(hk:k<2 ^ 40){bs:List aT}{es:aN}:zk prog gl (n+1) 108 [.int .i64 (k:Nat)] ⟨bs,es⟩=some (.ret (.sr bs.length 0 (k / 8+1) (k / 8+1)),⟨bs++[.cells (dR (k / 8+1) 0) 5],es⟩):=by
 suffices bK:(go ⟨prog,gl,zk prog gl n,eC⟩ n (Fx prog f108.results.toList λw H1=>w=.sr bs.length 0 (k / 8+1) (k / 8+1)/\H1=⟨bs++[.cells (dR (k / 8+1) 0) 5],[]⟩) [.c (f108.body.getD .skip)] .normal ⟨[.int .i64 (k:Nat)]++List.replicate 6 (.br []),⟨bs,[]⟩,[],[]⟩) by
  obtain⟨w,H1,h0,rfl,rfl⟩:=zJ (gl:=gl) (f:=108) (bs:=bs) (es:=es) (args:=[.int .i64 (k:Nat)]) (n:=n) (hg.hk _ _ (by decide)) (λH=>hg.eV _ _ _ _ (by decide)) func108 rfl (by rw[hg.uq];exact bK)
  rw[h0,vZ (by simp[V.top])]
  rfl
 obtain⟨i,MY,MZ⟩:=in5;simp only[f108,ga,zh];refine zi ?_;simp only[BA,aj,aq,bU];simp only[List.replicate];refine zi ?_
 simp only[BA,ak,aj,aq,zd,ze,bS,bU,zhe (show k<2 ^ 60 by omega),zQ (show k / 8<2 ^ 60 by omega)]
 rw[XC (k:=k / 8+1) Jh Gq z5' rfl MY (by decide) rfl rfl rfl rfl (by rw[MZ];exact dJ (by omega) (by omega)) (by omega)]
 simp only[BA,aq,zc,zd,ze,bS,bU,zhd];simp only[go_ret,zr,Fx]
 refine⟨trivial,[.sr bs.length 0 (k / 8+1) (k / 8+1)],?_,rfl,?_⟩
 ·simp only[zy,zd,ze]
 ·show Hp.mk _ _=_;rw[zlS,<- ze2];rfl
theorem ZS{b i m:Nat}(h:i<m):zp prog 205 (.sr b 0 m m) ((i:Nat):Int)=some (.ptr b i):=by
 simp only[zp,Jh,Gq];rw[if_pos (by omega)]
 simp
theorem zqQ{b i m p:Nat}(h:i<m):wz [] b i 1 ((dR m p).drop i)=true:=yq λk hk=>by
 obtain rfl:k=0:=by omega
 exact⟨_,by rw[nC,vM h],rfl⟩
theorem ZT(hg:GS gl){n k m p b:Nat}(hk:k<2 ^ 40)(hm:k / 8<m){bs:List aT}{es:aN}(hb:nth bs b=some (.cells (dR m p) 5)) :
  zk prog gl (n+1) 109 [.sr b 0 m m,.int .i64 (k:Nat)] ⟨bs,es⟩=some (.ret (.br []),⟨bs.set b (.cells (dR m (p ||| 2 ^ k)) 5),es⟩):=by
 suffices bK:(go ⟨prog,gl,zk prog gl n,eC⟩ n (Fx prog f109.results.toList λw H1=>w=.br []/\H1=⟨bs.set b (.cells (dR m (p ||| 2 ^ k)) 5),[]⟩) [.c (f109.body.getD .skip)] .normal ⟨[.sr b 0 m m,.int .i64 (k:Nat)]++List.replicate 12 (.br []),⟨bs,[]⟩,[],[]⟩) by
  obtain⟨w,H1,h0,rfl,rfl⟩:=zJ (gl:=gl) (f:=109) (bs:=bs) (es:=es) (args:=[.sr b 0 m m,.int .i64 (k:Nat)]) (n:=n) (hg.hk _ _ (by decide)) (λH=>hg.eV _ _ _ _ (by decide)) func109 rfl (by rw[hg.uq];exact bK)
  rw[h0,show(V.br []).top=0 from rfl,U2]
 have FO:(⟨bs,[]⟩:Hp).get b=some (.cells (dR m p) 5):=hb;have gp:zl prog ⟨bs,[]⟩ gl.g 5 (.ptr b (k / 8))=some (.int .u8 (o4 p (k / 8):Nat)):=zu s8 FO (by rw[zg];exact vM hm)
 simp only[f109,ga];refine qY (tk:=[]) (by kernel_rfl) (by kernel_rfl) ?_
 simp only[List.replicate];simp only[BA,ak,aj,aq,aE,av,zd,ze,bS,bU,Of,ZS hm,zhe (show k<2 ^ 60 by omega),zlV,zlW (show k % 8<8 by omega),gp,s8,zjn vF (XS (show k % 8<8 by omega))]
 rw[zA Gq FO rfl rfl (by simp[yV];omega) (zqQ hm)]
 simp only[bx,aq,V.laid,Vm.storeCells,zr,Fx]
 rw[jT (by simp[V.top])]
 refine⟨trivial,[],rfl,rfl,?_⟩;rw[znO,znQ];rfl
theorem ZU{p q i j:Nat}(h:i<=j):o4 (p ||| q % 2 ^ (8 * i)) j=o4 p j :=
 (Qz vF λk hk=>by
  rw[w4 hk,AO,Nat.testBit_mod_two_pow];have:¬(8 * j+k<8 * i):=by omega
  simp[this]).symm
theorem ZV{p q i j:Nat}(h:j<i):o4 (p ||| q % 2 ^ (8 * i)) j=o4 (p ||| q) j :=
 (Qz vF λk hk=>by
  rw[w4 hk,AO,AO,Nat.testBit_mod_two_pow];have:8 * j+k<8 * i:=by omega
  simp[this]).symm
theorem zoh{m p q i:Nat}(_h:i<m):(dR m (p ||| q % 2 ^ (8 * i))).set i (.int .u8 ((o4 p i ||| o4 q i:Nat):Int))=dR m (p ||| q % 2 ^ (8 * (i+1))):=by
 refine XT (by rw[bG,yV]) λj hj=>?_
 rw[List.getElem?_set']
 by_cases e:i=j
 ·subst e;simp[vM hj,zpE,ZV (HT i)]
 ·simp only[e,bz,vM hj];rcases eI j i with h1|h1
  ·rw[ZV h1,ZV (by omega)]
  ·rw[ZU h1,ZU (by omega)]
theorem ZW{H:Hp}{b o l c:Nat}:qV prog H 205 (.sr b o l c)=some (l:Int):=by simp only[qV,Jh]
theorem zkG(hg:GS gl){n m p q b c:Nat}(hm:m<2 ^ 40)(hq:q<2 ^ (8 * m))(b_:c≠b){bs:List aT}{es:aN}(hb:nth bs b=some (.cells (dR m p) 5))(hc:nth bs c=some (.cells (dR m q) 5))(hn:m<n) :
  zk prog gl (n+1) 151 [.sr b 0 m m,.sr c 0 m m] ⟨bs,es⟩=some (.ret (.br []),⟨bs.set b (.cells (dR m (p ||| q)) 5),es⟩):=by
 suffices bK:(go ⟨prog,gl,zk prog gl n,eC⟩ n (Fx prog f151.results.toList λw H1=>w=.br []/\H1=⟨bs.set b (.cells (dR m (p ||| q)) 5),[]⟩) [.c (f151.body.getD .skip)] .normal ⟨[.sr b 0 m m,.sr c 0 m m]++List.replicate 19 (.br []),⟨bs,[]⟩,[],[]⟩) by
  obtain⟨w,H1,h0,rfl,rfl⟩:=zJ (gl:=gl) (f:=151) (bs:=bs) (es:=es) (args:=[.sr b 0 m m,.sr c 0 m m]) (n:=n) (hg.hk _ _ (by decide)) (λH=>hg.eV _ _ _ _ (by decide)) func151 rfl (by rw[hg.uq];exact bK)
  rw[h0,show(V.br []).top=0 from rfl,U2]
 simp only[f151,ga,zh];refine zi ?_;simp only[List.replicate];simp only[BA,ak,aj,aq,zd,ze,bS,bU,Of,ZW]
 let Hi:Nat->Hp:=λi=>⟨bs.set b (.cells (dR m (p ||| q % 2 ^ (8 * i))) 5),[]⟩
 refine qd (λk s=>∃i env,k+i=m/\s=⟨env,Hi i,[],[]⟩/\env.length=21/\nth env 0=some (.sr b 0 m m)/\nth env 1=some (.sr c 0 m m)/\nth env 6=some (.int .i64 (m:Nat))/\nth env 7=some (.int .i64 (i:Nat))) m (by omega) ?_ ?_
 ·have Er:Hi 0=⟨bs,[]⟩:=by
   simp only[Hi,Nat.mul_zero,Nat.pow_zero,Nat.mod_one,Nat.or_zero];rw[jY hb]
  refine⟨0,_,rfl,by rw[Er],?_,?_,?_,?_,?_⟩<;>rfl
 rintro k s ⟨i,env,tU,rfl,hlen,h0,h1,h6,h7⟩;simp only[zh];refine zi ?_;simp only[BA,ak,aq,za,Nat.reduceLT,h6,h7,hlen,qT]
 by_cases hi:i<m
 ·refine .inl ⟨by simp;omega,?_⟩
  refine zi ?_;simp only[BA,Nat.reduceEqDiff,ak,aq,za,bG,Nat.reduceLT,bz,h7,hlen];refine qY (tk:=[]) (by kernel_rfl) (by kernel_rfl) ?_
  have FO:(Hi i).get b=some (.cells (dR m (p ||| q % 2 ^ (8 * i))) 5):=by
   have bR:b<bs.length:=by rw[zg] at hb;exact(cP.1 hb).1
   show nth (bs.set b _) b=_;rw[zg,tC,if_pos rfl,if_pos bR]
  have hgc:(Hi i).get c=some (.cells (dR m q) 5):=by
   show nth (bs.set b _) c=_;rw[zg,tC,if_neg (Ne.symm b_),<- zg,hc]
  have gp:zl prog (Hi i) gl.g 5 (.ptr b i)=some (.int .u8 (o4 p i:Nat)):=zu s8 FO (by rw[zg,vM hi,ZU (dB _)])
  have FP:zl prog (Hi i) gl.g 5 (.ptr c i)=some (.int .u8 (o4 q i:Nat)):=zu s8 hgc (by rw[zg,vM hi])
  simp only[BA,Nat.reduceEqDiff,ak,aq,aE,av,za,bG,Nat.reduceLT,bz,h0,h1,hlen,Of,ZS hi,s8,gp,FP,zjn vF vF];rw[zA Gq FO rfl rfl (by simp[yV];omega) (zqQ hi)]
  simp only[bx,aq,V.laid,Vm.storeCells]
  rw[jT (by simp[V.top]),zoh hi]
  have hH:(Hi i).set b (.cells (dR m (p ||| q % 2 ^ (8 * (i+1)))) 5)=Hi (i+1):=by simp only[Hi,Hp.set,List.set_set]
  rw[hH];refine zi ?_;simp only[BA,Nat.reduceEqDiff,ak,aj,aq,za,bG,Nat.reduceLT,bz,h7,hlen,zQ (show i<2 ^ 60 by omega),zr,aO]
  refine⟨m - 1 - i,by omega,i+1,_,by omega,rfl,?_,?_,?_,?_,?_⟩<;>simp[za,hlen,h0,h1,h6]
 ·obtain rfl:i=m:=by omega
  refine .inr ⟨by simp,?_⟩
  simp only[ql,zO,zG,zr,bJ,lu,aF,Fx]
  refine⟨trivial,[],rfl,rfl,?_⟩;simp only[Hi,Fb hq]
end Go.Proofs.YthohlnmcjkjeiaaGreatDoor
namespace Go.Vm
set_option maxRecDepth 100000
open Go
def ZX(cx:Cx)(H:Hp)(lk:aN)(df:bP)(env:aC):bY->Option aC->Option (OR×St)
 | some fv,some l=>aA lk df env (cx.mI (aW fv) l H)
 | _,_=>none
theorem wN{cx:Cx}{H:Hp}{lk:aN}{df:bP}{env:aC}{fv:V}{l:aC}:ZX cx H lk df env (some fv) (some l)=aA lk df env (cx.mI (aW fv) l H):=rfl
theorem yN{cx:Cx}{takes:cg}{dst:fJ}{type:aB}{pos:String}{after:Array Edge}{guard:oP}{env:aC}{H:Hp}{lk:aN}{df:bP}{t:Tmp}{args:r_}{ts:Array aB} :
  cx.op takes ⟨dst,.call ⟨.value (.tmp t),args,ts⟩,type,pos,after,guard⟩ env H lk df=ZX cx H lk df env (nth env t) (az env args.toList):=by
 simp only[Cx.op,ak];cases nth env t with
 | none=>rfl
 | some fv=>cases az env args.toList with
  | none=>rfl
  | some l=>simp only[ZX,aA];cases cx.mI (aW fv) l H with
   | none=>rfl
   | some q=>obtain⟨a,b⟩:=q;rfl
end Go.Vm
namespace Go.Proofs.YthohlnmcjkjeiaaGreatDoor
open Go Go.Vm
open Go.Proofs.Tryz
set_option maxRecDepth 100000
section
variable{gl:Gl}
theorem U3:prog.underlying 9=some .string:=by kernel_rfl
theorem ZY:prog.underlying 5=some (.int .u8):=by kernel_rfl
theorem u3':prog.underlying 3=some (.int .i64):=by kernel_rfl
theorem zoi(hg:GS gl){n v:Nat}(hv:v<256)(h0:v≠0){H:Hp}:zk prog gl (n+1) 188 [.int .u8 (v:Nat)] H=some (.ret (.int .i64 (BD v:Nat)),H):=by
 obtain⟨bs,es⟩:=H;have iM:zX bs.length es 0 ⟨bs,[]⟩=⟨bs,es⟩:=by
  have:=zW (bs:=bs) (ls:=[]) (es:=es) (t:=0) (dU _)
  rwa [mT] at this
 suffices bK:(go ⟨prog,gl,zk prog gl n,eC⟩ n (Fx prog f188.results.toList λw H1=>w=.int .i64 (BD v:Nat)/\H1=⟨bs,[]⟩) [.c (f188.body.getD .skip)] .normal ⟨[.int .u8 (v:Nat)]++List.replicate 5 (.br []),⟨bs,[]⟩,[],[]⟩) by
  obtain⟨w,H1,h0,rfl,rfl⟩:=zJ (gl:=gl) (f:=188) (bs:=bs) (es:=es) (args:=[.int .u8 (v:Nat)]) (n:=n) (hg.hk _ _ (by decide)) (λH=>hg.eV _ _ _ _ (by decide)) func188 rfl (by rw[hg.uq];exact bK)
  rw[h0];exact congrArg (λx=>some (Out.ret _,x)) iM
 simp only[f188,ga,zh];refine zi ?_;simp only[BA,aj,aq,bU];refine zi ?_;simp only[List.replicate];simp only[qx,zK,ak,zd,ze,zt,aM,aq,bS,bU,zS,zlA]
 generalize hs:aj _=sv;obtain⟨L,hL,hLz⟩:∃L,sv=some (.str L)/\∀v,v<256->v≠0->nth L v=some (BD v):=by
  subst hs;refine⟨_,rfl,?_⟩;decide +kernel
 have iB:BD v<2 ^ 60:=by
  have h8:∀v,v<256->BD v<2 ^ 60:=by decide +kernel
  exact h8 v hv
 have sD:Pj prog 9 (.str L) ((v:Nat):Int)=some (.int .u8 (BD v:Nat)):=by
  simp only[Pj,U3,y_,hLz v hv h0];simp
 have lf:vB prog 5 3 (.int .u8 (BD v:Nat))=some (.int .i64 (BD v:Nat)):=by
  simp only[vB,ZY,u3',Option.bind_eq_bind,aU];rw[kw (by omega) (by omega)]
 subst hL;simp only[aE,sD,zt,aM,aq];simp only[BA,ak,aq,zd,ze,bS,bU,vU (a:=5) (b:=3) (hm:=rfl),show eC (vg 5)=false from rfl,lf,go_ret]
 refine⟨rfl,[.int .i64 (BD v:Nat)],?_,rfl,rfl⟩;simp only[zy,zd,ze]
def KE(w m:Nat):Nat->bL
 | 0=>[]
 | k+1=>(xQ (o4 w (m - (k+1)))).map (8 * (m - (k+1)) + ·)++KE w m k
theorem zjE{w m:Nat}:∀k,k<=m->Ol w m=Ol w (m - k)++KE w m k
 | 0,_=>by simp[KE]
 | k+1,h=>by
  rw[zjE k (by omega),KE,show m - k=(m - (k+1))+1 by omega,Ol,aY]
theorem zmy{w m:Nat}:KE w m m=wl m w:=by
 have:=zjE (w:=w) m (dB _);rw[Bb,zjm] at this;exact this.symm
theorem ZZ{cx:Cx}{F:FuncId}{caps args:aC}{H:Hp}(hc:caps.map aW=caps):cx.mI (.fn (.func F) [] caps) args H=cx.bD F (args.map aW++caps) H:=by
 simp[Cx.mI,eJ,hc]
theorem ze3{P:aQ}{t:aB}{x y:aX}{b:Nat}(h:8 * b<2 ^ 60):qO P .mul t x y (some (.int .i64 8)) (some (.int .i64 b))=some (.int .i64 ((8 * b:Nat):Int)):=XO (a:=8) h
theorem zhD(hg:GS gl){n m w b:Nat}{F:FuncId}{caps:aC}(gE:caps.map aW=caps)(hm:m<2 ^ 40)(Oz:m<n)(hn:300<=n)(I:bL->Hp->Prop)(cQ:∀l H,I l H->H.get b=some (.cells (dR m w) 5))
  (mL:∀k l H,k<8 * m->I (k::l) H->∃H',Cx.bD ⟨prog,gl.g,zk prog gl n,eC⟩ F ([.int .i64 (k:Nat)]++caps) H=some (.val (.br []),H')/\I l H') {bs:List aT} {es:aN} (h0:I (wl m w) ⟨bs,[]⟩) :
  ∃H',zk prog gl (n+1) 148 [.sr b 0 m m,.fn (.func F) [] caps] ⟨bs,es⟩=some (.ret (.br []),zX bs.length es 0 H')/\I [] H':=by
 suffices bK:(go ⟨prog,gl,zk prog gl n,eC⟩ n (Fx prog f148.results.toList λw H1=>w=.br []/\I [] H1) [.c (f148.body.getD .skip)] .normal ⟨[.sr b 0 m m,.fn (.func F) [] caps]++List.replicate 25 (.br []),⟨bs,[]⟩,[],[]⟩) by
  obtain⟨w,H1,h0,rfl,h1⟩:=zJ (gl:=gl) (f:=148) (bs:=bs) (es:=es) (args:=[.sr b 0 m m,.fn (.func F) [] caps]) (n:=n) (hg.hk _ _ (by decide)) (λH=>hg.eV _ _ _ _ (by decide)) func148 rfl (by rw[hg.uq];exact bK)
  exact⟨H1,h0,h1⟩
 simp only[f148,ga,zh];refine zi ?_;simp only[List.replicate];simp only[BA,ak,aj,aq,zd,ze,bS,bU,Of,ZW]
 refine qd (λk s=>∃i env H,k+i=m/\s=⟨env,H,[],[]⟩/\I (KE w m k) H/\env.length=27/\nth env 1=some (.fn (.func F) [] caps)/\nth env 6=some (.sr b 0 m m)/\nth env 7=some (.int .i64 (m:Nat))/\nth env 8=some (.int .i64 (i:Nat))) m (by omega) ?_ ?_
 ·refine⟨0,_,_,rfl,rfl,by rw[zmy];exact h0,?_,?_,?_,?_,?_⟩<;>rfl
 rintro k s ⟨i,env,H,tU,rfl,hI,hlen,h1,h6,h7,h8⟩;simp only[zh];refine zi ?_;simp only[BA,ak,aq,za,Nat.reduceLT,h7,h8,hlen,qT]
 by_cases hi:i<m
 ·refine .inl ⟨by simp;omega,?_⟩
  obtain⟨k,rfl⟩:∃k',k=k'+1:=⟨k - 1,by omega⟩
  have P9:m - (k+1)=i:=by omega
  have uk:I ((xQ (o4 w i)).map (8 * i + ·)++KE w m k) H:=by rw[<- P9];exact hI
  have gp:zl prog H gl.g 5 (.ptr b i)=some (.int .u8 (o4 w i:Nat)):=zu s8 (cQ _ _ hI) (by rw[zg,vM hi])
  refine zi ?_;simp only[BA,Nat.reduceEqDiff,ak,aq,aE,za,bG,Nat.reduceLT,bz,h6,h8,hlen,Of,ZS hi,gp]
  refine qd (λu s=>∃env H,s=⟨env,H,[],[]⟩/\u<256/\I ((xQ u).map (8 * i + ·)++KE w m k) H/\env.length=27/\nth env 1=some (.fn (.func F) [] caps)/\nth env 4=some (.int .i64 (i:Nat))/\nth env 5=some (.int .u8 (u:Nat))/\nth env 6=some (.sr b 0 m m)/\nth env 7=some (.int .i64 (m:Nat))/\nth env 8=some (.int .i64 (i:Nat))) (o4 w i) (r9 vF (by omega)) ?_ ?_
  ·refine⟨_,_,rfl,vF,uk,?_,?_,?_,?_,?_,?_,?_⟩<;>simp[za,hlen,h1,h6,h7,h8]
  rintro u s ⟨bI,H2,rfl,hu,Z0,cK,g1,g4,g5,g6,g7,g8⟩;simp only[zh];refine zi ?_;simp only[BA,Nat.reduceEqDiff,ak,aj,aq,za,bG,Nat.reduceLT,bz,g5,cK,Qm]
  by_cases DB:u=0
  ·subst DB;refine .inr ⟨by simp,?_⟩
   simp only[ql,zO,zG,zr,bJ,qF,lu,aF]
   refine zi ?_;simp only[BA,Nat.reduceEqDiff,ak,aj,aq,za,bG,Nat.reduceLT,bz,g8,cK,zQ (show i<2 ^ 60 by omega),zr,aO]
   refine⟨k,by omega,i+1,_,_,by omega,rfl,?_,?_,?_,?_,?_,?_⟩
   ·simpa[CU] using Z0
   all_goals simp[za,cK,g1,g6,g7]
  ·refine .inl ⟨by simp;omega,?_⟩
   refine zi ?_;obtain⟨e1,e2⟩:=CT u hu DB;rw[e1,a_,bh] at Z0;have hl8:BD u<8:=by
    have:BD u∈xQ u:=by rw[e1];exact eT ..
    simpa[xQ] using (List.mem_filter.1 this).1
   obtain⟨H3,hc,hI3⟩:=mL (8 * i+BD u) _ _ (by omega) Z0
   obtain⟨n',rfl⟩:∃n',n=n'+1:=⟨n - 1,by omega⟩
   have GY:=zoi hg (n:=n') hu DB (H:=H2);have Z1:Cx.bD ⟨prog,gl.g,zk prog gl (n'+1),eC⟩ 188 [.int .u8 (u:Nat)] H2=some (.val (.int .i64 (BD u:Nat)),H2):=zq func188 rfl GY;simp only[bh,bg] at hc;have hw:IntKind.i64.wrap (((8 * i:Nat):Int)+((BD u:Nat):Int))=((8 * i+BD u:Nat):Int):=by
    rw[kw (by omega) (by omega)];omega
   simp only[qx,aH,qF,zK,zY,ki,Nat.reduceEqDiff,az,qm,ak,aj,zt,aM,aq,zS,qL,aA,a_,bt,bh,bg,aF,za,bG,Nat.reduceLT,aF,bz,g1,g4,g5,cK,yN,wN,show aW (V.fn (.func F) [] caps)=.fn (.func F) [] caps from rfl,ZZ gE,Z1,ze3 (show 8 * i<2 ^ 60 by omega),jO,hw,bh,bg,hc]
   refine zi ?_;simp only[BA,Nat.reduceEqDiff,ak,aj,aq,za,bG,Nat.reduceLT,bz,g5,cK,zlU DB hu,zlT hu (show u - 1<256 by omega),zr,aO]
   refine⟨u &&& (u - 1),e2,_,_,rfl,by omega,hI3,?_,?_,?_,?_,?_,?_,?_⟩<;>simp[za,cK,g1,g4,g6,g7,g8]
 ·obtain rfl:i=m:=by omega
  obtain rfl:k=0:=by omega
  refine .inr ⟨by simp,?_⟩
  simp only[ql,zO,zG,zr,bJ,lu,aF,Fx]
  exact⟨trivial,[],rfl,rfl,hI⟩
end
section
variable{gl:Gl}{P:aQ}{t:aB}{x y:aX}
def RS(q:A2.Q4):Nat->Int
 | 0=>q.1
 | 1=>q.2.1
 | 2=>q.2.2.1
 | _=>q.2.2.2
def ED(q:A2.Q4):Prop:=∀i,0<=RS q i/\RS q i<18446744073709551616
def EE(q:A2.Q4)(b:Nat):Bool:=(RS q (b / 64)).toNat.testBit (b % 64)
theorem zhE{b:Nat}(h:b<256):qO P .quo t x y (some (.int .u8 b)) (some (.int .u8 64))=some (.int .u8 ((b / 64:Nat):Int)):=by
 have e:(b:Int).tdiv 64=((b / 64:Nat):Int):=by
  rw[Int.tdiv_eq_ediv_of_nonneg (by omega)];omega
 simp only[qO,jv,w9,j4,aF];rw[e,QA (by omega)]
 rfl
theorem zhF{b:Nat}(h:b<256):qO P .rem t x y (some (.int .u8 b)) (some (.int .u8 64))=some (.int .u8 ((b % 64:Nat):Int)):=by
 have e:(b:Int).tmod 64=((b % 64:Nat):Int):=by
  rw[Int.tmod_eq_emod_of_nonneg (by omega)];omega
 simp only[qO,jv,w9,j4,aF];rw[e];rfl
theorem zkH{a k:Nat}(_ha:a<2 ^ 64)(hk:k<64):qO P .shr t x y (some (.int .u64 a)) (some (.int .u8 k))=some (.int .u64 ((a / 2 ^ k:Nat):Int)):=by
 have h2:min ((k:Int).toNat) IntKind.u64.bits=k:=by
  have:IntKind.u64.bits=64:=rfl;rw[this,y_];omega
 have h3:(a:Int).fdiv (2 ^ k)=((a / 2 ^ k:Nat):Int):=by
  rw[Int.fdiv_eq_ediv_of_nonneg _ (Int.le_of_lt (Int.pow_pos (by decide)))]
  simp
 simp only[qO,jv,w9,Lg,aF,show ¬((k:Int)<0) by omega,bz,h2,h3]
theorem zmA{a k:Nat}:((a / 2 ^ k &&& 1:Nat):Int)=if a.testBit k then 1 else 0:=by
 have:a / 2 ^ k &&& 1=a / 2 ^ k % 2:=Nat.and_one_is_mod _;rw[this,Nat.testBit_eq_decide_div_mod_eq]
 by_cases h:a / 2 ^ k % 2=1
 ·simp[h]
 ·have:a / 2 ^ k % 2=0:=by omega
  simp[this]
theorem zmB{a:Nat}(ha:a<2 ^ 64):qO P .and t x y (some (.int .u64 a)) (some (.int .u64 1))=some (.int .u64 ((a &&& 1:Nat):Int)):=Uj (b:=1) ha (by decide)
theorem Z2:prog.underlying 50=some (.array 4 48):=by kernel_rfl
theorem RT:z8 prog 48=some 1:=by kernel_rfl
theorem RU:qC prog 48=some false:=by kernel_rfl
theorem zjF(hg:GS gl){n b:Nat}{q:A2.Q4}(hq:ED q)(hb:b<256){H:Hp}:zk prog gl (n+1) 110 [A2.qe q,.int .u8 (b:Nat)] H=some (.ret (.bool (EE q b)),H):=by
 obtain⟨bs,es⟩:=H;have iM:zX bs.length es 0 ⟨bs++[.cells (A2.qe q).laid 50],[]⟩=⟨bs,es⟩:=zW (dU _)
 suffices bK:(go ⟨prog,gl,zk prog gl n,eC⟩ n (Fx prog f110.results.toList λw H1=>w=.bool (EE q b)/\H1=⟨bs++[.cells (A2.qe q).laid 50],[]⟩) [.c (f110.body.getD .skip)] .normal ⟨[A2.qe q,.int .u8 (b:Nat)]++List.replicate 12 (.br []),⟨bs,[]⟩,[],[]⟩) by
  obtain⟨w,H1,h0,rfl,rfl⟩:=zJ (gl:=gl) (f:=110) (bs:=bs) (es:=es) (args:=[A2.qe q,.int .u8 (b:Nat)]) (n:=n) (hg.hk _ _ (by decide)) (λH=>hg.eV _ _ _ _ (by decide)) func110 rfl (by rw[hg.uq];exact bK)
  rw[h0];exact congrArg (λx=>some (Out.ret _,x)) iM
 obtain⟨a,ha1,ha2⟩:∃a:Nat,RS q (b / 64)=(a:Int)/\a<2 ^ 64:=⟨(RS q (b / 64)).toNat,by have:=hq (b / 64);omega,by have:=hq (b / 64);omega⟩
 have M9:EE q b=a.testBit (b % 64):=by unfold EE;rw[ha1];rfl
 have YU:(A2.qe q).laid=[.int .u64 q.1,.int .u64 q.2.1,.int .u64 q.2.2.1,.int .u64 q.2.2.2]:=rfl;have sD:zp prog 50 (.ptr bs.length 0) ((b / 64:Nat):Int)=some (.ptr bs.length (b / 64)):=by
  simp only[zp,Z2,RT];rw[if_pos (by omega),y_,JI,nI]
 have cQ:(⟨bs++[.cells (A2.qe q).laid 50],[]⟩:Hp).get bs.length=some (.cells (A2.qe q).laid 50):=by
  show nth _ _=_;rw[zg,eM (dB _)];simp
 have gp:zl prog ⟨bs++[.cells (A2.qe q).laid 50],[]⟩ gl.g 48 (.ptr bs.length (b / 64))=some (.int .u64 (a:Nat)):=zu RU cQ (by
  rw[<- ha1,YU];have:b / 64=0\/b / 64=1\/b / 64=2\/b / 64=3:=by omega
  rcases this with e|e|e|e<;>rw[e]<;>rfl)
 simp only[f110,ga,zh];refine zi ?_;have Z3:dD (A2.qe q)=true:=rfl;have uj:∀env t,qE env t (some (A2.qe q))=some (A2.qe q,env):=λ_ _=>rfl;simp only[BA,aj,aq,zc,zd,bS,bU,List.replicate,uj,qc Z3];refine zi ?_
 simp only[BA,ak,aj,aq,aE,zd,ze,bS,bU,zhE hb,zhF hb,sD,gp,zkH ha2 (show b % 64<64 by omega),zmB (show a / 2 ^ (b % 64)<2 ^ 64 from JE (Nat.div_le_self _ _) ha2),wQ]
 simp only[go_ret,zr,Fx]
 refine⟨trivial,[.bool (EE q b)],?_,rfl,trivial⟩;simp only[zy,zd,ze,M9,zmA];cases a.testBit (b % 64)<;>rfl
end
section
variable{gl:Gl}
theorem M_:prog.underlying 26=some (.slice 50):=by kernel_rfl
theorem s9:prog.underlying 201=some (.slice 205):=by kernel_rfl
theorem Gr:z8 prog 50=some 4:=by kernel_rfl
theorem s_:z8 prog 205=some 1:=by kernel_rfl
theorem eZ:qC prog 141=some false:=by kernel_rfl
theorem nj:qC prog 26=some false:=by kernel_rfl
theorem tc:qC prog 205=some false:=by kernel_rfl
theorem iA:qC prog 201=some false:=by kernel_rfl
theorem DM:qC prog 50=some true:=by kernel_rfl
theorem mz:zD prog 204 0=some 0:=by kernel_rfl
theorem DN:zD prog 204 1=some 4:=by kernel_rfl
theorem AF:zD prog 204 2=some 5:=by kernel_rfl
theorem DO:zD prog 204 3=some 261:=by kernel_rfl
theorem m5:zD prog 30 0=some 0:=by kernel_rfl
theorem AG:zD prog 30 2=some 2:=by kernel_rfl
theorem xK{H:Hp}{p:Bool×List A2.Q4}:qV prog H 26 (A2.qv p)=some ((p.2.length:Nat):Int):=by
 rcases Sx.cJ 4 p.1 (p.2.map A2.qe) with e|⟨e0,e⟩
 ·simp[A2.qv,e,qV]
 ·have:p.2=[]:=by simpa using e0
  rw[A2.qv,e,this];simp[qV]
theorem zmC{p:Bool×List A2.Q4}{k:Nat}{q:A2.Q4}(h:p.2[k]?=some q):zp prog 26 (A2.qv p) ((k:Nat):Int)=some (.vp (A2.qe q).cells):=by
 have hn:nth (p.2.map A2.qe) k=some (A2.qe q):=by rw[zg,gj,h];rfl
 have e:A2.qv p=.sl 4 (p.2.map A2.qe) .no:=by
  rcases Sx.cJ 4 p.1 (p.2.map A2.qe) with e|⟨e0,e⟩
  ·exact e
  ·have:p.2=[]:=by simpa using e0
   rw[this] at h;simp at h
 rw[e];simp only[zp,M_,Gr,y_,hn];simp
theorem zo5{H:Hp}{q:A2.Q4}:zl prog H gl.g 50 (.vp (A2.qe q).cells)=some (A2.qe q):=by
 simp[zl,DM,Gr,A2.qe,V.cells,kT]
def cH(m c:Nat):V:=.sr c 0 m m
theorem zpY{m k c w:Nat}{nx:aN}(h:nx[k]?=some (c,w)):zp prog 201 (aW (zm 1 205 (nx.map λp=>cH m p.1))) ((k:Nat):Int)=some (.vp [cH m c]):=by
 have hn:nth (nx.map λp=>cH m p.1) k=some (cH m c):=by rw[zg,gj,h];rfl
 cases hx:nx.map λp=>cH m p.1 with
 | nil=>rw[hx] at hn;simp[zg] at hn
 | cons a l =>
  rw[hx] at hn;simp only[zm,aW,zp,s9,s_,y_,hn];simp[cH,V.cells]
theorem zo6{H:Hp}{m c:Nat}:zl prog H gl.g 205 (.vp [cH m c])=some (cH m c):=by
 simp[zl,tc,kT,cH,zg]
structure LB(B:List aT)(bm a1 a2 a3 c m q b:Nat)(f:A2.F)(nx:aN):Prop where
 A:∃t,nth B a1=some (.cells [.ptr bm 0] t)
 Y:∃t,nth B a2=some (.cells [.int .u8 (b:Nat)] t)
 D:∃t,nth B a3=some (.cells [cH m c] t)
 Q:nth B c=some (.cells (dR m q) 5)
 M:∃mc t,nth B bm=some (.cells mc t)/\nth mc 0=some (A2.qv f.s)/\nth mc 4=some (zm 1 205 (nx.map λp=>cH m p.1))
 X:∀p∈nx,nth B p.1=some (.cells (dR m p.2) 5)/\p.2<2 ^ (8 * m)/\p.1≠c
def xa(f:A2.F)(nx:aN)(b k q:Nat):Nat :=
 match f.s.2[k]?,nx[k]? with
 | some s,some p=>if EE s b then q ||| p.2 else q
 | _,_=>q
theorem ziy(hg:GS gl){n bm a1 a2 a3 c m q b k:Nat}{f:A2.F}{nx:aN}(hs:∀q∈f.s.2,ED q)(hb:b<256)(_hk:k<2 ^ 40)(hm:m<2 ^ 40)(hn:m<n)(Kd:nx.length=f.s.2.length){B:List aT}{es:aN}(h:LB B bm a1 a2 a3 c m q b f nx) :
  zk prog gl (n+1+1) 150 [.int .i64 (k:Nat),.ptr a1 0,.ptr a2 0,.ptr a3 0] ⟨B,es⟩=some (.ret (.br []),⟨B.set c (.cells (dR m (xa f nx b k q)) 5),es⟩):=by
 suffices bK:(go ⟨prog,gl,zk prog gl (n+1),eC⟩ (n+1) (Fx prog f150.results.toList λw H1=>w=.br []/\H1=⟨B.set c (.cells (dR m (xa f nx b k q)) 5),[]⟩) [.c (f150.body.getD .skip)] .normal ⟨[.int .i64 (k:Nat),.ptr a1 0,.ptr a2 0,.ptr a3 0]++List.replicate 30 (.br []),⟨B,[]⟩,[],[]⟩) by
  obtain⟨w,H1,h0,rfl,rfl⟩:=zJ (gl:=gl) (f:=150) (bs:=B) (es:=es) (args:=[.int .i64 (k:Nat),.ptr a1 0,.ptr a2 0,.ptr a3 0]) (n:=n+1) (hg.hk _ _ (by decide)) (λH=>hg.eV _ _ _ _ (by decide)) func150 rfl (by rw[hg.uq];exact bK)
  rw[h0,show(V.br []).top=0 from rfl,U2]
 obtain⟨tA,hA⟩:=h.A;obtain⟨tY,hY⟩:=h.Y;obtain⟨tD,hD⟩:=h.D;obtain⟨mc,tM,hM,DP,Z4⟩:=h.M;have lA:zl prog ⟨B,[]⟩ gl.g 141 (.ptr a1 0)=some (.ptr bm 0):=zu eZ hA rfl;have lY:zl prog ⟨B,[]⟩ gl.g 5 (.ptr a2 0)=some (.int .u8 (b:Nat)):=zu s8 hY rfl;have lD:zl prog ⟨B,[]⟩ gl.g 205 (.ptr a3 0)=some (cH m c):=zu tc hD rfl
 have lS:zl prog ⟨B,[]⟩ gl.g 26 (.ptr bm 0)=some (A2.qv f.s):=zu nj hM DP;have lN:zl prog ⟨B,[]⟩ gl.g 201 (.ptr bm 4)=some (zm 1 205 (nx.map λp=>cH m p.1)):=zu iA hM Z4;simp only[f150,ga,zh];refine qY (tk:=[]) (by kernel_rfl) (by kernel_rfl) ?_
 by_cases RV:k<f.s.2.length
 ·obtain⟨s,Bm⟩:∃s,f.s.2[k]?=some s:=⟨_,fQ RV⟩;obtain⟨⟨cn,wn⟩,Hg⟩:∃p,nx[k]?=some p:=⟨_,fQ (by omega)⟩
  have hsq:ED s:=hs s (m8 Bm);have dz:Cx.bD ⟨prog,gl.g,zk prog gl (n+1),eC⟩ 110 [A2.qe s,.int .u8 (b:Nat)] ⟨B,[]⟩=some (.val (.bool (EE s b)),⟨B,[]⟩):=zq func110 rfl (zjF hg hsq hb);have hd:decide (((k:Nat):Int)<((f.s.2.length:Nat):Int))=true:=by simp;omega
  have U4:aW (A2.qe s)=A2.qe s:=rfl;simp only[BA,az,ak,aj,aq,aa,ah,aE,aA,av,zd,ze,bS,bU,j8,qj,jm,cA,wK,List.replicate,lA,lY,lS,eZ,nj,s8,DM,mz,m5,A2.eA,xK,qT,hd,zmC Bm,zo5,U4,dz]
  have hX:=h.X _ (m8 Hg);have hjc:Cx.bD ⟨prog,gl.g,zk prog gl (n+1),eC⟩ 151 [cH m c,cH m cn] ⟨B,[]⟩=some (.val (.br []),⟨B.set c (.cells (dR m (q ||| wn)) 5),[]⟩):=zq func151 rfl (zkG hg hm hX.2.1 hX.2.2 h.Q hX.1 hn)
  have nk:∀c,aW (cH m c)=cH m c:=λ_=>rfl;cases hh:EE s b with
  | true =>
   simp only[]
   refine .inl ⟨trivial,?_⟩;refine qY (tk:=[]) (by kernel_rfl) (by kernel_rfl) ?_
   simp only[BA,az,ak,aq,aa,ah,aE,aA,av,zd,ze,bS,bU,lA,lD,lN,eZ,tc,iA,DN,nk,zpY Hg,zo6,hjc];simp only[zr,Fx]
   first|refine⟨rfl,[],rfl,rfl,?_⟩|refine⟨trivial,[],rfl,rfl,?_⟩|refine⟨[],rfl,rfl,?_⟩
   simp[xa,Bm,Hg,hh]
  | false =>
   simp only[]
   refine .inr ⟨by first|rfl|trivial,?_⟩
   simp only[zr,Fx]
   first|refine⟨rfl,[],rfl,rfl,?_⟩|refine⟨trivial,[],rfl,rfl,?_⟩|refine⟨[],rfl,rfl,?_⟩
   simp[xa,Bm,Hg,hh,jY h.Q]
 ·have hd:decide (((k:Nat):Int)<((f.s.2.length:Nat):Int))=false:=by simp;omega
  simp only[BA,az,ak,aj,aq,aa,ah,aE,aA,av,zd,ze,bS,bU,j8,qj,jm,cB,wL,List.replicate,lA,lY,lS,eZ,nj,s8,DM,mz,m5,A2.eA,xK,qT,hd];refine .inr ⟨by first|rfl|trivial,?_⟩
  simp only[]
  first|refine⟨rfl,[],rfl,rfl,?_⟩|refine⟨trivial,[],rfl,rfl,?_⟩|refine⟨[],rfl,rfl,?_⟩
  simp[xa,uF (Nat.le_of_not_lt RV),jY h.Q]
def Cs(f:A2.F)(nx:aN)(b:Nat)(l:bL)(q:Nat):Nat:=l.foldl (λq k=>xa f nx b k q) q
end
section
variable{gl:Gl}
theorem U5{cx:Cx}{takes:cg}{dst:fJ}{type:aB}{pos:String}{after:Array Edge}{guard:oP}{env:aC}{H:Hp}{lk:aN}{df:bP}{fn:Fn}{first cap:r_} :
  cx.op takes ⟨dst,.makeFunc fn first cap,type,pos,after,guard⟩ env H lk df=iF env H lk df ((az env first.toList).bind λa=>(az env cap.toList).bind λc=>some (.fn fn a c)):=by
 simp only[Cx.op];exact vT rfl
theorem zmD{cx:Cx}{x:aX}{type:aB}{pos:String}{after:Array Edge}{guard:oP}{env:aC}{H:Hp}{lk:aN}{df:bP}:cx.op [] ⟨none,.move x,type,pos,after,guard⟩ env H lk df=iF env H lk df (ak env x):=by
 simp only[Cx.op];exact vT rfl
theorem Na:prog.underlying 28=some (.slice 27):=by kernel_rfl
theorem oK:qC prog 28=some false:=by kernel_rfl
theorem k_:qC prog 3=some false:=by kernel_rfl
theorem uA:z8 prog 3=some 1:=by kernel_rfl
theorem U6:qP prog 3=some (.int .i64 0):=by kernel_rfl
theorem RX:qP prog 205=some .aG:=by kernel_rfl
theorem RY{H:Hp}{p:A2.gZ}:qV prog H 28 (A2.rv p)=some ((p.2.length:Nat):Int):=by
 rcases Sx.cJ 1 p.1 (p.2.map A2.iv) with e|⟨e0,e⟩
 ·simp[A2.rv,e,qV]
 ·have:p.2=[]:=by simpa using e0
  rw[A2.rv,e,this];simp[qV]
def E1(ns:Nat)(k:Nat)(z:Int):Int:=if ns<=k/\z<0 then (k:Int) - ns else z
theorem ziz(hg:GS gl){n bm a1 a2 k:Nat}{z:Int}{f:A2.F}{tA tZ tM:aB}{mc:aC}(hk:k<2 ^ 40)(oS:f.s.2.length<2 ^ 40){B:List aT}{es:aN}(hA:nth B a1=some (.cells [.ptr bm 0] tA))(hZ:nth B a2=some (.cells [.int .i64 z] tZ))(hM:nth B bm=some (.cells mc tM))(DP:nth mc 0=some (A2.qv f.s))(_hz:-1<=z/\z<2 ^ 40) :
  zk prog gl (n+1) 149 [.int .i64 (k:Nat),.ptr a1 0,.ptr a2 0] ⟨B,es⟩=some (.ret (.br []),⟨B.set a2 (.cells [.int .i64 (E1 f.s.2.length k z)] tZ),es⟩):=by
 suffices bK:(go ⟨prog,gl,zk prog gl n,eC⟩ n (Fx prog f149.results.toList λw H1=>w=.br []/\H1=⟨B.set a2 (.cells [.int .i64 (E1 f.s.2.length k z)] tZ),[]⟩) [.c (f149.body.getD .skip)] .normal ⟨[.int .i64 (k:Nat),.ptr a1 0,.ptr a2 0]++List.replicate 21 (.br []),⟨B,[]⟩,[],[]⟩) by
  obtain⟨w,H1,h0,rfl,rfl⟩:=zJ (gl:=gl) (f:=149) (bs:=B) (es:=es) (args:=[.int .i64 (k:Nat),.ptr a1 0,.ptr a2 0]) (n:=n) (hg.hk _ _ (by decide)) (λH=>hg.eV _ _ _ _ (by decide)) func149 rfl (by rw[hg.uq];exact bK)
  rw[h0,show(V.br []).top=0 from rfl,U2]
 have lA:zl prog ⟨B,[]⟩ gl.g 141 (.ptr a1 0)=some (.ptr bm 0):=zu eZ hA rfl;have lZ:zl prog ⟨B,[]⟩ gl.g 3 (.ptr a2 0)=some (.int .i64 z):=zu k_ hZ rfl;have lS:zl prog ⟨B,[]⟩ gl.g 26 (.ptr bm 0)=some (A2.qv f.s):=zu nj hM DP;simp only[f149,ga,zh];refine zi ?_
 by_cases RV:f.s.2.length<=k
 ·have hd:decide (((f.s.2.length:Nat):Int)<=((k:Nat):Int))=true:=by simp;omega
  simp only[BA,ak,aj,aq,aa,ah,zd,ze,bS,bU,j5,qj,jm,cA,wK,List.replicate,lA,lZ,lS,mz,m5,A2.eA,xK,qT,T5,ge_iff_le,hd]
  by_cases KF:z<0
  ·refine .inl ⟨by simpa using KF,?_⟩
   refine zi ?_;have hw:IntKind.i64.wrap (((k:Nat):Int) - ((f.s.2.length:Nat):Int))=((k:Nat):Int) - ((f.s.2.length:Nat):Int):=kw (by omega) (by omega)
   have hgZ:(⟨B,[]⟩:Hp).get a2=some (.cells [.int .i64 z] tZ):=hZ;simp only[BA,ak,aq,aa,ah,zd,ze,bS,bU,lA,lS,mz,m5,A2.eA,xK,kj,hw];rw[zA uA hgZ rfl rfl (by simp) rfl,jT (by simp[V.top])]
   simp only[bx,aq,V.laid,Vm.storeCells,zr,Fx]
   first|refine⟨rfl,[],rfl,rfl,?_⟩|refine⟨trivial,[],rfl,rfl,?_⟩|refine⟨[],rfl,rfl,?_⟩
   simp only[E1,if_pos (And.intro RV KF)];rfl
  ·refine .inr ⟨by simpa using KF,?_⟩
   simp only[zr,Fx]
   first|refine⟨rfl,[],rfl,rfl,?_⟩|refine⟨trivial,[],rfl,rfl,?_⟩|refine⟨[],rfl,rfl,?_⟩
   rw[E1,if_neg (λe=>KF e.2),jY hZ]
 ·have hd:decide (((f.s.2.length:Nat):Int)<=((k:Nat):Int))=false:=by simp;omega
  simp only[BA,ak,aj,aq,aa,ah,zd,ze,bS,bU,j5,qj,jm,cB,wL,List.replicate,lA,lZ,lS,mz,m5,A2.eA,xK,qT,T5,ge_iff_le,hd];refine .inr ⟨by first|rfl|trivial,?_⟩
  simp only[]
  first|refine⟨rfl,[],rfl,rfl,?_⟩|refine⟨trivial,[],rfl,rfl,?_⟩|refine⟨[],rfl,rfl,?_⟩
  rw[E1,if_neg (λe=>RV e.1),jY hZ]
def wm(ns:Nat)(l:bL)(z:Int):Int:=l.foldl (λz k=>E1 ns k z) z
theorem zjG{ns k:Nat}{z:Int}(h:-1<=z/\z<2 ^ 40)(hk:k<2 ^ 40):-1<=E1 ns k z/\E1 ns k z<2 ^ 40:=by
 unfold E1;split<;>omega
theorem zjH{m w k:Nat}(h:k∈wl m w):k<8 * m:=by
 simpa using (List.mem_filter.1 h).1
theorem zkI(hg:GS gl){n bm b m w:Nat}{f:A2.F}{tM:aB}{mc:aC}(hm:m<2 ^ 36)(Oz:m<n)(hn:300<=n)(oS:f.s.2.length<2 ^ 40){bs:List aT}{es:aN}(hM:nth bs bm=some (.cells mc tM))(DP:nth mc 0=some (A2.qv f.s))(hb:nth bs b=some (.cells (dR m w) 5)) :
  zk prog gl (n+1+1+1) 112 [.ptr bm 0,cH m b] ⟨bs,es⟩=some (.ret (.int .i64 (wm f.s.2.length (wl m w) (-1))),⟨bs,es⟩):=by
 have l6:b<bs.length:=by rw[zg] at hb;exact(cP.1 hb).1
 have Ci:bm<bs.length:=by rw[zg] at hM;exact(cP.1 hM).1
 let Hz:Int->List aT:=λz=>bs++[.cells [.ptr bm 0] 141,.cells [.int .i64 z] 3]
 have g1:∀z,nth (Hz z) bs.length=some (.cells [.ptr bm 0] 141):=λz=>by
  show nth _ _=_;rw[zg,eM (dB _)];simp
 have g2:∀z,nth (Hz z) (bs.length+1)=some (.cells [.int .i64 z] 3):=λz=>by
  show nth _ _=_;rw[zg,eM (by omega)];simp
 have gO:∀z d,d<bs.length->nth (Hz z) d=nth bs d:=λz d hd=>by
  show nth _ _=_;rw[zg,zg,fI hd]
 have sg:∀z y,(Hz z).set (bs.length+1) (.cells [.int .i64 y] 3)=Hz y:=λz y=>by
  show(bs++_).set _ _=_;rw[tW _ _ (by omega)];simp[Hz]
 let I:bL->Hp->Prop:=λl H=>(∀k∈l,k<8 * m)/\∃z iL,-1<=z/\z<2 ^ 40/\H=⟨Hz z,iL⟩/\iL=[]/\wm f.s.2.length l z=wm f.s.2.length (wl m w) (-1)
 have Gs:=zhD hg (F:=149) (caps:=[.ptr bs.length 0,.ptr (bs.length+1) 0]) (m:=m) (w:=w) (b:=b) (n:=n+1) rfl (by omega) (by omega) (by omega) I (λl H hI=>by
   obtain⟨_,z,iL,_,_,rfl,_,_⟩:=hI;exact(gO z b l6).trans hb) (λk l H hk hI=>by
   obtain⟨hl,z,iL,z1,z2,rfl,rfl,hz⟩:=hI;have od:k<2 ^ 40:=by omega
   refine⟨⟨Hz (E1 f.s.2.length k z),[]⟩,zq func149 rfl ?_,λj hj=>hl j (d_ _ hj),_,[],(zjG ⟨z1,z2⟩ od).1,(zjG ⟨z1,z2⟩ od).2,rfl,rfl,?_⟩
   ·have:=ziz hg (n:=n) (es:=[]) od oS (g1 z) (g2 z) ((gO z bm Ci).trans hM) DP ⟨z1,z2⟩;rw[sg] at this;exact this
   ·rw[<- hz];rfl) (bs:=Hz (-1)) (es:=[]) ⟨λk hk=>zjH hk,-1,[],by omega,by omega,rfl,rfl,rfl⟩
 obtain⟨H',dz,_,zf,iL,zf1,zf2,rfl,rfl,Z5⟩:=Gs;have Gt:zX (Hz (-1)).length [] 0 ⟨Hz zf,[]⟩=⟨Hz zf,[]⟩:=by
  have:=zW (bs:=Hz zf) (ls:=[]) (es:=[]) (t:=0) (dU _);rw[mT] at this;rw[show(Hz (-1)).length=(Hz zf).length by simp[Hz]]
  exact this
 rw[Gt] at dz;have Z6:Cx.bD ⟨prog,gl.g,zk prog gl (n+1+1),eC⟩ 148 [cH m b,.fn (.func 149) [] [.ptr bs.length 0,.ptr (bs.length+1) 0]] ⟨Hz (-1),[]⟩=some (.val (.br []),⟨Hz zf,[]⟩):=zq func148 rfl dz;have Nb:zf=wm f.s.2.length (wl m w) (-1):=Z5
 suffices bK:(go ⟨prog,gl,zk prog gl (n+1+1),eC⟩ (n+1+1) (Fx prog f112.results.toList λw H1=>w=.int .i64 zf/\H1=⟨Hz zf,[]⟩) [.c (f112.body.getD .skip)] .normal ⟨[.ptr bm 0,cH m b]++List.replicate 8 (.br []),⟨bs,[]⟩,[],[]⟩) by
  obtain⟨w,H1,h0,rfl,rfl⟩:=zJ (gl:=gl) (f:=112) (bs:=bs) (es:=es) (args:=[.ptr bm 0,cH m b]) (n:=n+1+1) (hg.hk _ _ (by decide)) (λH=>hg.eV _ _ _ _ (by decide)) func112 rfl (by rw[hg.uq];exact bK)
  rw[h0,<- Nb];have:=zW (bs:=bs) (ls:=[.cells [.ptr bm 0] 141,.cells [.int .i64 zf] 3]) (es:=es) (t:=0) (dU _);exact congrArg (λx=>some (Out.ret _,x)) this
 simp only[f112,ga,zh];refine zi ?_;simp only[BA,aj,aq,zc,Nat.reduceAdd,zd,bS,bU,List.replicate,qc (v:=.ptr bm 0) rfl];refine zi ?_;have hgN:(⟨bs++[.cells [.ptr bm 0] 141,.cells [.int .i64 0] 3],[]⟩:Hp).get (bs.length+1)=some (.cells [.int .i64 0] 3):=g2 0
 have hV:V.laid (.ptr bm 0)=[.ptr bm 0]:=rfl;simp only[BA,ak,aj,aq,zc,zd,ze,bS,bU,hV,U6,zL (show dD (V.int .i64 0)=true from rfl),V.cells];rw[zA uA hgN rfl rfl (by simp) rfl,jT (by simp[V.top])]
 have RE:(⟨bs++[.cells [.ptr bm 0] 141,.cells [.int .i64 0] 3],[]⟩:Hp).set (bs.length+1) (.cells (Vm.storeCells [.int .i64 0] 0 (V.laid (.int .i64 (-1)))) 3)=⟨Hz (-1),[]⟩:=congrArg (λx=>Hp.mk x []) (sg 0 (-1));rw[RE];simp only[bx,aq]
 refine zi ?_;have nk:∀c,aW (cH m c)=cH m c:=λ_=>rfl;have Az:∀a c,aW (V.fn (.func 149) a c)=.fn (.func 149) a c:=λ_ _=>rfl;simp only[BA,az,ak,aq,aA,zd,ze,bS,bU,U5,nk,Az,Z6];refine zi ?_
 have lZ:zl prog ⟨Hz zf,[]⟩ gl.g 3 (.ptr (bs.length+1) 0)=some (.int .i64 zf):=zu k_ (g2 zf) rfl;simp only[BA,ak,aq,zd,ze,bS,bU,lZ,go_ret]
 first|refine⟨rfl,[.int .i64 zf],?_,rfl,rfl⟩|refine⟨trivial,[.int .i64 zf],?_,rfl,trivial⟩|refine⟨trivial,[.int .i64 zf],?_,rfl,rfl⟩|refine⟨rfl,[.int .i64 zf],?_,rfl,trivial⟩
 simp only[zy,zd,ze]
theorem zkJ(hg:GS gl){n bm b m w y:Nat}{f:A2.F}{nx:aN}{tM:aB}{mc:aC}(hm:m<2 ^ 36)(Oz:m<n)(hn:300<=n)(hy:y<256)(hs:∀q∈f.s.2,ED q)(oS:f.s.2.length<2 ^ 36)(hnf:f.f.2.length<2 ^ 36)(Io:m=(f.s.2.length+f.f.2.length) / 8+1)(Kd:nx.length=f.s.2.length){bs:List aT}{es:aN}
  (hM:nth bs bm=some (.cells mc tM)) (DP:nth mc 0=some (A2.qv f.s)) (U7:nth mc 2=some (A2.rv f.f)) (Z4:nth mc 4=some (zm 1 205 (nx.map λp=>cH m p.1))) (hX:∀p∈nx,nth bs p.1=some (.cells (dR m p.2) 5)/\p.2<2 ^ (8 * m)) (hb:nth bs b=some (.cells (dR m w) 5)) :
  zk prog gl (n+1+1+1+1) 114 [.ptr bm 0,cH m b,.int .u8 (y:Nat)] ⟨bs,es⟩=some (.ret (cH m (bs.length+2)),⟨bs++[.cells [.ptr bm 0] 141,.cells [.int .u8 (y:Nat)] 5,.cells (dR m (Cs f nx y (wl m w) 0)) 5,.cells [cH m (bs.length+2)] 205],es⟩):=by
 have l6:b<bs.length:=by rw[zg] at hb;exact(cP.1 hb).1
 have Ci:bm<bs.length:=by rw[zg] at hM;exact(cP.1 hM).1
 let Hz:Nat->List aT:=λq=>bs++[.cells [.ptr bm 0] 141,.cells [.int .u8 (y:Nat)] 5,.cells (dR m q) 5,.cells [cH m (bs.length+2)] 205]
 have gA:∀z,nth (Hz z) bs.length=some (.cells [.ptr bm 0] 141):=λz=>by
  show nth _ _=_;rw[zg,eM (dB _)];simp
 have gY:∀z,nth (Hz z) (bs.length+1)=some (.cells [.int .u8 (y:Nat)] 5):=λz=>by
  show nth _ _=_;rw[zg,eM (by omega)];simp
 have gQ:∀z,nth (Hz z) (bs.length+2)=some (.cells (dR m z) 5):=λz=>by
  show nth _ _=_;rw[zg,eM (by omega)];simp
 have gD:∀z,nth (Hz z) (bs.length+3)=some (.cells [cH m (bs.length+2)] 205):=λz=>by
  show nth _ _=_;rw[zg,eM (by omega)];simp
 have gO:∀z d,d<bs.length->nth (Hz z) d=nth bs d:=λz d hd=>by
  show nth _ _=_;rw[zg,zg,fI hd]
 have sg:∀z q,(Hz z).set (bs.length+2) (.cells (dR m q) 5)=Hz q:=λz q=>by
  show(bs++_).set _ _=_;rw[tW _ _ (by omega)];simp[Hz]
 have Z7:∀q,LB (Hz q) bm bs.length (bs.length+1) (bs.length+3) (bs.length+2) m q y f nx:=λq =>
  ⟨⟨_,gA q⟩,⟨_,gY q⟩,⟨_,gD q⟩,gQ q,⟨mc,tM,(gO q bm Ci).trans hM,DP,Z4⟩,λp hp=>by
   obtain⟨h1,h2⟩:=hX p hp;have bR:p.1<bs.length:=by rw[zg] at h1;exact(cP.1 h1).1
   exact⟨(gO q _ bR).trans h1,h2,by omega⟩⟩
 let I:bL->Hp->Prop:=λl H=>(∀k∈l,k<8 * m)/\∃q,H=⟨Hz q,[]⟩/\Cs f nx y l q=Cs f nx y (wl m w) 0
 have Gs:=zhD hg (F:=150) (caps:=[.ptr bs.length 0,.ptr (bs.length+1) 0,.ptr (bs.length+3) 0]) (m:=m) (w:=w) (b:=b) (n:=n+1+1) rfl (by omega) (by omega) (by omega) I (λl H hI=>by
   obtain⟨_,q,rfl,_⟩:=hI;exact(gO q b l6).trans hb) (λk l H hk hI=>by
   obtain⟨hl,q,rfl,hz⟩:=hI;refine⟨⟨Hz (xa f nx y k q),[]⟩,zq func150 rfl ?_,λj hj=>hl j (d_ _ hj),_,rfl,?_⟩
   ·have:=ziy hg (n:=n) (es:=[]) (k:=k) hs hy (by omega) (by omega) Oz Kd (Z7 q)
    rw[sg] at this;exact this
   ·rw[<- hz];rfl) (bs:=Hz 0) (es:=[]) ⟨λk hk=>zjH hk,0,rfl,rfl⟩
 obtain⟨H',dz,_,qf,rfl,Z5⟩:=Gs;have Gt:zX (Hz 0).length [] 0 ⟨Hz qf,[]⟩=⟨Hz qf,[]⟩:=by
  have:=zW (bs:=Hz qf) (ls:=[]) (es:=[]) (t:=0) (dU _);rw[mT] at this;rw[show(Hz 0).length=(Hz qf).length by simp[Hz]]
  exact this
 rw[Gt] at dz;have Z6:Cx.bD ⟨prog,gl.g,zk prog gl (n+1+1+1),eC⟩ 148 [cH m b,.fn (.func 150) [] [.ptr bs.length 0,.ptr (bs.length+1) 0,.ptr (bs.length+3) 0]] ⟨Hz 0,[]⟩=some (.val (.br []),⟨Hz qf,[]⟩):=zq func148 rfl dz;have Nb:qf=Cs f nx y (wl m w) 0:=Z5
 suffices bK:(go ⟨prog,gl,zk prog gl (n+1+1+1),eC⟩ (n+1+1+1) (Fx prog f114.results.toList λw H1=>w=cH m (bs.length+2)/\H1=⟨Hz qf,[]⟩) [.c (f114.body.getD .skip)] .normal ⟨[.ptr bm 0,cH m b,.int .u8 (y:Nat)]++List.replicate 23 (.br []),⟨bs,[]⟩,[],[]⟩) by
  obtain⟨w,H1,h0,rfl,rfl⟩:=zJ (gl:=gl) (f:=114) (bs:=bs) (es:=es) (args:=[.ptr bm 0,cH m b,.int .u8 (y:Nat)]) (n:=n+1+1+1) (hg.hk _ _ (by decide)) (λH=>hg.eV _ _ _ _ (by decide)) func114 rfl (by rw[hg.uq];exact bK)
  rw[h0,<- Nb,vZ (by simp only[V.top,cH];omega)]
  rfl
 simp only[f114,ga,zh];refine zi ?_;simp only[BA,aj,aq,zc,Nat.reduceAdd,zd,ze,bS,bU,List.replicate,qc (v:=.ptr bm 0) rfl,qc (v:=.int .u8 (y:Nat)) rfl];refine znS (tk:=[]) rfl rfl (by kernel_rfl) (by kernel_rfl) (by simp) (by kernel_rfl) ?_
 simp only[List.reverse_cons,List.reverse_nil,bg,bh,Di];have hV:V.laid (.ptr bm 0)=[.ptr bm 0]:=rfl;have hV':V.laid (.int .u8 (y:Nat))=[.int .u8 (y:Nat)]:=rfl;simp only[hV,hV'];obtain⟨pJ,Ji⟩:∃x:List aT,x=bs++[.cells [.ptr bm 0] 141,.cells [.int .u8 (y:Nat)] 5]:=⟨_,rfl⟩;rw[<- Ji];have g2:∀d,d<bs.length->nth pJ d=nth bs d:=λd hd=>by
  rw[Ji,zg,zg,fI hd]
 have hgA:(⟨pJ,[]⟩:Hp).get bs.length=some (.cells [.ptr bm 0] 141):=by
  show nth _ _=_;rw[Ji,zg,eM (dB _)];simp
 have hgM:(⟨pJ,[]⟩:Hp).get bm=some (.cells mc tM):=(g2 bm Ci).trans hM;have lA:zl prog ⟨pJ,[]⟩ gl.g 141 (.ptr bs.length 0)=some (.ptr bm 0):=zu eZ hgA rfl;have lS:zl prog ⟨pJ,[]⟩ gl.g 26 (.ptr bm 0)=some (A2.qv f.s):=zu nj hgM DP;have lF:zl prog ⟨pJ,[]⟩ gl.g 28 (.ptr bm 2)=some (A2.rv f.f):=zu oK hgM U7
 have Ac:Cx.bD ⟨prog,gl.g,zk prog gl (n+3),eC⟩ 108 [.int .i64 ((f.s.2.length+f.f.2.length:Nat):Int)] ⟨pJ,[]⟩=some (.val (cH m (bs.length+2)),⟨bs++[.cells [.ptr bm 0] 141,.cells [.int .u8 (y:Nat)] 5,.cells (dR m 0) 5],[]⟩):=by
  refine zq func108 rfl ?_;have:=xr hg (n:=n+2) (k:=f.s.2.length+f.f.2.length) (by omega) (bs:=pJ) (es:=[])
  rw[<- Io] at this;rw[this];simp[Ji,cH]
 simp only[BA,az,ak,aj,aq,aa,ah,aA,av,zd,ze,bS,bU,zmD,lA,lS,lF,eZ,nj,oK,mz,m5,AG,A2.eA,A2.bM,xK,RY,xq (show f.s.2.length+f.f.2.length<2 ^ 60 by omega),Ac]
 simp only[zr,zoX];refine⟨trivial,cH m (bs.length+2),_,1,.aG,rfl,s_,RX,rfl,rfl,rfl,rfl,?_⟩;have F8:(bs++[aT.cells [.ptr bm 0] 141,.cells [.int .u8 (y:Nat)] 5,.cells (dR m 0) 5]).length=bs.length+3:=by simp
 have hHz:(⟨bs++([aT.cells [.ptr bm 0] 141,.cells [.int .u8 (y:Nat)] 5,.cells (dR m 0) 5]++[.cells (V.laid (cH m (bs.length+2))) 205]),[]⟩:Hp)=⟨Hz 0,[]⟩:=rfl;simp only[bS,bU,zb,F8];rw[hHz];refine zi ?_;have nk:∀c,aW (cH m c)=cH m c:=λ_=>rfl;have fe:∀c env t,qE env t (some (cH m c))=some (cH m c,env):=λ_ _ _=>rfl
 have Az:∀a c,aW (V.fn (.func 150) a c)=.fn (.func 150) a c:=λ_ _=>rfl;simp only[BA,az,ak,aq,aA,zd,ze,bS,bU,U5,nk,Az,Z6];refine zi ?_
 have lD:zl prog ⟨Hz qf,[]⟩ gl.g 205 (.ptr (bs.length+3) 0)=some (cH m (bs.length+2)):=zu tc (gD qf) rfl;simp only[BA,ak,aq,zd,ze,bS,bU,lD,nk,fe,go_ret]
 first|refine⟨rfl,[cH m (bs.length+2)],?_,rfl,rfl⟩|refine⟨trivial,[cH m (bs.length+2)],?_,rfl,trivial⟩|refine⟨trivial,[cH m (bs.length+2)],?_,rfl,rfl⟩|refine⟨rfl,[cH m (bs.length+2)],?_,rfl,trivial⟩
 simp only[zy,zd,ze]
end
end Go.Proofs.YthohlnmcjkjeiaaGreatDoor
namespace Go.Proofs.YthohlnmcjkjeiaaGreatDoor.A2
open Go Go.Vm Go.Vm.Sx
open Go.Proofs.Tryz
set_option maxRecDepth 100000
section
set_option linter.unusedSectionVars false
variable{gl:Gl}
end
section
set_option linter.unusedSectionVars false
variable{gl:Gl}
def pF(n:Nat)(rules:List Int)(rule:Int)(l:List Int)(i:Nat):Bool :=
 bif (i == 0 || !nA (gi l i) (gi l (i - 1))) && !c_ (gi l i) 0 then (bif gi l i == (n:Int)+rule then true else bif nA (n:Int) (gi l i) then false else gi rules (gi l i).toNat == rule) else false
end
section
set_option linter.unusedSectionVars false
variable{gl:Gl}
theorem zkK{l:List Int}(h:nX l=true){j:Nat}(hj:j+1<l.length):gi l j<=gi l (j+1):=by
 have:=cI.1 h (l.length - 1 - (j+1)) (by omega)
 simp only[EK] at this;have e1:l.length - 1 - (l.length - 1 - (j+1))=j+1:=by omega
 rw[e1] at this;have e2:j+1 - 1=j:=by omega
 rw[e2] at this;simpa[c_] using this
theorem pW{l : List Int}(h : nX l = true) : ∀{j i : Nat}, i <= j -> j < l.length -> gi l i <= gi l j
  | 0, i, hi, _ => by have : i = 0 := by omega
                      subst this; exact Int.le_refl _
  | j + 1, i, hi, hj => by
    rcases eI i (j + 1) with h1 | h1
    · exact Int.le_trans (pW h (by omega) (by omega)) (zkK h hj)
    · have : i = j + 1 := by omega
      subst this; exact Int.le_refl _
def nZ(n:Nat)(r:List Int)(fs ns:List (List Int)):Bool :=
 bif wM (λi=>wM (pF n r (i:Int) (gr fs i)) (gr fs i).length) fs.length then wM (λi=>wM (pF n r (gi r i) (gr ns i)) (gr ns i).length) n else false
def EG(n:Nat)(r:List Int)(fs ns:List (List Int)):Bool :=
 bif (((c_ 1000 (n:Int) || c_ 200 (fs.length:Int)) || !((r.length:Int) == (n:Int))) || !((ns.length:Int) == (n:Int))) then false else
 bif nX r then bif c_ 0 (n:Int) then bif !c_ (gi r 0) 0 then bif nA (fs.length:Int) (gi r (n - 1)) then false else nZ n r fs ns else false else nZ n r fs ns else false
end
section
set_option maxHeartbeats 1000000
variable{gl:Gl}{fj:bL}
theorem zqR(hg:GK gl fj)(h:fj.any (Nat.beq 147)=false)(x:Int):rY 2 prog gl 147 [.int .i64 x] (.bool false):=by
 refine yM hg func147 rfl h rfl 1 λn hn bs=>?_;simp only[f147,zh];refine rg ?_;simp only[BW,List.replicate];refine rg ?_;simp only[BW,bne,beq_self_eq_true];exact fY rfl ⟨rfl,[],by simp⟩
theorem zqS(hg:GK gl fj)(h:fj.any (Nat.beq 147)=false)(h1:fj.any (Nat.beq 107)=false)(x y:Int):rY 3 prog gl 107 [.int .i64 x,.int .i64 y] (.bool (c_ x y)):=by
 refine yM hg func107 rfl h1 rfl 2 λn hn bs=>?_;have c:∀H,Cx.bD ⟨prog,gl.g,zk prog gl n,nU⟩ 147 [.int .i64 x] H=some (.val (.bool false),H):=wh func147 rfl (zqR hg h x n hn);simp only[f107,zh];refine rg ?_;simp only[BW,Nat.reduceAdd,List.replicate];refine rg ?_;simp only[BW,c]
 exact fY rfl ⟨rfl,[],by simp⟩
theorem zrf(hg:GK gl fj)(h:fj.any (Nat.beq 147)=false)(h1:fj.any (Nat.beq 107)=false)(h2:fj.any (Nat.beq 69)=false)(p:cO)(hp:p.2.length * 8<=reachBytes):rY (p.2.length+6) prog gl 69 [iv p] (.bool (nX p.2)):=by
 have hr:=fm;refine yM hg func69 rfl h2 rfl (p.2.length+5) λn hn bs=>?_;simp only[f69,zh];refine rg ?_;simp only[BW,List.replicate];refine rg ?_;have Er:IntKind.i64.wrap ((p.2.length:Int) - 1)=(p.2.length:Int) - 1 - ((0:Nat):Int):=by rw[J_ (by omega) (by omega)];simp
 simp only[BW,wy,bH,kj,Er];refine qd (λm st=>∃k env,m+k=p.2.length/\st=⟨env,⟨bs,[]⟩,[],[]⟩/\Ks 21 [(0,iv p),(3,.int .i64 ((p.2.length:Int) - 1 - (k:Nat)))] env/\∀j,j<k->(!c_ (gi p.2 (p.2.length - 1 - j)) (gi p.2 (p.2.length - 1 - j - 1)))=true) p.2.length (by omega) ⟨0,_,rfl,rfl,fZ rfl,λj h=>by omega⟩ ?_
 rintro m st ⟨k,env,Bn,rfl,⟨j,rfl⟩,dH⟩;simp only[sh,pV,Nat.reduceBEq,Nat.reduceAdd,mh,nD];simp only[zh];refine rg ?_
 by_cases hk:(0:Int)<(p.2.length:Int) - 1 - (k:Int)
 ·simp only[BW,gt_iff_lt,hk];refine qY (tk:=[]) (by kernel_rfl) (by kernel_rfl) ?_
  have e0:(p.2.length:Int) - 1 - (k:Int)=((p.2.length - 1 - k:Nat):Int):=by omega
  have Bm:IntKind.i64.wrap ((p.2.length:Int) - 1 - (k:Int) - 1)=((p.2.length - 1 - k - 1:Nat):Int):=by rw[J_ (by omega) (by omega)];omega
  have g1:=vw (p:=p) (i:=p.2.length - 1 - k) (by omega)
  have g2:=vw (p:=p) (i:=p.2.length - 1 - k - 1) (by omega)
  rw[<- e0] at g1;have c:∀H,Cx.bD ⟨prog,gl.g,zk prog gl n,nU⟩ 107 [.int .i64 (gi p.2 (p.2.length - 1 - k)),.int .i64 (gi p.2 (p.2.length - 1 - k - 1))] H=some (.val (.bool (c_ (gi p.2 (p.2.length - 1 - k)) (gi p.2 (p.2.length - 1 - k - 1)))),H):=wh func107 rfl (zqS hg h h1 _ _ n (by omega))
  cases hc:c_ (gi p.2 (p.2.length - 1 - k)) (gi p.2 (p.2.length - 1 - k - 1)) with
  | true =>
   rw[hc] at c;simp only[BW,bH,g1,g2,fo,xJ,kj,Bm,c];refine rg ?_;simp only[BW];have hb:nX p.2=false:=by
    unfold nX;rw[<- JG,cI];intro hx;have:=hx k (by omega)
    rw[hc] at this;cases this
   exact fY rfl ⟨by rw[hb],[],by simp⟩
  | false =>
   rw[hc] at c;simp only[BW,bH,g1,g2,fo,xJ,kj,Bm,c];refine rg ?_;have Pr:IntKind.i64.wrap ((p.2.length:Int) - 1 - (k:Int) - 1)=(p.2.length:Int) - 1 - ((k+1:Nat):Int):=by rw[J_ (by omega) (by omega)];omega
   simp only[BW,kj,Pr]
   exact⟨m - 1,by omega,k+1,_,by omega,rfl,fZ rfl,λj hj=>by
    rcases eI j k with h|h
    ·exact dH j h
    ·obtain rfl:j=k:=by omega
     rw[hc];rfl⟩
 ·simp only[BW,gt_iff_lt,hk];refine rg ?_;simp only[BW]
  exact fY rfl ⟨by
   have hb:nX p.2=true:=cI.2 λj hj=>dH j (by omega)
   rw[hb],[],by simp⟩
theorem zrg(hg:GK gl fj)(h70:fj.any (Nat.beq 70)=false)(n0:Nat)(f:F)(Bj:f.r.2.length=n0)(p:cO)(hp:WI p)(rule:Int)(hw:IntKind.i64.wrap ((n0:Int)+rule)=(n0:Int)+rule){n:Nat}(hn:p.2.length+2<=n){bs:List aT}{es:aN}{b1 b2:Nat}(e1:nth bs b1=some (.cells [.int .i64 (n0:Nat)] 3))(e2:nth bs b2=some (.cells (fc f) 30)) :
  zk prog gl n 70 [iv p,.int .i64 rule,.ptr b1 0,.ptr b2 0] ⟨bs,es⟩=some (.ret (.bool (wM (pF n0 f.r.2 rule p.2) p.2.length)),⟨bs,es⟩):=by
 have hr:=fm;have Ie:=hp.1;obtain⟨n,rfl⟩:∃k,n=k+1:=⟨n - 1,by omega⟩
 refine zqH hg func70 rfl h70 rfl ?_;have l1:zl prog ⟨bs,[]⟩ gl.g 3 (.ptr b1 0)=some (.int .i64 (n0:Nat)):=zu fo e1 rfl;have l2:zl prog ⟨bs,[]⟩ gl.g 27 (.ptr b2 1)=some (iv f.r):=zu iV e2 rfl;simp only[f70,zh];refine rg ?_;simp only[BW,Nat.reduceAdd,List.replicate];refine rg ?_
 simp only[BW,wy,bH];refine qd (λm st=>∃i env,m+i=p.2.length/\st=⟨env,⟨bs,[]⟩,[],[]⟩/\Ks 53 [(0,iv p),(1,.int .i64 rule),(2,.ptr b1 0),(3,.ptr b2 0),(9,iv p),(10,.int .i64 (p.2.length:Nat)),(11,.int .i64 (i:Nat))] env/\∀j,j<i->pF n0 f.r.2 rule p.2 j=true) p.2.length (by omega) ⟨0,_,rfl,rfl,fZ rfl,λj h=>by omega⟩ ?_
 rintro m st ⟨i,env,tU,rfl,⟨j,rfl⟩,dH⟩;simp only[sh,pV,Nat.reduceBEq,Nat.reduceAdd,mh,nD];simp only[zh];refine rg ?_;simp only[BW,qh]
 by_cases hi:i<p.2.length
 ·refine .inl ⟨by simp;omega,?_⟩
  have g1:=vw hi;have g2:=vw (p:=p) (i:=i - 1) (by omega)
  refine rg ?_;simp only[BW,bH,g1,xJ];obtain⟨B,hB⟩:∃B,B=pF n0 f.r.2 rule p.2 i:=⟨_,rfl⟩;refine Rk 53 [(0,iv p),(1,.int .i64 rule),(2,.ptr b1 0),(3,.ptr b2 0),(9,iv p),(10,.int .i64 (p.2.length:Nat)),(11,.int .i64 (i:Nat)),(51,.bool (!B))] ?_ λenv ⟨j,e⟩=>?_
  ·refine rg ?_;unfold pF at hB;generalize gi p.2 i=x at g1 hB ⊢
   by_cases iP:0<i/\x<=gi p.2 (i - 1)
   ·obtain⟨c3,c4⟩:=iP;obtain rfl:B=false:=by rw[hB];simp[nA,c4,show i≠0 by omega]
    have l8:IntKind.i64.wrap ((i:Int) - 1)=((i - 1:Nat):Int):=by rw[J_ (by omega) (by omega)];omega
    simp only[BW,gt_iff_lt,show(0:Int)<(i:Int) by omega,kj,l8,bH,g2,xJ,ge_iff_le,c4]
    exact⟨_,rfl,fZ rfl⟩
   have gH:(i == 0 || !nA x (gi p.2 (i - 1)))=true:=by
    rcases JD i with rfl|c3
    ·rfl
    ·have:¬x<=gi p.2 (i - 1):=λh=>iP ⟨c3,h⟩;simp[nA,this]
   rw[gH,tE] at hB;have l8:0<(i:Int)->IntKind.i64.wrap ((i:Int) - 1)=((i - 1:Nat):Int):=λ_=>by rw[J_ (by omega) (by omega)];omega
   rcases (show(¬(0:Int)<(i:Int)/\¬(i:Int)<0)\/((0:Int)<(i:Int)/\¬x<=gi p.2 (i - 1)) by
    rcases JD i with rfl|c3
    ·exact .inl ⟨by omega,by omega⟩
    ·exact .inr ⟨by omega,λh=>iP ⟨c3,h⟩⟩) with⟨c4,c5⟩|⟨c4,c5⟩
   all_goals
    by_cases a1:x<0
    ·obtain rfl:B=false:=by rw[hB];simp[c_,a1]
     simp only[BW,gt_iff_lt,c4,c5,kj,l8,bH,g2,xJ,a1];exact⟨_,rfl,fZ rfl⟩
    cases a2:x == (n0:Int)+rule with
    | true =>
     obtain rfl:B=true:=by rw[hB,a2];simp[c_,a1]
     simp only[BW,gt_iff_lt,c4,c5,kj,l8,bH,g2,xJ,a1,l1,jO,hw,bne,a2];exact⟨_,rfl,fZ rfl⟩
    | false =>
    by_cases a3:(n0:Int)<=x
    ·obtain rfl:B=false:=by rw[hB,a2];simp[c_,nA,a1,a3]
     simp only[BW,gt_iff_lt,c4,c5,kj,l8,bH,g2,xJ,ge_iff_le,a1,l1,jO,hw,bne,a2,a3];exact⟨_,rfl,fZ rfl⟩
    obtain⟨y,rfl⟩:∃y:Nat,x=y:=⟨x.toNat,by omega⟩
    have g3:=vw (p:=f.r) (i:=y) (by omega)
    obtain rfl:B=(gi f.r.2 y == rule):=by rw[hB,a2];simp[c_,nA,a1,a3]
    simp only[BW,gt_iff_lt,c4,c5,kj,l8,bH,g2,xJ,ge_iff_le,a1,l1,jO,hw,bne,a2,a3,iU,l2,g3];exact⟨_,rfl,fZ rfl⟩
  subst e;simp only[sh,pV,Nat.reduceBEq,Nat.reduceAdd,mh,nD];cases B with
  | false =>
   simp only[BW];refine rg ?_;simp only[BW];have hb:wM (pF n0 f.r.2 rule p.2) p.2.length=false:=by
    rw[<- JG,cI];exact λh=>by rw[h i hi] at hB;cases hB
   exact fY rfl ⟨by rw[hb],[],by simp⟩
  | true =>
   simp only[BW];refine rg ?_;simp only[BW,zQ (show i<2 ^ 60 by omega)]
   exact⟨m - 1,by omega,i+1,_,by omega,rfl,fZ rfl,λj hj=>by
    rcases eI j i with h|h
    ·exact dH j h
    ·obtain rfl:j=i:=by omega
     exact hB.symm⟩
 ·obtain rfl:i=p.2.length:=by omega
  refine .inr ⟨by simp,?_⟩
  refine rg ?_;simp only[BW];exact fY (v:=.bool true) rfl ⟨by rw[cI.2 dH],[],by simp⟩
end
section
set_option maxHeartbeats 2000000
variable{gl:Gl}{fj:bL}
theorem RZ:prog.underlying 26=some (.slice 50):=by kernel_rfl
theorem KG:qC prog 26=some false:=by kernel_rfl
theorem zjI{H:Hp}{p:Bool×List Q4}:qV prog H 26 (qv p)=some (p.2.length:Int):=by
 unfold qv;rcases cJ 4 p.1 (p.2.map qe) with h|⟨h0,h⟩<;>rw[h]
 ·simp[qV]
 ·simp only[List.map_eq_nil_iff] at h0;simp[qV,h0]
section
variable{bs:List aT}{es:aN}{cs:aC}{ty t:aB}{g:Nat->Nat->bY}{off:Nat}{z w:Int}{y:aT}{env:aC}{df:bP}
theorem BX(ha:qC prog t=some false):zl prog ⟨bs++[.cells cs ty,y],es⟩ g t (.ptr bs.length off)=nth cs off:=by
 have hg:(⟨bs++[.cells cs ty,y],es⟩:Hp).get bs.length=some (.cells cs ty):=by
  show nth _ _=_;rw[zg,eM (dB _)];simp
 cases h:nth cs off with
 | some v=>exact zu ha hg h
 | none=>simp[zl,qu,ha,hg,h,wV]
theorem U8{x:aT}:nth (bs++[x,y]) (bs.length+1)=some y:=by
 rw[zg,eM (by omega),show bs.length+1 - bs.length=1 by omega];rfl
theorem Jj{x:aT}:zl prog ⟨bs++[x,.cells [.int .i64 z] 3],es⟩ g 3 (.ptr (bs.length+1) 0)=some (.int .i64 z):=zu (cs:=[.int .i64 z]) (ty:=3) fo U8 rfl
theorem zrh{x:aT}:qo prog 3 ⟨bs++[x,.cells [.int .i64 z] 3],es⟩ [] df (some (.int .i64 w,env)) (some (.ptr (bs.length+1) 0))=some (.skip,⟨env,⟨bs++[x,.cells [.int .i64 w] 3],es⟩,[],df⟩):=by
 rw[zA (H:=⟨bs++[x,.cells [.int .i64 z] 3],es⟩) (b:=bs.length+1) (cs:=[.int .i64 z]) (ty:=3) ux (show _=_ from U8) rfl rfl (by simp) (wk rfl (by simp)),jT (dU _)]
 simp only[Hp.set];rw[tW _ _ (by omega),show bs.length+1 - bs.length=1 by omega]
 rfl
end
theorem Hw(f:F):nth (fc f) 0=some (qv f.s)/\nth (fc f) 1=some (iv f.r)/\nth (fc f) 2=some (rv f.f)/\nth (fc f) 3=some (rv f.n):=⟨rfl,rfl,rfl,rfl⟩
def zo7(fj:bL):Bool:=[147,107,69,70,24].all (λf=>!fj.any (Nat.beq f))
theorem Z8(hg:GK gl fj)(eH:zo7 fj=true)(f:F)(hf:WF f):Kn prog gl 24 [fv f] (.bool (EG f.s.2.length f.r.2 (rowsOf f.f) (rowsOf f.n))):=by
 simp only[zo7,List.all_cons,List.all_nil,Lc,ei,EK] at eH;obtain⟨Z9,Z_,n69,n70,n24⟩:=eH;have IA:(2000:Nat)<=reachBytes:=by decide
 have OH:=fm;have aaa:=hf.r.1;refine⟨_,yM hg func24 rfl n24 rfl (reachBytes+10) λn hn bs=>?_⟩;have Xi:=hf.fi.1;have b_:=hf.ne.1;simp only[f24,zh];refine rg ?_;simp only[BW,List.replicate,OK,qc (Zb f),UM];have hz:(V.int .i64 0).cells=[.int .i64 0]:=rfl
 have la:zl prog ⟨bs++[.cells (fc f) 30],[]⟩ gl.g 26 (.ptr bs.length 0)=some (qv f.s):=fq KG;have lb:zl prog ⟨bs++[.cells (fc f) 30],[]⟩ gl.g 28 (.ptr bs.length 2)=some (rv f.f):=fq gU;have lc:∀z,zl prog ⟨bs++[.cells (fc f) 30,.cells [.int .i64 z] 3],[]⟩ gl.g 26 (.ptr bs.length 0)=some (qv f.s):=λz=>BX KG
 have ld:∀z,zl prog ⟨bs++[.cells (fc f) 30,.cells [.int .i64 z] 3],[]⟩ gl.g 28 (.ptr bs.length 2)=some (rv f.f):=λz=>BX gU;refine wH (tk:=[]) (by kernel_rfl) ?_
 apply Exists.intro;apply And.intro;refine oF 0 (.ptr bs.length 0) (by simp only[BW,iU]) ?_
 dsimp only[aq]
 refine oL 1 (qv f.s) (by simp only[BW,la,eA]) (λc h=>by cases h) ?_
 dsimp only[aq]
 refine oL 3 (.int .i64 (f.s.2.length:Nat)) (by simp only[BW,zjI,eA]) (λc h=>by cases h) ?_
 dsimp only[aq]
 refine oF 0 (.ptr bs.length 2) (by simp only[BW,iU]) ?_
 dsimp only[aq]
 refine oL 8 (rv f.f) (by simp only[BW,lb,bM]) (λc h=>by cases h) ?_
 dsimp only[aq]
 refine oL 24 (.int .i64 (f.f.2.length:Nat)) (by simp only[BW,jZ,bM]) (λc h=>by cases h) ?_
 dsimp only[aq]
 refine zir (m:=0) (v:=.ptr (bs.length+1) 0) (H1:=⟨bs++[.cells (fc f) 30,.cells [.int .i64 0] 3],[]⟩) (cM:=_) (eG:=[]) (eF:=[]) (cs':=[⟨64,⟨bs++[.cells (fc f) 30,.cells [.int .i64 0] 3],[]⟩,[],[]⟩,⟨0,⟨bs++[.cells (fc f) 30],[]⟩,[],[]⟩]) (by kernel_rfl) rfl (by simp only[BW,Zh,zL (show dD (.int .i64 0)=true from rfl),hz];rfl) (by kernel_rfl) (by kernel_rfl) (by kernel_rfl) (λK=>j9 (by kernel_rfl) rfl (λc h=>by cases h) (zhy λq hq=>?_)) ?_
 ·simp only[dN,Cc,Bc] at hq;rcases hq with rfl|rfl|rfl|rfl|rfl|rfl
  ·refine .inr ⟨rfl,.inr (.inr ?_)⟩;simp only[jr];exact OI (by simp only[BW,jZ,bM];rfl)
  ·refine .inr ⟨rfl,.inr (.inr ?_)⟩;simp only[jr];exact OI (by simp only[BW,ld,bM];rfl)
  ·exact .inr ⟨rfl,.inl rfl⟩
  ·refine .inr ⟨rfl,.inr (.inr ?_)⟩;simp only[jr];exact OI (by simp only[BW,zjI,eA];rfl)
  ·refine .inr ⟨rfl,.inr (.inr ?_)⟩;simp only[jr];exact OI (by simp only[BW,lc,eA];rfl)
  ·exact .inr ⟨rfl,.inl rfl⟩
 dsimp only[aq]
 refine vd (m:=71) (H1:=⟨bs++[.cells (fc f) 30,.cells [.int .i64 (f.s.2.length:Nat)] 3],[]⟩) (cM:=_) (eG:=[]) (eF:=[]) (cs':=[⟨192,⟨bs++[.cells (fc f) 30,.cells [.int .i64 (f.s.2.length:Nat)] 3],[]⟩,[],[]⟩,⟨64,⟨bs++[.cells (fc f) 30,.cells [.int .i64 0] 3],[]⟩,[],[]⟩,⟨0,⟨bs++[.cells (fc f) 30],[]⟩,[],[]⟩]) (by kernel_rfl) rfl (by simp only[BW,zrh];rfl) (by kernel_rfl) (by kernel_rfl) (λK=>j9 (by kernel_rfl) rfl (λc h=>by rw[mF.1 h];kernel_rfl) (zhy λq hq=>?_)) ?_
 ·simp only[dN,Cc,Bc] at hq;rcases hq with rfl|rfl|rfl|rfl|rfl|rfl|rfl
  ·exact .inl ⟨rfl,by kernel_rfl⟩
  ·refine .inr ⟨rfl,.inr (.inr ?_)⟩;simp only[jr];exact OI (by simp only[BW,jZ,bM];rfl)
  ·refine .inr ⟨rfl,.inr (.inr ?_)⟩;simp only[jr];exact OI (by simp only[BW,ld,bM];rfl)
  ·exact .inr ⟨rfl,.inl rfl⟩
  ·exact .inr ⟨rfl,.inr (.inl (by kernel_rfl))⟩
  ·exact .inr ⟨rfl,.inr (.inl (by kernel_rfl))⟩
  ·exact .inr ⟨rfl,.inl rfl⟩
 dsimp only[aq]
 refine oF 255 (.int .i64 (f.f.2.length:Nat)) (by simp only[BW]) wI
 simp only[aq,zh];have ZQ:EG f.s.2.length f.r.2 (rowsOf f.f) (rowsOf f.n)=bif (((c_ 1000 (f.s.2.length:Int) || c_ 200 (f.f.2.length:Int)) || !((f.r.2.length:Int) == (f.s.2.length:Int))) || !((f.n.2.length:Int) == (f.s.2.length:Int))) then false else
   bif nX f.r.2 then bif c_ 0 (f.s.2.length:Int) then bif !c_ (gi f.r.2 0) 0 then bif nA (f.f.2.length:Int) (gi f.r.2 (f.s.2.length - 1)) then false else nZ f.s.2.length f.r.2 (rowsOf f.f) (rowsOf f.n) else false else nZ f.s.2.length f.r.2 (rowsOf f.f) (rowsOf f.n) else false:=by
  simp only[EG,eB]
 rw[ZQ];refine rg ?_;have U9:∀H,Cx.bD ⟨prog,gl.g,zk prog gl n,nU⟩ 69 [iv f.r] H=some (.val (.bool (nX f.r.2)),H):=wh func69 rfl (zrf hg Z9 Z_ n69 f.r aaa n (by omega))
 by_cases c1:(1000:Int)<f.s.2.length
 ·simp only[BW,Jj,gt_iff_lt,c1];refine rg ?_;simp only[BW];exact fY rfl ⟨by simp[c_,c1],_,rfl⟩
 by_cases c2:(200:Int)<f.f.2.length
 ·simp only[BW,Jj,gt_iff_lt,c1,c2];refine rg ?_;simp only[BW];exact fY rfl ⟨by simp[c_,c2],_,rfl⟩
 cases c3:((f.r.2.length:Int) == (f.s.2.length:Int)) with
 | false =>
  simp only[BW,Jj,gt_iff_lt,c1,c2,iU,BX iV,Hw,bH,wy,bne,c3];refine rg ?_;simp only[BW];exact fY rfl ⟨by simp,_,rfl⟩
 | true =>
 cases c4:((f.n.2.length:Int) == (f.s.2.length:Int)) with
 | false =>
  simp only[BW,Jj,gt_iff_lt,c1,c2,iU,BX iV,Hw,BX gU,bH,bM,wy,jZ,bne,c3,c4];refine rg ?_;simp only[BW];exact fY rfl ⟨by simp,_,rfl⟩
 | true =>
 cases c5:nX f.r.2 with
 | false =>
  rw[c5] at U9;simp only[BW,Jj,gt_iff_lt,c1,c2,iU,BX iV,Hw,BX gU,bH,bM,wy,jZ,bne,c3,c4,U9,iI];refine rg ?_;simp only[BW];exact fY rfl ⟨by simp,_,rfl⟩
 | true =>
 rw[c5] at U9;simp only[BW,Jj,gt_iff_lt,c1,c2,iU,BX iV,Hw,BX gU,bH,bM,wy,jZ,bne,c3,c4,U9,iI];have LO:f.r.2.length=f.s.2.length:=by have:=eq_of_beq c3;omega
 have oS:f.n.2.length=f.s.2.length:=by have:=eq_of_beq c4;omega
 simp only[show c_ 1000 (f.s.2.length:Int)=false by simp[c_,c1],show c_ 200 (f.f.2.length:Int)=false by simp[c_,c2],Bool.or_self,nD,mh]
 obtain⟨B,hB⟩:∃B,B=(c_ 0 (f.s.2.length:Int) && (c_ (gi f.r.2 0) 0 || nA (f.f.2.length:Int) (gi f.r.2 (f.s.2.length - 1)))):=⟨_,rfl⟩
 have GX:(bif c_ 0 (f.s.2.length:Int) then bif !c_ (gi f.r.2 0) 0 then bif nA (f.f.2.length:Int) (gi f.r.2 (f.s.2.length - 1)) then false else nZ f.s.2.length f.r.2 (rowsOf f.f) (rowsOf f.n) else false else nZ f.s.2.length f.r.2 (rowsOf f.f) (rowsOf f.n))=(!B && nZ f.s.2.length f.r.2 (rowsOf f.f) (rowsOf f.n)):=by
  rw[hB];cases c_ 0 (f.s.2.length:Int)<;>cases c_ (gi f.r.2 0) 0<;>cases nA (f.f.2.length:Int) (gi f.r.2 (f.s.2.length - 1))<;>simp
 rw[GX];refine Rk 94 [(1,.ptr bs.length 0),(3,.ptr (bs.length+1) 0),(60,.bool B)] ?_ λenv ⟨j,e⟩=>?_
 ·refine rg ?_
  by_cases d1:(0:Int)<f.s.2.length
  ·have g1:=vw (p:=f.r) (i:=0) (by omega)
   have g2:=vw (p:=f.r) (i:=f.s.2.length - 1) (by omega)
   have l8:IntKind.i64.wrap ((f.s.2.length:Int) - 1)=((f.s.2.length - 1:Nat):Int):=by rw[J_ (by omega) (by omega)];omega
   have g1':zp prog 27 (iv f.r) 0=some (.vp [.int .i64 (gi f.r.2 0)]):=g1
   by_cases d2:gi f.r.2 0<0
   ·obtain rfl:B=true:=by rw[hB];simp only[c_,nA,d1,d2,decide_true,tE,Bool.true_or]
    simp only[BW,Jj,gt_iff_lt,d1,iU,BX iV,Hw,bH,g1',xJ,d2];exact⟨_,rfl,fZ rfl⟩
   ·obtain rfl:B=decide ((f.f.2.length:Int)<=gi f.r.2 (f.s.2.length - 1)):=by rw[hB];simp only[c_,nA,d1,d2,decide_true,decide_false,tE,z_]
    simp only[BW,Jj,gt_iff_lt,d1,iU,BX iV,Hw,bH,g1',xJ,d2,kj,l8,g2,ge_iff_le];exact⟨_,rfl,fZ rfl⟩
  ·obtain rfl:B=false:=by rw[hB];simp only[c_,d1,decide_false,Fe]
   simp only[BW,Jj,gt_iff_lt,d1];exact⟨_,rfl,fZ rfl⟩
 subst e;simp only[sh,pV,Nat.reduceBEq,Nat.reduceAdd,mh,nD];cases B with
 | true =>
  simp only[BW];refine rg ?_;simp only[BW];exact fY rfl ⟨rfl,_,rfl⟩
 | false =>
 have R1:∀i,i<f.s.2.length->0<=gi f.r.2 i/\gi f.r.2 i<(f.f.2.length:Int):=λi hi=>by
  have h1:=pW c5 (i:=0) (j:=i) (by omega) (by omega)
  have h2:=pW c5 (i:=i) (j:=f.s.2.length - 1) (by omega) (by omega)
  have h3:(0:Int)<f.s.2.length:=by omega
  simp only[c_,nA,h3,decide_true,tE] at hB;have He:=hB.symm;rw[HN] at He;simp only[decide_eq_false_iff_not] at He;omega
 simp only[BW,tE];refine rg ?_;have cF:aW (V.fn (.func 70) [] [.ptr (bs.length+1) 0,.ptr bs.length 0])=.fn (.func 70) [] [.ptr (bs.length+1) 0,.ptr bs.length 0]:=rfl;have tF:∀env t,qE env t (some (.fn (.func 70) [] [.ptr (bs.length+1) 0,.ptr bs.length 0]))=some (.fn (.func 70) [] [.ptr (bs.length+1) 0,.ptr bs.length 0],env):=λ_ _=>rfl
 have cV:∀args H,Cx.mI ⟨prog,gl.g,zk prog gl n,nU⟩ (.fn (.func 70) [] [.ptr (bs.length+1) 0,.ptr bs.length 0]) args H=Cx.bD ⟨prog,gl.g,zk prog gl n,nU⟩ 70 (args.map aW++[.ptr (bs.length+1) 0,.ptr bs.length 0]) H:=λ_ _=>ZZ rfl;simp only[BW,U5,tF]
 obtain⟨P1,hP1⟩:∃P1:Nat->Bool,P1=λ(i:Nat)=>wM (pF f.s.2.length f.r.2 (i:Int) (gr (rowsOf f.f) i)) (gr (rowsOf f.f) i).length:=⟨_,rfl⟩;obtain⟨P2,KH⟩:∃P2:Nat->Bool,P2=λ(i:Nat)=>wM (pF f.s.2.length f.r.2 (gi f.r.2 i) (gr (rowsOf f.n) i)) (gr (rowsOf f.n) i).length:=⟨_,rfl⟩
 have l7:nZ f.s.2.length f.r.2 (rowsOf f.f) (rowsOf f.n)=bif wM P1 f.f.2.length then wM P2 f.s.2.length else false:=by
  simp only[nZ,eB,hP1,KH]
 rw[l7]
 have dz:∀(q:cO)(rule:Int),WI q->0<=rule->rule<=200->Cx.bD ⟨prog,gl.g,zk prog gl n,nU⟩ 70 [iv q,.int .i64 rule,.ptr (bs.length+1) 0,.ptr bs.length 0] ⟨bs++[.cells (fc f) 30,.cells [.int .i64 (f.s.2.length:Nat)] 3],[]⟩=some (.val (.bool (wM (pF f.s.2.length f.r.2 rule q.2) q.2.length)),⟨bs++[.cells (fc f) 30,.cells [.int .i64 (f.s.2.length:Nat)] 3],[]⟩):=λq rule hq h0 h1 =>
  zq func70 rfl (zrg hg n70 f.s.2.length f LO q hq rule (J_ (by omega) (by omega)) (by have:=hq.1;omega) U8 (by rw[zg,eM (dB _)];simp))
 refine rg ?_;simp only[BW,iU,BX gU,Hw,bM,jZ]
 refine qd (λm st=>∃i env,m+i=f.f.2.length/\st=⟨env,⟨bs++[.cells (fc f) 30,.cells [.int .i64 (f.s.2.length:Nat)] 3],[]⟩,[],[]⟩/\Ks 94 [(1,.ptr bs.length 0),(5,.fn (.func 70) [] [.ptr (bs.length+1) 0,.ptr bs.length 0]),(63,rv f.f),(64,.int .i64 (f.f.2.length:Nat)),(65,.int .i64 (i:Nat))] env/\∀j,j<i->P1 j=true) f.f.2.length (by omega) ⟨0,_,rfl,rfl,fZ rfl,λj h=>by omega⟩ ?_
 rintro m st ⟨i,env,tU,rfl,⟨j,rfl⟩,dH⟩;simp only[sh,pV,Nat.reduceBEq,Nat.reduceAdd,mh,nD];simp only[zh];refine rg ?_;simp only[BW,qh]
 by_cases hi:i<f.f.2.length
 ·refine .inl ⟨by simp;omega,?_⟩
  obtain⟨q,hq⟩:∃q,f.f.2[i]?=some q:=⟨f.f.2[i],by simp[hi]⟩
  have hc:=dz q (i:Int) (hf.fi.2 q (m8 hq)) (by omega) (by omega)
  have hPi:P1 i=wM (pF f.s.2.length f.r.2 (i:Int) q.2) q.2.length:=by
   rw[hP1];simp only[pq hq]
  rw[<- hPi] at hc;refine rg ?_;simp only[BW,bM,UZ hq,KC,bH,ZN];refine rg ?_;cases hp:P1 i with
  | false =>
   rw[hp] at hc;simp only[BW,bH,yN,wN,cF,cV,hc,iI];refine rg ?_;simp only[BW];have hb:wM P1 f.f.2.length=false:=by
    rw[<- JG,cI];exact λh=>by rw[h i hi] at hp;cases hp
   exact fY rfl ⟨by rw[hb];rfl,_,rfl⟩
  | true =>
   rw[hp] at hc;simp only[BW,bH,yN,wN,cF,cV,hc,iI];refine rg ?_;simp only[BW,zQ (show i<2 ^ 60 by omega)]
   exact⟨m - 1,by omega,i+1,_,by omega,rfl,fZ rfl,λj hj=>by
    rcases eI j i with h|h
    ·exact dH j h
    ·obtain rfl:j=i:=by omega
     exact hp⟩
 ·obtain rfl:i=f.f.2.length:=by omega
  refine .inr ⟨by simp,?_⟩
  rw[cI.2 dH,mh];refine rg ?_;simp only[BW,iU,BX gU,Hw,bM,jZ]
  refine qd (λm st=>∃i env,m+i=f.n.2.length/\st=⟨env,⟨bs++[.cells (fc f) 30,.cells [.int .i64 (f.s.2.length:Nat)] 3],[]⟩,[],[]⟩/\Ks 94 [(1,.ptr bs.length 0),(5,.fn (.func 70) [] [.ptr (bs.length+1) 0,.ptr bs.length 0]),(77,rv f.n),(78,.int .i64 (f.n.2.length:Nat)),(79,.int .i64 (i:Nat))] env/\∀j,j<i->P2 j=true) f.n.2.length (by omega) ⟨0,_,rfl,rfl,fZ rfl,λj h=>by omega⟩ ?_
  rintro m st ⟨i,env,tU,rfl,⟨j,rfl⟩,dH⟩;simp only[sh,pV,Nat.reduceBEq,Nat.reduceAdd,mh,nD];simp only[zh];refine rg ?_;simp only[BW,qh]
  by_cases hi:i<f.n.2.length
  ·refine .inl ⟨by simp;omega,?_⟩
   obtain⟨q,hq⟩:∃q,f.n.2[i]?=some q:=⟨f.n.2[i],by simp[hi]⟩
   obtain⟨r0,r1⟩:=R1 i (by omega)
   have hc:=dz q (gi f.r.2 i) (hf.ne.2 q (m8 hq)) r0 (by omega)
   have g1:=vw (p:=f.r) (i:=i) (by omega)
   have hPi:P2 i=wM (pF f.s.2.length f.r.2 (gi f.r.2 i) q.2) q.2.length:=by
    rw[KH];simp only[pq hq]
   rw[<- hPi] at hc;refine rg ?_;simp only[BW,bM,UZ hq,KC,bH,ZN];refine rg ?_;cases hp:P2 i with
   | false =>
    rw[hp] at hc;simp only[BW,iU,BX iV,Hw,bH,g1,xJ,yN,wN,cF,cV,hc,iI];refine rg ?_;simp only[BW];have hb:wM P2 f.s.2.length=false:=by
     rw[<- JG,cI];exact λh=>by rw[h i (by omega)] at hp;cases hp
    exact fY rfl ⟨by rw[hb],_,rfl⟩
   | true =>
    rw[hp] at hc;simp only[BW,iU,BX iV,Hw,bH,g1,xJ,yN,wN,cF,cV,hc,iI];refine rg ?_;simp only[BW,zQ (show i<2 ^ 60 by omega)]
    exact⟨m - 1,by omega,i+1,_,by omega,rfl,fZ rfl,λj hj=>by
     rcases eI j i with h|h
     ·exact dH j h
     ·obtain rfl:j=i:=by omega
      exact hp⟩
  ·obtain rfl:i=f.n.2.length:=by omega
   refine .inr ⟨by simp,?_⟩
   refine rg ?_;simp only[BW];rw[oS] at dH;exact fY rfl ⟨by rw[cI.2 dH],_,rfl⟩
end
section
set_option linter.unusedSectionVars false
variable{gl:Gl}
def OS(p:Bool×List cO):V:=lv 1 p.1 (p.2.map C8)
end
theorem c5:prog.cellsOf 5=1:=by kernel_rfl
theorem c78:prog.cellsOf 78=1:=by kernel_rfl
theorem c58:prog.cellsOf 58=1:=by kernel_rfl
theorem b5:prog.bytesOf 5=1:=by kernel_rfl
theorem b78:prog.bytesOf 78=24:=by kernel_rfl
theorem mk5(cs:aC):v9 prog 5 cs=cs.headD .ee:=by
 have:y5 prog 5=false:=by kernel_rfl
 simp[v9,this]
theorem zri(cs:aC):v9 prog 78 cs=cs.headD .ee:=by
 have:y5 prog 78=false:=by kernel_rfl
 simp[v9,this]
def WB(t:cO):Prop:=t.2.length<2 ^ 60/\∀b∈t.2,0<=b/\b<256
theorem zpZ{n:Nat}{xs:aC}(h:jk prog n 5 xs):∃z,xs=[be z]/\0<=z/\z<256:=by
 cases n with
 | zero=>exact h.elim
 | succ n =>
  simp only[jk,underlying5] at h;obtain⟨z,h,hw⟩:=h;refine⟨z,h,?_⟩;have tT:IntKind.u8.min<=z/\z<=IntKind.u8.max:=by simpa[Lit.wf] using hw
  have e1:IntKind.u8.min=0:=by decide
  have e2:IntKind.u8.max=255:=by decide
  rw[e1,e2] at tT;omega
theorem zok{n:Nat}{xs:aC}(h:jk prog n 78 xs):∃p,xs=[C8 p]/\WB p:=by
 cases n with
 | zero=>exact h.elim
 | succ n =>
  simp only[jk,underlying78,c5,b5] at h;rcases h with h|⟨ys,h,⟨_,hl⟩,hy⟩
  ·exact⟨(true,[]),h,by simp[WB]⟩
  ·obtain⟨l,h1,h2⟩:=mw (h:=be) (Q:=λb=>0<=b/\b<256) ys λy Gd=>by
    obtain⟨cs,g1,g2⟩:=hy y Gd;obtain⟨z,g3,g4⟩:=zpZ g1;rw[mk5,g3] at g2;exact⟨z,g2.symm,g4⟩
   subst h1;rw[gk] at hl;exact⟨(false,l),h,by have:=fm;show l.length<_;omega,h2⟩
theorem Jk{n:Nat}{xs:aC}(h:jk prog n 58 xs):∃p,xs=[OS p]/\p.2.length<2 ^ 60/\∀t∈p.2,WB t:=by
 cases n with
 | zero=>exact h.elim
 | succ n =>
  simp only[jk,underlying58,c78,b78] at h;rcases h with h|⟨ys,h,⟨_,hl⟩,hy⟩
  ·exact⟨(true,[]),h,by simp⟩
  ·obtain⟨l,h1,h2⟩:=mw (h:=C8) (Q:=WB) ys λy Gd=>by
    obtain⟨cs,g1,g2⟩:=hy y Gd;obtain⟨z,g3,g4⟩:=zok g1;rw[zri,g3] at g2;exact⟨z,g2.symm,g4⟩
   subst h1;rw[gk] at hl;exact⟨(false,l),h,by have:=fm;show l.length<_;omega,h2⟩
end Go.Proofs.YthohlnmcjkjeiaaGreatDoor.A2
namespace Go.Proofs.YthohlnmcjkjeiaaGreatDoor
open Go.Proofs.Tryz
set_option maxRecDepth 10000
open Go Go.Vm
theorem c45:prog.cellsOf 53=10:=by kernel_rfl
theorem c47:prog.cellsOf 55=21:=by kernel_rfl
theorem c41:prog.cellsOf 50=4:=by kernel_rfl
theorem c39:prog.cellsOf 48=1:=by kernel_rfl
theorem c43:prog.cellsOf 51=1:=by kernel_rfl
theorem c9:prog.cellsOf 9=1:=by kernel_rfl
theorem Lw:prog.cellsOf 3=1:=by kernel_rfl
theorem c4':prog.cellsOf 4=1:=by kernel_rfl
theorem c22:prog.cellsOf 24=1:=by kernel_rfl
theorem c60:prog.cellsOf 60=3:=by kernel_rfl
theorem b47:prog.bytesOf 55=216:=by kernel_rfl
theorem zrj(cs:aC):v9 prog 53 cs=.agg cs:=by
 have:y5 prog 53=true:=by kernel_rfl
 simp only[v9,this,aF]
theorem zrk(cs:aC):v9 prog 55 cs=.agg cs:=by
 have:y5 prog 55=true:=by kernel_rfl
 simp only[v9,this,aF]
theorem rJ{n:Nat}{xs:aC}(h:jk prog n 3 xs):∃z,xs=[.int .i64 z]:=by
 cases n with
 | zero=>exact h.elim
 | succ n =>
  simp only[jk,underlying3] at h;obtain⟨z,h,_⟩:=h;exact⟨z,h⟩
theorem zp0{n:Nat}{xs:aC}(h:jk prog n 4 xs):∃b,xs=[.bool b]:=by
 cases n with
 | zero=>exact h.elim
 | succ n =>
  simp only[jk,underlying4] at h;exact h
def QU(z:Int):Prop:=0<=z/\z<18446744073709551616
mutual
def QE:E->Prop
 | .mk _ _ s0 s1 s2 s3 _ _ _ _ args=>(QU s0/\QU s1/\QU s2/\QU s3)/\Nc args
def Nc:List E->Prop
 | []=>True
 | e::l=>QE e/\Nc l
end
theorem U_{n:Nat}{xs:aC}(h:jk prog n 48 xs):∃z,xs=[.int .u64 z]/\QU z:=by
 cases n with
 | zero=>exact h.elim
 | succ n =>
  simp only[jk,underlying48] at h;obtain⟨z,h,hw⟩:=h;refine⟨z,h,?_⟩;have tT:IntKind.u64.min<=z/\z<=IntKind.u64.max:=by simpa[Lit.wf] using hw
  have e1:IntKind.u64.min=0:=by decide
  have e2:IntKind.u64.max=18446744073709551615:=by decide
  rw[e1,e2] at tT;exact⟨by omega,by omega⟩
theorem zp1{n:Nat}{xs:aC}(h:jk prog n 9 xs):∃s,xs=[.str s]/\(∀b∈s,b<256)/\s.length<=maxLen:=by
 cases n with
 | zero=>exact h.elim
 | succ n =>
  simp only[jk,underlying9] at h;exact h
theorem zol{n:Nat}{xs:aC}(h:jk prog n 50 xs):∃a b c d,xs=[.int .u64 a,.int .u64 b,.int .u64 c,.int .u64 d]/\QU a/\QU b/\QU c/\QU d:=by
 cases n with
 | zero=>exact h.elim
 | succ n =>
  simp only[jk,underlying50,c41,c39] at h;obtain⟨hl,h⟩:=h
  match xs,hl with
  | [x,y,z,w],_ =>
   obtain⟨a,ha,ka⟩:=U_ (h 0 (by omega))
   obtain⟨b,hb,kb⟩:=U_ (h 1 (by omega))
   obtain⟨c,hc,kc⟩:=U_ (h 2 (by omega))
   obtain⟨d,hd,kd⟩:=U_ (h 3 (by omega))
   simp at ha hb hc hd;exact⟨a,b,c,d,by rw[ha,hb,hc,hd],ka,kb,kc,kd⟩
theorem DQ:∀(ys:aC),(∀y∈ys,∃e,enc e=y/\Wf e/\Can e/\QE e)->∃l,fy l=ys/\IS l/\EC l/\Nc l
 | [],_=>⟨[],rfl,trivial,trivial,trivial⟩
 | y::ys,h=>by
  obtain⟨e,h1,h2,h5,h7⟩:=h y eT;obtain⟨l,h3,h4,h6,h8⟩:=DQ ys λz hz=>h z (d_ _ hz);exact⟨e::l,by simp[fy,h1,h3],⟨h2,h4⟩,⟨h5,h6⟩,h7,h8⟩
theorem mw{α:Type}{h:α->V}{Q:α->Prop}:∀(ys:aC),(∀y∈ys,∃a,h a=y/\Q a)->∃l:List α,l.map h=ys/\∀a∈l,Q a
 | [],_=>⟨[],rfl,λ_ h=>by simp at h⟩
 | y::ys,hy=>by
  obtain⟨a,h1,h2⟩:=hy y (eT ..);obtain⟨l,h3,h4⟩:=mw ys λz hz=>hy z (d_ _ hz);refine⟨a::l,by simp[h1,h3],λb hb=>?_⟩
  rcases dN.1 hb with rfl|hb
  ·exact h2
  ·exact h4 b hb
mutual
theorem Db:∀(n:Nat)(xs:aC),jk prog n 53 xs->∃e,enc e=.agg xs/\Wf e/\Can e/\QE e
 | 0,_,h=>h.elim
 | n+1,xs,h=>by
  simp only[jk,underlying53,c45] at h;obtain⟨hl,h⟩:=h;have f0:=h ⟨ "Op",3,0,false,"","",0⟩ (by simp)
  have f1:=h ⟨ "At",3,1,false,"","",8⟩ (by simp)
  have f2:=h ⟨ "Set",50,2,false,"","",16⟩ (by simp)
  have f3:=h ⟨ "Text",9,6,false,"","",48⟩ (by simp)
  have f4:=h ⟨ "Min",3,7,false,"","",64⟩ (by simp)
  have f5:=h ⟨ "Max",3,8,false,"","",72⟩ (by simp)
  have f6:=h ⟨ "Args",51,9,false,"","",80⟩ (by simp)
  clear h;simp only[Lw,c41,c9,c43] at f0 f1 f2 f3 f4 f5 f6
  match xs,hl with
  | [x0,x1,x2,x3,x4,x5,x6,x7,x8,x9],_ =>
   simp only[uH,iW,x_,AP] at f0 f1 f2 f3 f4 f5 f6;obtain⟨op,h0⟩:=rJ f0;obtain⟨pl,h1⟩:=rJ f1;obtain⟨a,b,c,d,h2,hq⟩:=zol f2;obtain⟨s,h3,_,hs⟩:=zp1 f3;obtain⟨mn,h4⟩:=rJ f4;obtain⟨mx,h5⟩:=rJ f5;obtain⟨nl,l,h6,h7,h8,h9,DD,QJ⟩:=Nd n x9 f6;simp only[List.cons.injEq,Ce] at h0 h1 h2 h3 h4 h5;obtain⟨rfl,rfl,rfl,rfl⟩:=h2;subst h0 h1 h3 h4 h5 h6
   exact⟨.mk op pl a b c d s mn mx nl l,rfl,⟨hs,h7,h8⟩,⟨DD,h9⟩,hq,QJ⟩
theorem Nd:∀(n:Nat)(v:V),jk prog n 51 [v]->∃nl l,v=yi nl (fy l)/\l.length<=maxLen/\IS l/\EC l/\(nl=true->l=[])/\Nc l
 | 0,_,h=>h.elim
 | n+1,v,h=>by
  simp only[jk,underlying51,c45] at h;rcases h with h|⟨ys,h,⟨hl,_⟩,hy⟩
  ·simp only[List.cons.injEq,Ce] at h;exact⟨true,[],by rw[h];rfl,by simp,trivial,trivial,λ_=>rfl,trivial⟩
  ·simp only[List.cons.injEq,Ce] at h;obtain⟨l,h1,h2,h3,h4⟩:=DQ ys λy Gd=>by
    obtain⟨cs,g1,g2⟩:=hy y Gd;rw[zrj] at g2;rw[g2];exact Db n cs g1
   subst h1;rw[fO] at hl;exact⟨false,l,by rw[h];rfl,hl,h2,h3,(λh=>by cases h),h4⟩
end
theorem zom{n:Nat}{xs:aC}(h:jk prog n 55 xs):∃c:Cr,Cn c=.agg xs/\MJ c/\Je c/\QE c.1/\QE c.2.2:=by
 cases n with
 | zero=>exact h.elim
 | succ n =>
  simp only[jk,underlying55,c47] at h;obtain⟨hl,h⟩:=h;have f0:=h ⟨ "Head",53,0,false,"","",0⟩ (by simp)
  have f1:=h ⟨ "HasTrail",4,10,false,"","",104⟩ (by simp)
  have f2:=h ⟨ "Trail",53,11,false,"","",112⟩ (by simp)
  clear h;simp only[c45,c4'] at f0 f1 f2;rw[iW] at f0;obtain⟨a,ha,wa,ka,qa⟩:=Db n _ f0;obtain⟨t,ht⟩:=zp0 f1;obtain⟨b,hb,wb,kb,qb⟩:=Db n _ f2;refine⟨(a,t,b),?_,⟨wa,wb⟩,⟨ka,kb⟩,qa,qb⟩;rw[qz,V.agg.injEq] at ha hb;simp only[Cn,iG,ha,hb];rw[V.agg.injEq,aY,<- ht];have e3:(xs.drop 11).take 10=xs.drop 11:=rM (by simp;omega)
  have e4:xs.drop 11=(xs.drop 10).drop 1:=by rw[List.drop_drop]
  rw[e3,e4,Cu,Cu]
theorem zon{n:Nat}{v:V}(h:jk prog n 24 [v]):∃nl l,v=zZ nl l/\l.length<=maxLen/\l.length * 216<=reachBytes/\(∀c∈l,MJ c)/\(∀c∈l,Je c)/\∀c∈l,QE c.1/\QE c.2.2:=by
 cases n with
 | zero=>exact h.elim
 | succ n =>
  simp only[jk,underlying24,c47,b47] at h;rcases h with h|⟨ys,h,⟨hl,hb⟩,hy⟩
  ·simp only[List.cons.injEq,Ce] at h;exact⟨true,[],by rw[h];rfl,by simp,by simp,by simp,by simp,by simp⟩
  ·simp only[List.cons.injEq,Ce] at h;obtain⟨l,h1,h2⟩:=mw (h:=Cn) (Q:=λc=>MJ c/\Je c/\QE c.1/\QE c.2.2) ys λy Gd=>by
    obtain⟨cs,g1,g2⟩:=hy y Gd;rw[zrk] at g2;rw[g2];exact zom g1
   subst h1;rw[gk] at hl hb;refine⟨false,l,by rw[h];rfl,hl,hb,λc hc=>(h2 c hc).1,λc hc=>(h2 c hc).2.1,λc hc=>(h2 c hc).2.2⟩
structure A8 where
 nl:Bool
 l:List Cr
 a:A2.gZ
 t:Bool×List A2.cO
def jb(p:A8):aC:=[zZ p.nl p.l,A2.rv p.a,A2.OS p.t]
structure BY(p:A8):Prop where
 len:p.l.length<=maxLen
 Cm:p.l.length * 216<=reachBytes
 wf:∀c∈p.l,MJ c
 can:∀c∈p.l,Je c
 q:∀c∈p.l,QE c.1/\QE c.2.2
 a:A2.WR p.a
 tl:p.t.2.length<2 ^ 60
 t:∀t∈p.t.2,A2.WB t
theorem zoo{n:Nat}{xs:aC}(h:jk prog n 60 xs):∃p,xs=jb p/\BY p:=by
 cases n with
 | zero=>exact h.elim
 | succ n =>
  simp only[jk,underlying60,c60] at h;obtain⟨hl,h⟩:=h
  match xs,hl with
  | [x,y,z],_ =>
   have f0:=h ⟨ "L",24,0,false,"","",0⟩ (by simp)
   have f1:=h ⟨ "Active",28,1,false,"","",24⟩ (by simp)
   have f2:=h ⟨ "Texts",58,2,false,"","",48⟩ (by simp)
   simp only[c22,A2.Rm,A2.c58,uH,iW,x_,AP] at f0 f1 f2;obtain⟨nl,l,rfl,k1,k2,k3,k4,k5⟩:=zon f0;obtain⟨p,hp,wp⟩:=A2.I_ f1;obtain⟨q,hq,lq,wq⟩:=A2.Jk f2;simp at hp hq;subst hp hq;exact⟨⟨nl,l,p,q⟩,rfl,k1,k2,k3,k4,k5,wp,lq,wq⟩
end Go.Proofs.YthohlnmcjkjeiaaGreatDoor
namespace Go.Proofs.YthohlnmcjkjeiaaGreatDoor.A2
open Go.Proofs.Tryz
set_option maxRecDepth 100000
section
open Go Go.Vm Go.Vm.Sx
set_option maxHeartbeats 2000000
variable{gl:Gl}{fj:bL}
theorem gx:zD prog 60 0=some 0/\zD prog 60 1=some 1/\zD prog 60 2=some 2:=⟨by kernel_rfl,by kernel_rfl,by kernel_rfl⟩
theorem KI:qC prog 24=some false:=by kernel_rfl
theorem zgb(p:A8):dD (.agg (jb p))=true:=rfl
theorem zjJ(q:Bool×List cO):aW (OS q)=OS q:=Qy ..
theorem zcx(p:A8):(V.agg (jb p)).laid=jb p:=by simp[V.laid,jb,qB,bM,zjJ]
theorem zgc(p:A8)(env:aC)(t:Nat):qE env t (some (.agg (jb p)))=some (.agg (jb p),env):=rfl
theorem zjK(c:Cr):(iG c).drop 11=aL c.2.2:=by
 simp only[iG];rw[List.drop_left' (by simp[z6])]
theorem zo8{H:Hp}{g:Nat->Nat->bY}{c:Cr}:zl prog H g 53 (.vp (iG c))=some (.agg (aL c.1)):=by
 have h:(iG c).take 10=aL c.1:=by
  simp only[iG,aY];rw[List.take_left' (z6 c.1)]
 simp[zl,qu,BK,sY,Od,w8,h]
theorem n6:∀(l:List Cr)(n:Int)(c:Cr),eg n (l++[c])=IntKind.i64.wrap (IntKind.i64.wrap (eg n l+dP c.1 0)+dP c.2.2 0)
 | [],n,c=>by simp only[bg,eg]
 | a::l,n,c=>by simp only[bh,eg,n6 l]
def sq(p:A8):Bool:=c_ 500 (eg 0 p.l) || c_ 16 (p.a.2.length:Int)
theorem zrl{a:aX}{t:aB}{x:V}:qO prog .neq 37 a (.const .nilIface) (some (.ec t x)) (some .bT)=some (.bool true):=by kernel_rfl
theorem zp2{a:aX}:qO prog .neq 37 a (.const .nilIface) (some .bT) (some .bT)=some (.bool false):=by cases a<;>kernel_rfl
theorem zrm{a:aX}{t:aB}{x:V}:qO prog .eql 37 a (.const .nilIface) (some (.ec t x)) (some .bT)=some (.bool false):=by kernel_rfl
theorem zqT{a:aX}:qO prog .eql 37 a (.const .nilIface) (some .bT) (some .bT)=some (.bool true):=by cases a<;>kernel_rfl
theorem zo9(l:List Cr):∃K,∀c∈l,Go.Proofs.YthohlnmcjkjeiaaGreatDoor.hg c.1<=K/\Go.Proofs.YthohlnmcjkjeiaaGreatDoor.hg c.2.2<=K:=by
 induction l with
 | nil=>exact⟨0,λc h=>by cases h⟩
 | cons a l ih =>
  obtain⟨K,hK⟩:=ih;refine⟨max K (max (Go.Proofs.YthohlnmcjkjeiaaGreatDoor.hg a.1) (Go.Proofs.YthohlnmcjkjeiaaGreatDoor.hg a.2.2)),λc h=>?_⟩;rcases dN.1 h with rfl|h
  ·omega
  ·have:=hK c h;omega
theorem Nf(f:F):aW (fv f)=fv f:=by simp[fv,fc,qU]
def zF:aC:=fc ⟨(true,[]),(true,[]),(true,[]),(true,[])⟩
theorem Jl:qP prog 30=some (.agg zF):=by kernel_rfl
theorem R3:prog.underlying 61=some (.slice 66):=by kernel_rfl
theorem Va{H:Hp}{vs:aC}{o:tG}:qV prog H 61 (.sl 2 vs o)=some (vs.length:Int):=by simp[qV]
theorem R4:qC prog 30=some true:=by kernel_rfl
theorem KJ:z8 prog 30=some 4:=by kernel_rfl
section
variable{bs:List aT}{es:aN}{env:aC}{df:bP}{x:aT}{g:Nat->Nat->bY}
theorem Vb(f:F):qo prog 30 ⟨bs++[x,.cells zF 30],es⟩ [] df (some (fv f,env)) (some (.ptr (bs.length+1) 0))=some (.skip,⟨env,⟨bs++[x,.cells (fc f) 30],es⟩,[],df⟩):=by
 have h:=Ms (P:=prog) (t:=30) (n:=4) (B:=bs) (ls:=[x,.cells zF 30]) (k:=1) (off:=0) (cs:=zF) (ty:=30) (v:=fv f) (env:=env) (lk:=[]) (df:=df) (es:=es) KJ rfl (Zb f) (by rw[UM];rfl) (by decide) rfl (Av f)
 rw[h,UM,w7 (by rfl)]
 rfl
theorem zp3(f:F):zl prog ⟨bs++[x,.cells (fc f) 30],es⟩ g 30 (.ptr (bs.length+1) 0)=some (fv f):=by
 have h:Hp.get ⟨bs++[x,.cells (fc f) 30],es⟩ (bs.length+1)=some (.cells (fc f) 30):=U8;rw[je R4 KJ h (by simp[fc])];rfl
end
inductive R5(k:Nat)(gl:Gl)(p:A8):V->Prop
 |big (h:sq p=true):R5 k gl p (.br [.aG,.bool false])
 |ref (h:sq p=false) (f:F) (t:aB) (o:Nat) (BZ:rY k prog gl 14 [zZ p.nl p.l] (.br [fv f,.ec t (.obj o)])):R5 k gl p (.br [.aG,.bool false])
 |bad (h:sq p=false) (f:F) (t:aB) (o:Nat) (BZ:rY k prog gl 14 [zZ p.nl p.l] (.br [fv f,.bT])) (Dc:rY k prog gl 30 [fv f,rv p.a] (.br [.aG,.ec t (.obj o)])):R5 k gl p (.br [.aG,.bool false])
 |go (h:sq p=false) (f:F) (vs:aC) (ht:aI vs=0) (BZ:rY k prog gl 14 [zZ p.nl p.l] (.br [fv f,.bT])) (Dc:rY k prog gl 30 [fv f,rv p.a] (.br [.sl 2 vs .no,.bT])) (hl:vs.length=p.a.2.length):R5 k gl p (.br [.sl 2 vs .no,.bool true])
theorem Ng(hg:GK gl fj)(h71:fj.any (Nat.beq 71)=false)(A9:fj.any (Nat.beq 25)=false)(p:A8)(hp:BY p){R:V}{k:Nat}(hR:R5 k gl p R):Kn prog gl 25 [.agg (jb p)] R:=by
 have OH:=fm;have Ie:=hp.Cm
 have WQ:=hp.a.1;have dy:R.top=0:=by
  cases hR with
  | go h f vs ht BZ Dc hl=>simp[V.top,aI,ht]
  | _=>rfl
 obtain⟨K,hK⟩:=zo9 p.l;refine⟨_,yM hg func25 rfl A9 dy (p.l.length+K+k+10) λn hn bs=>?_⟩;have lA:∀g,zl prog ⟨bs++[.cells (jb p) 60],[]⟩ g 24 (.ptr bs.length 0)=some (zZ p.nl p.l):=λg=>E0 KI;have lB:∀g,zl prog ⟨bs++[.cells (jb p) 60],[]⟩ g 28 (.ptr bs.length 1)=some (rv p.a):=λg=>E0 gU;simp only[f25,zh];refine rg ?_
 simp only[BW,List.replicate,qc (zgb p),zcx];refine rg ?_;simp only[BW];refine rg ?_;simp only[BW]
 refine qd (λm st=>∃i env,m+i=p.l.length/\st=⟨env,⟨bs++[.cells (jb p) 60],[]⟩,[],[]⟩/\Ks 67 [(1,.ptr bs.length 0),(2,.aG),(3,.bool false),(4,.int .i64 (eg 0 (p.l.take i))),(5,.int .i64 (i:Nat))] env) p.l.length (by omega) ⟨0,_,rfl,rfl,fZ rfl⟩ ?_
 rintro m st ⟨i,env,tU,rfl,⟨j,rfl⟩⟩;simp only[sh,pV,Nat.reduceBEq,Nat.reduceAdd,mh,nD];simp only[zh];refine rg ?_;simp only[BW,qh,gx,lA,qB,yw]
 by_cases hi:i<p.l.length
 ·refine .inl ⟨by simp;omega,?_⟩
  obtain⟨c,hc⟩:∃c,p.l[i]?=some c:=⟨p.l[i],by simp[hi]⟩
  have pH:=m8 hc;obtain⟨w1,w2⟩:=hp.wf c pH;obtain⟨k1,k2⟩:=hK c pH;have R6:∀e,Wf e->Go.Proofs.YthohlnmcjkjeiaaGreatDoor.hg e<=K->∀H,Cx.bD ⟨prog,gl.g,zk prog gl n,nU⟩ 71 [.agg (aL e),.int .i64 0] H=some (.val (.int .i64 (dP e 0)),H):=λe w k=>by
   rw[<- qz];exact wh func71 rfl (ZR hg h71 e w 0 n (by omega))
  have v1:=R6 c.1 w1 k1;have v2:=R6 c.2.2 w2 k2;have DS:eg 0 (p.l.take (i+1))=IntKind.i64.wrap (IntKind.i64.wrap (eg 0 (p.l.take i)+dP c.1 0)+dP c.2.2 0):=by
   rw[List.take_add_one,hc];exact n6 _ _ _
  generalize eg 0 (p.l.take i)=s at DS ⊢;generalize dP c.1 0=z1 at v1 DS;generalize dP c.2.2 0=z2 at v2 DS;have sD:=UH (nl:=p.nl) hc;refine wH (tk:=[]) (by kernel_rfl) ?_
  apply Exists.intro;apply And.intro;refine oF 0 (.int .i64 s) (by simp only[BW]) ?_
  dsimp only[aq]
  refine oF 0 (.ptr bs.length 0) (by simp only[BW,gx]) ?_
  dsimp only[aq]
  refine oL 2 (zZ p.nl p.l) (by simp only[BW,lA,qB]) (λc h=>by cases h) ?_
  dsimp only[aq]
  refine oF 0 (.int .i64 (i:Nat)) (by simp only[BW]) ?_
  dsimp only[aq]
  refine oF 14 (.vp (iG c)) (by simp only[BW,qB,sD]) ?_
  dsimp only[aq]
  refine oF 30 (.vp (iG c)) (by simp only[BW,nY,iW]) ?_
  dsimp only[aq]
  refine oL 62 (.agg (aL c.1)) (by simp only[BW,zo8]) (λc h=>by cases h) ?_
  dsimp only[aq]
  refine oH 126 128 (.int .i64 z1) (by simp only[BW,v1]) (λc h=>by cases h) (by kernel_rfl) ?_
  dsimp only[aq]
  refine oF 255 (.int .i64 (IntKind.i64.wrap (s+z1))) (by simp only[BW,jO]) ?_
  dsimp only[aq]
  refine oF 0 (.ptr bs.length 0) (by simp only[BW,gx]) ?_
  dsimp only[aq]
  refine oL 512 (zZ p.nl p.l) (by simp only[BW,lA,qB]) (λc h=>by rw[mF.1 h];exact⟨rfl,rfl,rfl⟩) ?_
  dsimp only[aq]
  refine oF 0 (.int .i64 (i:Nat)) (by simp only[BW]) ?_
  dsimp only[aq]
  refine oF 3584 (.vp (iG c)) (by simp only[BW,qB,sD]) ?_
  dsimp only[aq]
  refine oF 7680 (.vp (aL c.2.2)) (by simp only[BW,nY,zjK]) ?_
  dsimp only[aq]
  refine oL 15872 (.agg (aL c.2.2)) (by simp only[BW,Ra]) (λc h=>by rw[mF.1 h];exact⟨rfl,rfl,rfl⟩) ?_
  dsimp only[aq]
  refine oH 32510 32896 (.int .i64 z2) (by simp only[BW,v2]) (λc h=>by rw[mF.1 h];kernel_rfl) (by kernel_rfl) ?_
  dsimp only[aq]
  refine oF 65535 (.int .i64 (IntKind.i64.wrap (IntKind.i64.wrap (s+z1)+z2))) (by simp only[BW,jO]) ?_
  dsimp only[aq]
  refine oF 131071 (.int .i64 (IntKind.i64.wrap (IntKind.i64.wrap (s+z1)+z2))) (by simp only[BW]) wI
  simp only[aq];simp only[BW];refine rg ?_;simp only[BW,zQ (show i<2 ^ 60 by omega),<- DS]
  exact⟨m - 1,by omega,i+1,_,by omega,rfl,fZ rfl⟩
 ·obtain rfl:i=p.l.length:=by omega
  refine .inr ⟨by simp,?_⟩
  rw[Dh];have Il:sq p=false->¬500<eg 0 p.l/\¬(16:Int)<p.a.2.length:=λh=>by
   simp only[sq,c_,HN,decide_eq_false_iff_not] at h;exact h
  have oG:∀f:F,∀e,rY k prog gl 14 [zZ p.nl p.l] (.br [fv f,e])->∀H,Cx.bD ⟨prog,gl.g,zk prog gl n,nU⟩ 14 [zZ p.nl p.l] H=some (.val (.br [fv f,e]),H):=λf e h=>wh func14 rfl (h n (by omega))
  have n8:∀f:F,∀v,rY k prog gl 30 [fv f,rv p.a] v->∀H,Cx.bD ⟨prog,gl.g,zk prog gl n,nU⟩ 30 [fv f,rv p.a] H=some (.val v,H):=λf v h=>wh func30 rfl (h n (by omega))
  have qI:∀t o,aW (V.ec t (.obj o))=.ec t (.obj o):=λ_ _=>rfl;have qN:aW V.bT=.bT:=rfl;have tI:∀t o env s,qE env s (some (.ec t (.obj o)))=some (.ec t (.obj o),env):=λ_ _ _ _=>rfl;have tN:∀env s,qE env s (some V.bT)=some (.bT,env):=λ_ _=>rfl;have tS:∀vs env s,qE env s (some (.sl 2 vs .no))=some (.sl 2 vs .no,env):=λ_ _ _=>rfl;have hz:(V.agg zF).cells=zF:=rfl
  have R7:∀g f,zl prog ⟨bs++[.cells (jb p) 60,.cells (fc f) 30],[]⟩ g 28 (.ptr bs.length 1)=some (rv p.a):=λg f=>BX gU;refine rg ?_;cases hR with
  | big h =>
   by_cases a1:500<eg 0 p.l
   ·simp only[BW,gt_iff_lt,a1];refine rg ?_;simp only[BW];exact Gc rfl rfl ⟨rfl,_,rfl⟩
   ·have a2:(16:Int)<p.a.2.length:=by
     simp only[sq,c_,a1,decide_false,z_,decide_eq_true_eq] at h;exact h
    simp only[BW,gt_iff_lt,a1,gx,lB,bM,jZ,a2];refine rg ?_;simp only[BW];exact Gc rfl rfl ⟨rfl,_,rfl⟩
  | ref h f t o BZ =>
   obtain⟨a1,a2⟩:=Il h;have Nh:=oG f _ BZ;simp only[BW,gt_iff_lt,a1,gx,lB,bM,jZ,a2];refine rg ?_;simp only[BW,gx,lA,qB,Nh,ew,Nf,qI,Jl,zL (show dD (.agg zF)=true from rfl),hz,OK,Vb];refine rg ?_;simp only[BW,zrl,qI];refine rg ?_
   simp only[BW];exact Gc rfl rfl ⟨rfl,_,rfl⟩
  | bad h f t o BZ Dc =>
   obtain⟨a1,a2⟩:=Il h;have Nh:=oG f _ BZ;have OT:=n8 f _ Dc;simp only[BW,gt_iff_lt,a1,gx,lB,bM,jZ,a2];refine rg ?_;simp only[BW,gx,lA,qB,Nh,ew,Nf,qN,Jl,zL (show dD (.agg zF)=true from rfl),hz,OK,Vb];refine rg ?_
   simp only[BW,zp2,qN];refine rg ?_;simp only[BW,zp3,gx,R7,Nf,bM,OT,ew,qI];refine qY (tk:=[]) (by kernel_rfl) (by kernel_rfl) ?_
   simp only[BW,zrm,qI];exact Gc rfl rfl ⟨rfl,_,rfl⟩
  | go h f vs ht BZ Dc hl =>
   obtain⟨a1,a2⟩:=Il h;have Nh:=oG f _ BZ;have OT:=n8 f _ Dc;simp only[BW,gt_iff_lt,a1,gx,lB,bM,jZ,a2];refine rg ?_;simp only[BW,gx,lA,qB,Nh,ew,Nf,qN,Jl,zL (show dD (.agg zF)=true from rfl),hz,OK,Vb];refine rg ?_
   simp only[BW,zp2,qN];refine rg ?_;simp only[BW,zp3,gx,R7,Nf,bM,OT,ew,qN];refine qY (tk:=[]) (by kernel_rfl) (by kernel_rfl) ?_
   simp only[BW,zqT,qN,tS,gU,gx,R7,bM,jZ,Va,hl,beq_self_eq_true];exact Gc rfl rfl ⟨rfl,_,rfl⟩
end
section
open Go Go.Vm Go.Vm.Sx
set_option maxHeartbeats 2000000
variable{gl:Gl}{fj:bL}
theorem R8(hg:GK gl fj)(h71:fj.any (Nat.beq 71)=false)(A9:fj.any (Nat.beq 25)=false)(p:A8)(hp:BY p){k:Nat}(hb:sq p=false)(f:F)(T:Nat->aC)(bk:List aT)(hT:0<aI (T 2))(BZ:rY k prog gl 14 [zZ p.nl p.l] (.br [fv f,.bT]))
  (Dc:∀n,k<=n->∀H,zk prog gl n 30 [fv f,rv p.a] H=some (.ret (.br [.sl 2 (T H.au.length) .no,.bT]),⟨H.au++bk,H.bC⟩)) (hl:∀m,(T m).length=p.a.2.length):∃n,zk prog gl n 25 [.agg (jb p)] ⟨[],[]⟩=some (.ret (.br [.sl 2 (T 2) .no,.bool true]),⟨.cells (jb p) 60::.cells (fc f) 30::bk,[]⟩):=by
 have OH:=fm;have Ie:=hp.Cm
 have WQ:=hp.a.1;obtain⟨K,hK⟩:=zo9 p.l;obtain⟨n,hn⟩:∃n,p.l.length+K+k+10<=n:=⟨_,dB _⟩
 suffices bK:∀bs,go ⟨prog,gl,zk prog gl n,nU⟩ n (Fx prog f25.results.toList λw H1=>w=.br [.sl 2 (T (bs.length+2)) .no,.bool true]/\H1=⟨bs++(.cells (jb p) 60::.cells (fc f) 30::bk),[]⟩) [.c (f25.body.getD .skip)] .normal ⟨[.agg (jb p)]++List.replicate (f25.ntmps - 1) (.br []),⟨bs,[]⟩,[],[]⟩ by
  obtain⟨w,H1,h0,rfl,rfl⟩:=zJ (bs:=[]) (es:=[]) (hg.no 25 A9 _) (λH=>hg.h2 25 A9 n _ H) func25 rfl (by rw[show gl.uq=nU from funext hg.uq];exact bK [])
  refine⟨n+1,h0.trans (congrArg (λx=>some (Out.ret _,x)) ?_)⟩;rw[show zX ([]:List aT).length [] _ _=_ from vZ (by simp only[V.top,aI,List.length_nil,nI] at hT ⊢;omega)]
  rfl
 intro bs;have lA:∀g,zl prog ⟨bs++[.cells (jb p) 60],[]⟩ g 24 (.ptr bs.length 0)=some (zZ p.nl p.l):=λg=>E0 KI;have lB:∀g,zl prog ⟨bs++[.cells (jb p) 60],[]⟩ g 28 (.ptr bs.length 1)=some (rv p.a):=λg=>E0 gU;simp only[f25,ga,zh];refine rg ?_;simp only[BW,List.replicate,qc (zgb p),zcx];refine rg ?_
 simp only[BW];refine rg ?_;simp only[BW];refine qd (λm st=>∃i env,m+i=p.l.length/\st=⟨env,⟨bs++[.cells (jb p) 60],[]⟩,[],[]⟩/\Ks 67 [(1,.ptr bs.length 0),(2,.aG),(3,.bool false),(4,.int .i64 (eg 0 (p.l.take i))),(5,.int .i64 (i:Nat))] env) p.l.length (by omega) ⟨0,_,rfl,rfl,fZ rfl⟩ ?_
 rintro m st ⟨i,env,tU,rfl,⟨j,rfl⟩⟩;simp only[sh,pV,Nat.reduceBEq,Nat.reduceAdd,mh,nD];simp only[zh];refine rg ?_;simp only[BW,qh,gx,lA,qB,yw]
 by_cases hi:i<p.l.length
 ·refine .inl ⟨by simp;omega,?_⟩
  obtain⟨c,hc⟩:∃c,p.l[i]?=some c:=⟨p.l[i],by simp[hi]⟩
  have pH:=m8 hc;obtain⟨w1,w2⟩:=hp.wf c pH;obtain⟨k1,k2⟩:=hK c pH;have R6:∀e,Wf e->Go.Proofs.YthohlnmcjkjeiaaGreatDoor.hg e<=K->∀H,Cx.bD ⟨prog,gl.g,zk prog gl n,nU⟩ 71 [.agg (aL e),.int .i64 0] H=some (.val (.int .i64 (dP e 0)),H):=λe w k=>by
   rw[<- qz];exact wh func71 rfl (ZR hg h71 e w 0 n (by omega))
  have v1:=R6 c.1 w1 k1;have v2:=R6 c.2.2 w2 k2;have DS:eg 0 (p.l.take (i+1))=IntKind.i64.wrap (IntKind.i64.wrap (eg 0 (p.l.take i)+dP c.1 0)+dP c.2.2 0):=by
   rw[List.take_add_one,hc];exact n6 _ _ _
  generalize eg 0 (p.l.take i)=s at DS ⊢;generalize dP c.1 0=z1 at v1 DS;generalize dP c.2.2 0=z2 at v2 DS;have sD:=UH (nl:=p.nl) hc;refine wH (tk:=[]) (by kernel_rfl) ?_
  apply Exists.intro;apply And.intro;refine oF 0 (.int .i64 s) (by simp only[BW]) ?_
  dsimp only[aq]
  refine oF 0 (.ptr bs.length 0) (by simp only[BW,gx]) ?_
  dsimp only[aq]
  refine oL 2 (zZ p.nl p.l) (by simp only[BW,lA,qB]) (λc h=>by cases h) ?_
  dsimp only[aq]
  refine oF 0 (.int .i64 (i:Nat)) (by simp only[BW]) ?_
  dsimp only[aq]
  refine oF 14 (.vp (iG c)) (by simp only[BW,qB,sD]) ?_
  dsimp only[aq]
  refine oF 30 (.vp (iG c)) (by simp only[BW,nY,iW]) ?_
  dsimp only[aq]
  refine oL 62 (.agg (aL c.1)) (by simp only[BW,zo8]) (λc h=>by cases h) ?_
  dsimp only[aq]
  refine oH 126 128 (.int .i64 z1) (by simp only[BW,v1]) (λc h=>by cases h) (by kernel_rfl) ?_
  dsimp only[aq]
  refine oF 255 (.int .i64 (IntKind.i64.wrap (s+z1))) (by simp only[BW,jO]) ?_
  dsimp only[aq]
  refine oF 0 (.ptr bs.length 0) (by simp only[BW,gx]) ?_
  dsimp only[aq]
  refine oL 512 (zZ p.nl p.l) (by simp only[BW,lA,qB]) (λc h=>by rw[mF.1 h];exact⟨rfl,rfl,rfl⟩) ?_
  dsimp only[aq]
  refine oF 0 (.int .i64 (i:Nat)) (by simp only[BW]) ?_
  dsimp only[aq]
  refine oF 3584 (.vp (iG c)) (by simp only[BW,qB,sD]) ?_
  dsimp only[aq]
  refine oF 7680 (.vp (aL c.2.2)) (by simp only[BW,nY,zjK]) ?_
  dsimp only[aq]
  refine oL 15872 (.agg (aL c.2.2)) (by simp only[BW,Ra]) (λc h=>by rw[mF.1 h];exact⟨rfl,rfl,rfl⟩) ?_
  dsimp only[aq]
  refine oH 32510 32896 (.int .i64 z2) (by simp only[BW,v2]) (λc h=>by rw[mF.1 h];kernel_rfl) (by kernel_rfl) ?_
  dsimp only[aq]
  refine oF 65535 (.int .i64 (IntKind.i64.wrap (IntKind.i64.wrap (s+z1)+z2))) (by simp only[BW,jO]) ?_
  dsimp only[aq]
  refine oF 131071 (.int .i64 (IntKind.i64.wrap (IntKind.i64.wrap (s+z1)+z2))) (by simp only[BW]) wI
  simp only[aq];simp only[BW];refine rg ?_;simp only[BW,zQ (show i<2 ^ 60 by omega),<- DS]
  exact⟨m - 1,by omega,i+1,_,by omega,rfl,fZ rfl⟩
 ·obtain rfl:i=p.l.length:=by omega
  refine .inr ⟨by simp,?_⟩
  rw[Dh];obtain⟨a1,a2⟩:¬500<eg 0 p.l/\¬(16:Int)<p.a.2.length:=by
   simp only[sq,c_,HN,decide_eq_false_iff_not] at hb;exact hb
  have Nh:∀H,Cx.bD ⟨prog,gl.g,zk prog gl n,nU⟩ 14 [zZ p.nl p.l] H=some (.val (.br [fv f,.bT]),H):=wh func14 rfl (BZ n (by omega))
  have OT:Cx.bD ⟨prog,gl.g,zk prog gl n,nU⟩ 30 [fv f,rv p.a] ⟨bs++[.cells (jb p) 60,.cells (fc f) 30],[]⟩=some (.val (.br [.sl 2 (T (bs.length+2)) .no,.bT]),⟨bs++(.cells (jb p) 60::.cells (fc f) 30::bk),[]⟩):=by
   have:Cx.bD ⟨prog,gl.g,zk prog gl n,nU⟩ 30 [fv f,rv p.a] ⟨bs++[.cells (jb p) 60,.cells (fc f) 30],[]⟩=some (.val (.br [.sl 2 (T (bs++[aT.cells (jb p) 60,.cells (fc f) 30]).length) .no,.bT]),⟨(bs++[.cells (jb p) 60,.cells (fc f) 30])++bk,[]⟩):=zq func30 rfl (Dc n (by omega) _)
   simpa using this
  have qN:aW V.bT=.bT:=rfl;have tN:∀env s,qE env s (some V.bT)=some (.bT,env):=λ_ _=>rfl;have tS:∀vs env s,qE env s (some (.sl 2 vs .no))=some (.sl 2 vs .no,env):=λ_ _ _=>rfl;have hz:(V.agg zF).cells=zF:=rfl;have R7:∀g f,zl prog ⟨bs++[.cells (jb p) 60,.cells (fc f) 30],[]⟩ g 28 (.ptr bs.length 1)=some (rv p.a):=λg f=>BX gU
  have lB2:∀g r,zl prog ⟨bs++(.cells (jb p) 60::r),[]⟩ g 28 (.ptr bs.length 1)=some (rv p.a):=λg r=>zu (cs:=jb p) (ty:=60) gU (by show nth _ _=_;rw[zg,eM (dB _)];simp) rfl
  generalize hTT:T (bs.length+2)=TT at OT ⊢;have Dq:TT.length=p.a.2.length:=by rw[<- hTT];exact hl _
  refine rg ?_;simp only[BW,gt_iff_lt,a1,gx,lB,bM,jZ,a2];refine rg ?_;simp only[BW,gx,lA,qB,Nh,ew,Nf,qN,Jl,zL (show dD (.agg zF)=true from rfl),hz,OK,Vb];refine rg ?_;simp only[BW,zp2,qN];refine rg ?_
  simp only[BW,zp3,gx,R7,Nf,bM,OT,ew,qN];refine qY (tk:=[]) (by kernel_rfl) (by kernel_rfl) ?_
  simp only[BW,zqT,qN,tS,gU,gx,lB2,bM,jZ,Va,Dq,beq_self_eq_true];exact Gc rfl rfl ⟨rfl,rfl⟩
end
section
open Go Go.Vm Go.Vm.Sx
set_option maxHeartbeats 1000000
variable{gl:Gl}{fj:bL}
theorem Ni:prog.underlying 78=some (.slice 5):=by kernel_rfl
theorem aaj:qC prog 5=some false:=by kernel_rfl
theorem aak:z8 prog 5=some 1:=by kernel_rfl
theorem zoq{H:Hp}{p:cO}:qV prog H 78 (C8 p)=some (p.2.length:Int):=by
 unfold C8;rcases cJ 1 p.1 (p.2.map be) with h|⟨h0,h⟩<;>rw[h]
 ·simp[qV]
 ·simp only[List.map_eq_nil_iff] at h0;simp[qV,h0]
theorem zor{p:cO}{i:Nat}{b:Int}(h:p.2[i]?=some b):zp prog 78 (C8 p) (i:Int)=some (.vp [.int .u8 b]):=by
 have hk:¬((i:Int)<0):=by omega
 have hn:nth (p.2.map be) i=some (be b):=by rw[zg,gj,h];rfl
 have b_:C8 p=.sl 1 (p.2.map be) .no:=by
  unfold C8;rcases cJ 1 p.1 (p.2.map be) with h'|⟨h0,_⟩
  ·exact h'
  ·simp only[List.map_eq_nil_iff] at h0;rw[h0] at h;simp at h
 rw[b_];simp[zp,aak,hk,hn,V.cells,be]
theorem zrn{H:Hp}{g:Nat->Nat->bY}{z:Int}:zl prog H g 5 (.vp [.int .u8 z])=some (.int .u8 z):=by
 simp[zl,qu,aaj,nth,wV]
theorem zpa{bs:List aT}{es:aN}{d:D}{g:Nat->Nat->bY}:zl prog ⟨bs++[.cells [rv d.1,iv d.2] 66],es⟩ g 66 (.ptr bs.length 0)=some (rK d):=by
 rw[je KB Gp OJ (by simp)];rfl
theorem zmE(d:D):aW (rK d)=rK d:=by simp[rK,qU]
theorem KK:qC prog 37=some false:=by kernel_rfl
theorem aal(hg:GK gl fj)(Vc:fj.any (Nat.beq 27)=false)(h33:fj.any (Nat.beq 33)=false)(R9:gl.g 0 0=some C9)(d:D)(hd:WD d)(t:cO)(ht:t.2.length<2 ^ 60)(hb:∀b∈t.2,0<=b/\b<256):Kn prog gl 33 [rK d,C8 t] (Gf d t.2):=by
 have hr:=fm;have dy:(Gf d t.2).top=0:=by unfold Gf;cases pz (rowsOf d.1) d.2.2<;>rfl
 refine⟨_,yM hg func33 rfl h33 dy (d.1.2.length+t.2.length+300) λn hn bs=>?_⟩;have ML:∀H,Cx.bD ⟨prog,gl.g,zk prog gl n,nU⟩ 27 [rK d] H=some (.val (.bool (pz (rowsOf d.1) d.2.2)),H):=wh func27 rfl (M5 hg Vc d hd n (by omega))
 simp only[f33,zh];refine rg ?_;simp only[BW,Nat.reduceAdd,List.replicate,zmw,qc (zmv d),zhA];refine rg ?_;unfold Gf;cases hm:pz (rowsOf d.1) d.2.2 with
 | false =>
  rw[hm] at ML;simp only[BW,zpa,zmE,ML,iI];refine qY (tk:=[]) (by kernel_rfl) (by kernel_rfl) ?_
  have OU:∀H,zl prog H gl.g 37 (.eN 0 0)=some C9:=λH=>by simp[zl,KK,R9]
  simp only[BW,OU,KK,show aW C9=C9 from rfl,show ∀env t,qE env t (some C9)=some (C9,env) from λ_ _=>rfl];exact Gc rfl rfl ⟨rfl,_,rfl⟩
 | true =>
  rw[hm] at ML;simp only[BW,zpa,zmE,ML,iI];refine rg ?_;simp only[BW];refine rg ?_;simp only[BW,zoq,zmn];have hmg:=(Y9 hm).2;have h1:=(Y9 hm).1.1;rw[eB] at h1
  refine qd (λm st=>∃i env,m+i=t.2.length/\st=⟨env,⟨bs++[.cells [rv d.1,iv d.2] 66],[]⟩,[],[]⟩/\Ks 29 [(2,.ptr bs.length 0),(6,.int .i64 (Hs (rowsOf d.1) 0 (t.2.take i))),(13,C8 t),(14,.int .i64 (t.2.length:Nat)),(15,.int .i64 (i:Nat))] env) t.2.length (by omega) ⟨0,_,rfl,rfl,fZ rfl⟩ ?_
  rintro m st ⟨i,env,tU,rfl,⟨j,rfl⟩⟩;simp only[sh,pV,Nat.reduceBEq,Nat.reduceAdd,mh,nD];simp only[zh];refine rg ?_;simp only[BW,qh]
  by_cases hi:i<t.2.length
  ·refine .inl ⟨by simp;omega,?_⟩
   obtain⟨b,R_⟩:∃b,t.2[i]?=some b:=⟨t.2[i],by simp[hi]⟩
   have OV:=hb b (m8 R_);obtain⟨r0,r1⟩:=zjw hm (t:=t.2.take i) (s:=0) (λc hc=>hb c (Cw hc)) (by omega) (by rw[eB];omega)
   have DS:Hs (rowsOf d.1) 0 (t.2.take (i+1))=gi (gr (rowsOf d.1) (Hs (rowsOf d.1) 0 (t.2.take i)).toNat) b.toNat:=by
    rw[List.take_add_one,R_];exact ze1
   rw[eB] at r1;generalize Hs (rowsOf d.1) 0 (t.2.take i)=s at r0 r1 DS;obtain⟨s,rfl⟩:∃k:Nat,s=k:=⟨s.toNat,by omega⟩
   obtain⟨b,rfl⟩:∃k:Nat,b=k:=⟨b.toNat,by omega⟩
   rw[y_,y_] at DS;obtain⟨q,hq⟩:∃q,d.1.2[s]?=some q:=⟨d.1.2[s]'(by omega),by simp[show s<d.1.2.length by omega]⟩
   have OE:gr (rowsOf d.1) s=q.2:=pq hq;have KD:=(hmg s (by rw[eB];omega)).1
   rw[OE] at DS KD;have M7:=vw (p:=q) (i:=b) (by omega)
   refine rg ?_;simp only[BW,zmn,zor R_,zrn];refine rg ?_;simp only[BW,mR,E0 gU,bM,UZ hq,KC,bH,M7,xJ];refine rg ?_;simp only[BW,zQ (show i<2 ^ 60 by omega)]
   refine⟨m - 1,by omega,i+1,_,by omega,rfl,?_⟩
   rw[DS];exact fZ rfl
  ·obtain rfl:i=t.2.length:=by omega
   refine .inr ⟨by simp,?_⟩
   refine rg ?_;simp only[BW,Dh];exact Gc rfl rfl ⟨rfl,_,rfl⟩
end
section
open Go Go.Vm Go.Vm.Sx
end
section
open Go Go.Vm Go.Vm.Sx
set_option maxHeartbeats 2000000
variable{gl:Gl}{fj:bL}
theorem Sa:qC prog 60=some true:=by kernel_rfl
theorem Sb:z8 prog 60=some 3:=by kernel_rfl
theorem zro{bs:List aT}{es:aN}{g:Nat->Nat->bY}{p:A8}:zl prog ⟨bs++[.cells (jb p) 60],es⟩ g 60 (.ptr bs.length 0)=some (.agg (jb p)):=by
 rw[je Sa Sb OJ (by simp[jb])];rfl
theorem zjL(p:A8):aW (.agg (jb p))=.agg (jb p):=by simp[jb,qU]
section
variable{bs:List aT}{es:aN}{env:aC}{df:bP}{x y:aT}{g:Nat->Nat->bY}{t:aB}{off:Nat}
end
end
end Go.Proofs.YthohlnmcjkjeiaaGreatDoor.A2
namespace Go.Proofs.YthohlnmcjkjeiaaGreatDoor
open Go.Proofs.Tryz
set_option maxRecDepth 100000
open Go Go.Vm
variable{gl:Gl}
theorem EH:prog.underlying 27=some (.slice 3):=by kernel_rfl
theorem Sc:z8 prog 27=some 1:=by kernel_rfl
theorem B7:qC prog 27=some false:=by kernel_rfl
theorem ziA{H:Hp}{p:A2.cO}:qV prog H 27 (A2.iv p)=some ((p.2.length:Nat):Int):=by
 rcases Sx.cJ 1 p.1 (p.2.map A2.ie) with e|⟨e0,e⟩
 ·simp[A2.iv,e,qV]
 ·have:p.2=[]:=by simpa using e0
  rw[A2.iv,e,this];simp[qV]
theorem zmF{sz:Nat}{nl:Bool}{l:aC}{k:Nat}{v:V}(h:l[k]?=some v):Sx.lv sz nl l=.sl sz l .no:=by
 rcases Sx.cJ sz nl l with e|⟨e0,e⟩
 ·exact e
 ·rw[e0] at h;simp at h
theorem ziB{p:A2.cO}{k:Nat}{z:Int}(h:p.2[k]?=some z):zp prog 27 (A2.iv p) ((k:Nat):Int)=some (.vp [.int .i64 z]):=by
 have hn:(p.2.map A2.ie)[k]?=some (A2.ie z):=by rw[gj,h];rfl
 rw[A2.iv,zmF hn];simp only[zp,EH,uA,y_,zg,hn];simp[A2.ie,V.cells]
theorem zmG{H:Hp}{z:Int}:zl prog H gl.g 3 (.vp [.int .i64 z])=some (.int .i64 z):=by
 simp[zl,k_,kT,zg]
theorem Vd{p:A2.gZ}{k:Nat}{r:A2.cO}(h:p.2[k]?=some r):zp prog 28 (A2.rv p) ((k:Nat):Int)=some (.vp [A2.iv r]):=by
 have hn:(p.2.map A2.iv)[k]?=some (A2.iv r):=by rw[gj,h];rfl
 have hc:(A2.iv r).cells=[A2.iv r]:=by
  rcases Sx.cJ 1 r.1 (r.2.map A2.ie) with e|⟨_,e⟩<;>rw[A2.iv,e]<;>rfl
 rw[A2.rv,zmF hn];simp only[zp,Na,Sc,y_,zg,hn,hc];simp
theorem Ve{H:Hp}{r:A2.cO}:zl prog H gl.g 27 (.vp [A2.iv r])=some (A2.iv r):=by
 simp[zl,B7,kT,zg]
def wW(l:List Int)(q:Nat):Nat:=l.foldl (λq n=>q ||| 2 ^ n.toNat) q
def qi(rows:List A2.cO)(l:List Int)(q:Nat):Nat:=l.foldl (λq r=>wW ((rows[r.toNat]?).map (·.2) |>.getD []) q) q
theorem zd9{l:List Int}{z:Int}{q:Nat}:wW (l++[z]) q=wW l q ||| 2 ^ z.toNat:=by simp[wW]
theorem zge{rows:List A2.cO}{l:List Int}{r:Int}{row:A2.cO}{q:Nat}(h:rows[r.toNat]?=some row):qi rows (l++[r]) q=wW row.2 (qi rows l q):=by
 simp[qi,h]
theorem zkL(hg:GS gl){n bm m:Nat}{f:A2.F}{act:A2.cO}{tM:aB}{mc:aC}(oS:f.s.2.length<2 ^ 36)(hnf:f.f.2.length<2 ^ 36)(Io:m=(f.s.2.length+f.f.2.length) / 8+1)
  (ha:∀r∈act.2,0<=r/\r.toNat<f.f.2.length) (hr:∀row∈f.f.2,row.2.length<n+1/\row.2.length<2 ^ 60/\∀z∈row.2,0<=z/\z.toNat<f.s.2.length+f.f.2.length) (han:act.2.length<n+1) (sM:act.2.length<2 ^ 60) {bs:List aT} {es:aN}
  (hM:nth bs bm=some (.cells mc tM)) (DP:nth mc 0=some (A2.qv f.s)) (U7:nth mc 2=some (A2.rv f.f)) :
  zk prog gl (n+1+1) 113 [.ptr bm 0,A2.iv act] ⟨bs,es⟩=some (.ret (cH m bs.length),⟨bs++[.cells (dR m (qi f.f.2 act.2 0)) 5],es⟩):=by
 have Ci:bm<bs.length:=by rw[zg] at hM;exact(cP.1 hM).1
 suffices bK:(go ⟨prog,gl,zk prog gl (n+1),eC⟩ (n+1) (Fx prog f113.results.toList λw H1=>w=cH m bs.length/\H1=⟨bs++[.cells (dR m (qi f.f.2 act.2 0)) 5],[]⟩) [.c (f113.body.getD .skip)] .normal ⟨[.ptr bm 0,A2.iv act]++List.replicate 47 (.br []),⟨bs,[]⟩,[],[]⟩) by
  obtain⟨w,H1,h0,rfl,rfl⟩:=zJ (gl:=gl) (f:=113) (bs:=bs) (es:=es) (args:=[.ptr bm 0,A2.iv act]) (n:=n+1) (hg.hk _ _ (by decide)) (λH=>hg.eV _ _ _ _ (by decide)) func113 rfl (by rw[hg.uq];exact bK)
  rw[h0,vZ (by simp only[V.top,cH];omega)]
  rfl
 let Hz:Nat->Hp:=λq=>⟨bs++[.cells (dR m q) 5],[]⟩
 have gM:∀q,(Hz q).get bm=some (.cells mc tM):=λq=>by
  show nth _ _=_;rw[zg,fI Ci,<- zg,hM]
 have lS0:zl prog ⟨bs,[]⟩ gl.g 26 (.ptr bm 0)=some (A2.qv f.s):=zu nj hM DP;have lF0:zl prog ⟨bs,[]⟩ gl.g 28 (.ptr bm 2)=some (A2.rv f.f):=zu oK hM U7;have lF:∀q,zl prog (Hz q) gl.g 28 (.ptr bm 2)=some (A2.rv f.f):=λq=>zu oK (gM q) U7
 have Ac:Cx.bD ⟨prog,gl.g,zk prog gl (n+1),eC⟩ 108 [.int .i64 ((f.s.2.length+f.f.2.length:Nat):Int)] ⟨bs,[]⟩=some (.val (cH m bs.length),Hz 0):=by
  refine zq func108 rfl ?_;have:=xr hg (n:=n) (k:=f.s.2.length+f.f.2.length) (by omega) (bs:=bs) (es:=[])
  rw[<- Io] at this;exact this
 have ov:∀q (z:Int),0<=z->z.toNat<f.s.2.length+f.f.2.length->Cx.bD ⟨prog,gl.g,zk prog gl (n+1),eC⟩ 109 [cH m bs.length,A2.ie z] (Hz q)=some (.val (.br []),Hz (q ||| 2 ^ z.toNat)):=λq z h0 h1=>by
  refine zq func109 rfl ?_;have:=ZT hg (n:=n) (k:=z.toNat) (m:=m) (p:=q) (b:=bs.length) (by omega) (by omega) (bs:=bs++[.cells (dR m q) 5]) (es:=[]) (by rw[zg,eM (dB _)];simp)
  rw[show((z.toNat:Nat):Int)=z by omega] at this
  refine this.trans ?_;simp[Hz]
 have nk:∀c,aW (cH m c)=cH m c:=λ_=>rfl;have fe:∀c env t,qE env t (some (cH m c))=some (cH m c,env):=λ_ _ _=>rfl;simp only[f113,ga,zh];refine zi ?_;simp only[BA,aj,aq,bS,bU,List.replicate]
 refine qY (tk:=[]) (by kernel_rfl) (by kernel_rfl) ?_
 simp only[BA,az,ak,aq,aa,ah,aA,av,zd,ze,bS,bU,lS0,lF0,nj,oK,mz,m5,AG,A2.eA,A2.bM,xK,RY,xq (show f.s.2.length+f.f.2.length<2 ^ 60 by omega),Ac,fe]
 refine zi ?_;simp only[BA,ak,aj,aq,zd,ze,bS,bU,A2.bH,ziA]
 refine qd (λk s=>∃i env,k+i=act.2.length/\s=⟨env,Hz (qi f.f.2 (act.2.take i) 0),[],[]⟩/\env.length=49/\nth env 0=some (.ptr bm 0)/\nth env 5=some (cH m bs.length)/\nth env 24=some (A2.iv act)/\nth env 25=some (.int .i64 (act.2.length:Nat))/\nth env 26=some (.int .i64 (i:Nat))) act.2.length han ⟨0,_,rfl,rfl,rfl,rfl,rfl,rfl,rfl,rfl⟩ ?_;rintro k s ⟨i,env,hki,rfl,hlen,h0,h5,DT,A9,rL⟩
 simp only[zh];refine zi ?_;simp only[BA,ak,aq,za,Nat.reduceLT,A9,rL,hlen,qT]
 by_cases hi:i<act.2.length
 ·refine .inl ⟨by simp;omega,?_⟩
  obtain⟨r,rR⟩:∃r,act.2[i]?=some r:=⟨_,fQ hi⟩;obtain⟨hr0,oY⟩:=ha r (m8 rR);obtain⟨row,bZ⟩:∃row,f.f.2[r.toNat]?=some row:=⟨_,fQ oY⟩;obtain⟨uf,Dq,hz⟩:=hr row (m8 bZ);have N5:((r.toNat:Nat):Int)=r:=by omega
  have sD:zp prog 28 (A2.rv f.f) r=some (.vp [A2.iv row]):=by
   have:=Vd bZ
   rwa [N5] at this
  have mH:act.2.take (i+1)=act.2.take i++[r]:=by rw[List.take_add_one,rR];rfl
  refine zi ?_;simp only[BA,Nat.reduceEqDiff,ak,aq,aE,za,bG,Nat.reduceLT,bz,DT,rL,hlen,A2.bH,ziB rR,zmG];refine zi ?_
  simp only[BA,Nat.reduceEqDiff,ak,aj,aq,aa,ah,aE,za,bG,Nat.reduceLT,bz,h0,hlen,lF,mz,AG,A2.bM,A2.bH,sD,Ve,ziA]
  refine qd (λk2 s=>∃j env,k2+j=row.2.length/\s=⟨env,Hz (wW (row.2.take j) (qi f.f.2 (act.2.take i) 0)),[],[]⟩/\env.length=49/\nth env 0=some (.ptr bm 0)/\nth env 5=some (cH m bs.length)/\nth env 24=some (A2.iv act)/\nth env 25=some (.int .i64 (act.2.length:Nat))/\nth env 26=some (.int .i64 (i:Nat))/\nth env 37=some (A2.iv row)/\nth env 38=some (.int .i64 (row.2.length:Nat))/\nth env 39=some (.int .i64 (j:Nat))) row.2.length uf ?_ ?_
  ·refine⟨0,_,rfl,rfl,?_,?_,?_,?_,?_,?_,?_,?_,?_⟩<;>simp[za,hlen,h0,h5,DT,A9,rL]
  rintro k2 s ⟨j,bI,hkj,rfl,cK,e0,e5,Sd,Se,Sf,Jm,Jn,Vf⟩;simp only[zh];refine zi ?_;simp only[BA,ak,aq,za,Nat.reduceLT,Jn,Vf,cK,qT]
  by_cases hj:j<row.2.length
  ·refine .inl ⟨by simp;omega,?_⟩
   obtain⟨z,Nj⟩:∃z,row.2[j]?=some z:=⟨_,fQ hj⟩;obtain⟨KF,ET⟩:=hz z (m8 Nj);have Nk:row.2.take (j+1)=row.2.take j++[z]:=by rw[List.take_add_one,Nj];rfl
   have gE:∀q,Cx.bD ⟨prog,gl.g,zk prog gl (n+1),eC⟩ 109 [cH m bs.length,.int .i64 z] (Hz q)=some (.val (.br []),Hz (q ||| 2 ^ z.toNat)):=λq=>ov q z KF ET
   refine zi ?_;simp only[BA,Nat.reduceEqDiff,ak,aq,aE,za,bG,Nat.reduceLT,bz,Jm,Vf,cK,A2.bH,ziB Nj,zmG];refine zi ?_
   simp only[BA,Nat.reduceEqDiff,az,ak,aq,aA,za,bG,Nat.reduceLT,bz,e5,cK,nk,gE];refine zi ?_
   simp only[BA,Nat.reduceEqDiff,ak,aj,aq,za,bG,Nat.reduceLT,bz,Vf,cK,zQ (show j<2 ^ 60 by omega),zr,aO]
   rw[show Hz (wW (row.2.take j) (qi f.f.2 (act.2.take i) 0) ||| 2 ^ z.toNat)=Hz (wW (row.2.take (j+1)) (qi f.f.2 (act.2.take i) 0)) by rw[Nk,zd9]]
   refine⟨row.2.length - 1 - j,by omega,j+1,_,by omega,rfl,?_,?_,?_,?_,?_,?_,?_,?_,?_⟩
   all_goals simp[za,cK,e0,e5,Sd,Se,Sf,Jm,Jn]
  ·refine .inr ⟨by simp;omega,?_⟩
   obtain rfl:j=row.2.length:=by omega
   simp only[ql,zO,zG,zr,bJ,qF,lu,aF]
   refine zi ?_;simp only[BA,Nat.reduceEqDiff,ak,aj,aq,za,bG,Nat.reduceLT,bz,Sf,cK,zQ (show i<2 ^ 60 by omega),zr,aO]
   rw[show Hz (wW (row.2.take row.2.length) (qi f.f.2 (act.2.take i) 0))=Hz (qi f.f.2 (act.2.take (i+1)) 0) by rw[mH,zge bZ,Dh]]
   refine⟨act.2.length - 1 - i,by omega,i+1,_,by omega,rfl,?_,?_,?_,?_,?_,?_⟩
   all_goals simp[za,cK,e0,e5,Sd,Se]
 ·obtain rfl:i=act.2.length:=by omega
  refine .inr ⟨by simp,?_⟩
  simp only[ql,zO,zG,zr,bJ,zh,lu,aF]
  refine zi ?_;simp only[BA,Nat.reduceEqDiff,ak,aq,za,bG,Nat.reduceLT,bz,h5,hlen,nk,fe,go_ret,zr,Fx]
  refine⟨[cH m bs.length],?_,rfl,?_⟩
  ·simp[zy,za,hlen]
  ·simp only[Hz,Dh]
end Go.Proofs.YthohlnmcjkjeiaaGreatDoor
namespace Go.Vm
set_option maxRecDepth 100000
open Go
variable{cx:Cx}{takes:cg}{dst:fJ}{type:aB}{pos:String}{after:Array Edge}{guard:oP}{env:aC}{H:Hp}{lk:aN}{df:bP}
theorem v4{a b:aB}{x:aX}(hu:cx.uq (vg a)=true)(hm:Nat.beq a b=false):cx.op takes ⟨dst,.convert a b x,type,pos,after,guard⟩ env H lk df=iF env H lk df (Li cx.P H a b (ak env x)):=by
 have hk:yb cx.P a b x env=none:=by
  unfold yb;rw[hm]
 simp only[Cx.op,hk,hu];cases Li cx.P H a b (ak env x)<;>rfl
def Vg(P:aQ)(t:aB)(H:Hp)(ok:Bool):bY->bY->bY
 | some m,some k=>match P.underlying t with
  | some (.map kt e)=>match P.underlying kt with
   | some kd=>match ya kd k with
    | true=>match xd H m with
     | some es=>match NR P e k es with
      | some (v,f)=>some (if ok then .br [aW v,.bool f] else aW v)
      | none=>none
     | none=>none
    | false=>none
   | none=>none
  | _=>none
 | _,_=>none
theorem zcy{t : aB}{m k : aX}{ok : Bool} : cx.op takes ⟨dst, .lookup t m k ok, type, pos, after, guard⟩ env H lk df = iF env H lk df (Vg cx.P t H ok (ak env m) (ak env k)) := by
  simp only[Cx.op];refine vT ?_;simp only[qZ, Vg];cases ak env m with
  | none =>
    cases cx.P.underlying t with
    | none => rfl
    | some d => cases d <;> try rfl
                rename_i kt e;cases hu : cx.P.underlying kt <;> simp
  | some mv =>
    cases cx.P.underlying t with
    | none => cases ak env k <;> rfl
    | some d => cases d <;> try (cases ak env k <;> rfl)
                rename_i kt e;cases ak env k with
                | none => cases hu : cx.P.underlying kt <;> simp
                | some kv =>
                  cases hu : cx.P.underlying kt with
                  | none => simp[hu]
                  | some kd =>
                    simp only[hu, Option.bind_eq_bind, aU];cases ya kd kv with
                    | false => rfl
                    | true =>
                      simp only[mG, f_, bz];cases xd H mv with
                      | none => rfl
                      | some es =>
                        simp only[aU];cases NR cx.P e kv es with
                        | none => rfl
                        | some q => rfl
theorem zea{t:aB}:cx.op takes ⟨dst,.makeMap t none,type,pos,after,guard⟩ env H lk df=some (.val (.map H.au.length),⟨env,H.push (.map []),lk,df⟩):=by
 simp[Cx.op,qn]
theorem zbU{t:aB}{m k x:aX}{b:Nat}{kv xv:V}{es iL:List (V×V)}(h1:ak env m=some (.map b))(h2:ak env k=some kv)(h3:ak env x=some xv)(hk:NQ cx.P t kv=true)(hb:H.get b=some (.map es))(hs:HV kv xv es=some iL)(ht:(V.br [kv,xv]).top<=b+1) :
  cx.op takes ⟨dst,.mapUpdate t m k x,type,pos,after,guard⟩ env H lk df=some (.skip,⟨env,H.set b (.map iL),lk,df⟩):=by
 simp only[Cx.op,h1,h2,h3,hk,mG,f_,bz,qm,hb,hs,eJ,jc];rw[jT ht]
end Go.Vm
namespace Go.Proofs.YthohlnmcjkjeiaaGreatDoor
open Go Go.Vm
open Go.Proofs.Tryz
variable{gl:Gl}
theorem uX:∀{l:bL},(∀b∈l,b<256)->nK (l.map λb=>V.int .u8 (b:Nat))=some l
 | [],_=>rfl
 | b::l,h=>by
  have hb:=h b (eT ..);simp only[a_,nK,uX λx hx=>h x (d_ _ hx),aS]
  congr 2
  simp;omega
theorem Gu:∀{m:Nat}{l:aC},m<=l.length->xc false 1 m l=l.take m
 | 0,_,_=>rfl
 | m+1,[],h=>by simp at h
 | m+1,x::l,h=>by
  simp only[aZ] at h;simp only[xc,uH,iW,x_];rw[Gu (by omega)]
  rfl
theorem xL{H:Hp}{m w c:Nat}(hb:H.get c=some (.cells (dR m w) 5)):Li prog H 205 9 (some (cH m c))=some (.str (rF m w)):=by
 have gE:((dR m w).drop 0).map aW=dR m w:=by
  rw[iW];simp only[dR,List.map_map];exact List.map_congr_left λ_ _=>rfl
 have he:kU prog H 5 (.sr c 0 m m)=some (dR m w):=by
  simp only[kU,hb,Gq,s8,Option.bind_eq_bind,aU,gE];rw[if_pos (by simp[yV,Nat.ble_eq]),Gu (by rw[yV];exact dB _),rM (by rw[yV];exact dB _)]
 simp only[Li,Lh,Jh,cH,he,vB,U3,ZY,Option.bind_eq_bind,aU];rw[dR,uX zpF];rfl
def vf(m:Nat):Nat->bL->List (V×V)
 | _,[]=>[]
 | k,w::ws=>(.str (rF m w),.int .i64 (k:Nat))::vf m (k+1) ws
def ky(w:Nat):Nat->bL->Option Nat
 | _,[]=>none
 | k,x::xs=>if x=w then some k else ky w (k+1) xs
theorem zhG{m p q:Nat}(hp:p<2 ^ (8 * m))(hq:q<2 ^ (8 * m)):JK (.str (rF m p)) (.str (rF m q))=some (q == p):=by
 simp only[JK,zjl hp hq]
 congr 1
 exact Fc.2 ⟨λh=>by simpa using (by simpa using h:p=q).symm,λh=>by simpa using (by simpa using h:q=p).symm⟩
theorem zhH{m w:Nat}(hw:w<2 ^ (8 * m)):∀{ws:bL}{k:Nat},(∀x∈ws,x<2 ^ (8 * m))->JL (.str (rF m w)) (vf m k ws)=some ((ky w k ws).map λi=>.int .i64 (i:Nat))
 | [],_,_=>rfl
 | x::ws,k,h=>by
  simp only[vf,JL,zhG hw (h x (eT ..)),ky]
  by_cases e:x=w
  ·simp[e]
  ·have:(x == w)=false:=by simpa using e
   simp only[this,if_neg e];exact zhH hw λy hy=>h y (d_ _ hy)
theorem zgf{m w:Nat}(hw:w<2 ^ (8 * m)):∀{ws:bL}{k:Nat},(∀x∈ws,x<2 ^ (8 * m))->ky w k ws=none->HV (.str (rF m w)) (.int .i64 ((k+ws.length:Nat):Int)) (vf m k ws)=some (vf m k (ws++[w]))
 | [],_,_,_=>rfl
 | x::ws,k,h,hn=>by
  simp only[ky] at hn;split at hn
  ·cases hn
  ·rename_i e;have:(x == w)=false:=by simpa using e
   simp only[vf,HV,zhG hw (h x (eT ..)),this,aZ,bh];rw[show k+(ws.length+1)=(k+1)+ws.length by omega,zgf hw (λy hy=>h y (d_ _ hy)) hn]
   rfl
theorem zeb{m:Nat}:∀{ws:bL}{k:Nat},(vf m k ws).length=ws.length
 | [],_=>rfl
 | _::ws,k=>by simp[vf,zeb]
theorem Gv:prog.underlying 207=some (.map 9 3):=by kernel_rfl
theorem zec{H:Hp}{m w d:Nat}{ws:bL}(hw:w<2 ^ (8 * m))(DG:∀x∈ws,x<2 ^ (8 * m))(hb:H.get d=some (.map (vf m 0 ws))) :
  Vg prog 207 H true (some (.map d)) (some (.str (rF m w)))=some (.br [.int .i64 (((ky w 0 ws).getD 0:Nat):Int),.bool (ky w 0 ws).isSome]):=by
 simp only[Vg,Gv,U3,ya,xd,hb,NR,zhH hw DG];cases ky w 0 ws with
 | none=>simp[U6,aW]
 | some i=>simp[aW]
theorem zmH{s:bL}:NQ prog 207 (.str s)=true:=by
 simp only[NQ,Gv,U3,ya]
theorem zjO{H:Hp}{d:Nat}{es:List (V×V)}(hb:H.get d=some (.map es)):qV prog H 207 (.map d)=some ((es.length:Nat):Int):=by
 simp only[qV,Gv,hb]
end Go.Proofs.YthohlnmcjkjeiaaGreatDoor
