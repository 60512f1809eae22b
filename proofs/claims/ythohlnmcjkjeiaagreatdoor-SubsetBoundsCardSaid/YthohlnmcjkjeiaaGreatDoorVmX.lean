/- Seat 8, subset: SubsetFewer's law: walked. Conditions: none but those named. -/
import Derived.Test.YthohlnmcjkjeiaaGreatDoorVmE
import Derived.Test.YthohlnmcjkjeiaaGreatDoorVmO
import Derived.Test.YthohlnmcjkjeiaaGreatDoorVmW
namespace Go.Proofs.YthohlnmcjkjeiaaGreatDoor.A2
open Go.Proofs.Tryz
set_option maxRecDepth 100000
set_option maxHeartbeats 2000000
open Go Go.Vm Go.Vm.Sx
variable{gl:Gl}{fK:bO}
theorem aa6:qL prog 66=some (.agg [.aH,.aH]):=by kernel_rfl
theorem zjZ{vs:aG}{i:Nat}{d:D}(h:nth vs i=some (oe d)):zt prog 61 (.sl 2 vs .no) (i:Int)=some (.vp [rv d.1,iv d.2]):=by
 have hk:¬((i:Int)<0):=by omega
 simp[zt,F4,hk,h,oe,V.cells]
section
variable{bs:List bq}{es:aP}{env:aG}{df:bS}{x y:bq}{g:Nat->Nat->cj}{t:aD}{off:Nat}
end
end Go.Proofs.YthohlnmcjkjeiaaGreatDoor.A2
namespace Go.Vm
set_option maxRecDepth 1000000
set_option maxHeartbeats 4000000
def R_(n len:Nat):aG->List (Nat×cj)->Option aG
 | xs,[]=>some xs
 | xs,(i,some v)::r=>if dD v && Nat.beq v.cells.length n && Nat.blt i len then R_ n len (xs.set i v) r else none
 | _,(_,none)::_=>none
def IY(P:aY)(t:aD)(len:Nat)(l:List (Nat×cj)):cj :=
 match P.underlying t with
 | some (.slice e)=>match z4 P e,qL P e with
  | some n,some z=>if Nat.beq n 0 || Nat.blt 16777216 (len * n) || !Nat.beq z.cells.length n || !dD z then none else (R_ n len (List.replicate len z) l).map λxs=>.sl n xs (.yes e)
  | _,_=>none
 | _=>none
theorem znf{n len:Nat}{env:aG}:∀(l:List (Nat×a_))(xs:aG),CR n len env xs l=R_ n len xs (l.map λp=>(p.1,ak env p.2))
 | [],xs=>rfl
 | (i,x)::r,xs=>by
  simp only[CR,bk];cases hx:ak env x with
  | none=>rfl
  | some v =>
   simp only[R_,Option.bind_eq_bind,aV,ql,eP,znf r]
theorem Sa{cx:Cx}{takes:cw}{dst:fz}{type:aD}{pos:String}{after:Array Edge}{guard:oq}{env:aG}{H:Hp}{lk:aP}{df:bS}{t:aD}{len:Nat}{l:List (Nat×a_)} :
  cx.op takes ⟨dst,.buildSlice t len (List.toArray l),type,pos,after,guard⟩ env H lk df=iy env H lk df (IY cx.P t len (l.map λp=>(p.1,ak env p.2))):=by
 simp only[Cx.op];refine vC ?_;simp only[jc,IY];cases h1:cx.P.underlying t with
 | none=>rfl
 | some d =>
  cases d<;>(try rfl)
  rename_i e;cases h2:z4 cx.P e with
  | none=>simp[h2]
  | some n =>
   cases h3:qL cx.P e with
   | none=>simp[h2,h3]
   | some z =>
    simp only[h2,h3,Option.bind_eq_bind,aV];split
    ·rfl
    ·rw[znf];cases R_ n len (List.replicate len z) (l.map λp=>(p.1,ak env p.2))<;>rfl
end Go.Vm
namespace Go.Proofs.YthohlnmcjkjeiaaGreatDoor.A2
open Go Go.Vm Go.Vm.Sx
open Go.Proofs.Tryz
set_option pp.deepTerms true
variable{gl:Gl}
def GZ(l:List (List Int)):gR:=(true,l.map λa=>(match a with|[]=>(false,[])|a=>(true,a)))
def iX(l:List Int):V:=.sl 1 (l.map ie) .no
theorem rvX(l:List (List Int))(h:l≠[]):rv (GZ l)=.sl 1 (l.map iX) .no:=by
 cases l with
 | nil=>exact absurd rfl h
 | cons a l =>
  unfold rv GZ;rw[List.map_map];have:∀a:List Int,iv (match a with|[]=>(false,[])|a=>(true,a))=iX a:=λa=>by cases a<;>rfl
  have e:(iv ∘ λa:List Int=>(match a with|[]=>(false,[])|a=>(true,a)))=iX:=funext this
  rw[e];rfl
structure B10(gl:Gl) where
 d:D
 da:D
 dm:D
 d0:V
 va:aG
 vm:aG
 vs:aG
 h45:gl.hk 45 [.str oQ]=some iJ
 h14:gl.hk 14 [iJ]=some (.bx [fv fX,.bP])
 IG:gl.hk 28 [fv fX,iX [0]]=some (.bx [oe d,.bP])
 hd:d.1.2.length=513
 hA:gl.hk 30 [fv fX,.sl 1 ([[0],[2]].map iX) .no]=some (.bx [.sl 2 va .no,.bP])
 SV:va.length=2
 hda:nth va 1=some (oe da)/\da.1.2.length=80
 hB:gl.hk 30 [fv fX,.sl 1 ([[0],[2],[3]].map iX) .no]=some (.bx [.aH,IV])
 hM:gl.hk 30 [fv fX,.sl 1 ([[0],[1],[1],[1],[1]].map iX) .no]=some (.bx [.sl 2 vm .no,.bP])
 hvm:vm.length=5
 Et:nth vm 4=some (oe dm)/\dm.1.2.length=2
 hS:gl.hk 30 [fv fX,.sl 1 ([[0],[2],[],[],[],[],[],[],[]].map iX) .no]=some (.bx [.sl 2 vs .no,.bP])
 hT:gl.hk 30 [fv fX,.sl 1 ([[0],[2],[],[],[],[],[],[],[],[]].map iX) .no]=some (.bx [.aH,IV])
 h23:gl.hk 23 [.int .i64 11]=some (JT 11)
 h15:gl.hk 15 [IV,JT 11]=some (.bool true)
 FL:gl.hk 26 []=some (.bool true)
theorem MX(hu:gl.uq=nU)(Ck:∀xs,gl.hk 10 xs=none)(aa8:∀n xs H,gl.fq n 10 xs H=none)(b:B10 gl):zj prog gl 102 10 [] ⟨[],[]⟩=some (.ret (.bool true),⟨[],[]⟩):=by
 obtain⟨n,hn⟩:∃n,n=100+1:=⟨_,rfl⟩;rw[show 102=n+1 by omega]
 suffices bR:go ⟨prog,gl,zj prog gl n,nU⟩ n (Fx prog f10.results.toList λw H1=>w=.bool true/\∃ls,H1=⟨([]:List bq)++ls,[]⟩) [.c (f10.body.getD .skip)] .normal ⟨[]++List.replicate 145 (.bx []),⟨[],[]⟩,[],[]⟩ by
  obtain⟨w,H1,h0,rfl,ls,rfl⟩:=zO (bs:=[]) (es:=[]) (Ck _) (λH=>aa8 _ _ H) func10 rfl (by rw[hu];exact bR)
  rw[h0];exact congrArg (λx=>some (Out.ret _,x)) (zY (dP _))
 have hc:∀{f fn body xs v},prog.funcs[f]?=some fn->fn.body=some body->gl.hk f xs=some v->∀H,Cx.bK ⟨prog,gl.g,zj prog gl n,nU⟩ f xs H=some (.val v,H):=λh1 h2 h3 H=>zu h1 h2 (by rw[hn];exact yN h3)
 have c45:=hc func45 rfl b.h45;have c14:=hc func14 rfl b.h14;have c28:=hc func28 rfl b.IG;have cA:=hc func30 rfl b.hA;have cB:=hc func30 rfl b.hB;have cM:=hc func30 rfl b.hM;have cS:=hc func30 rfl b.hS;have cT:=hc func30 rfl b.hT;have c23:=hc func23 rfl b.h23;have c15:=hc func15 rfl b.h15;have c26:=hc func26 rfl b.FL
 simp only[bk,bw] at cA cB cM cS cT;have qC:bg iJ=iJ:=rfl;have q2:bg IV=IV:=rfl;have qN:bg V.bP=.bP:=rfl;have qS:∀z vs,bg (.sl z vs .no)=.sl z vs .no:=λ_ _=>rfl;have tN:∀env s,jd env s (some V.bP)=some (.bP,env):=λ_ _=>rfl;have t2:∀env s,jd env s (some IV)=some (IV,env):=λ_ _=>rfl
 have tS:∀z vs env s,jd env s (some (.sl z vs .no))=some (.sl z vs .no,env):=λ_ _ _ _=>rfl;have qF:bg (JT 11)=JT 11:=rfl;have hz:(V.agg zF).cells=zF:=rfl;have Ek:(V.agg [.aH,.aH]).cells=[.aH,.aH]:=rfl;have C9:∀k,Nt prog 27 (some (.int .i64 k))=some (.sl 1 [.int .i64 k] (.yes 3)):=λk=>DS.BH (v:=.int .i64 k) rfl rfl
 have mX:∀k,IY prog 27 1 [(0,some (.int .i64 k))]=some (.sl 1 [.int .i64 k] (.yes 3)):=λ_=>by kernel_rfl
 have sn:IY prog 27 0 []=some (.sl 1 [] (.yes 3)):=by kernel_rfl
 have i0:∀k,V.sl 1 [.int .i64 k] .no=iX [k]:=λ_=>rfl;have iE:V.sl 1 [] .no=iX []:=rfl;have qi:∀l,bg (iX l)=iX l:=λ_=>rfl;have s1:∀env,qp prog 30 ⟨[.cells zF 30],[]⟩ [] [] (some (fv fX,env)) (some (.ptr 0 0))=some (.skip,⟨env,⟨[.cells (fc fX) 30],[]⟩,[],[]⟩):=λenv=>by
  have h:=Jz (P:=prog) (t:=30) (n:=4) (B:=[]) (ls:=[.cells zF 30]) (k:=0) (off:=0) (cs:=zF) (ty:=30) (v:=fv fX) (env:=env) (lk:=[]) (df:=[]) (es:=[]) Kh rfl (Yl fX) (by rw[TU];rfl) (by decide) rfl (sS fX)
  rw[TU,wM (by rfl)] at h
  exact h
 have s2:∀env,qp prog 66 ⟨[.cells (fc fX) 30,.cells [.aH,.aH] 66],[]⟩ [] [] (some (oe b.d,env)) (some (.ptr 1 0))=some (.skip,⟨env,⟨[.cells (fc fX) 30,.cells [rv b.d.1,iv b.d.2] 66],[]⟩,[],[]⟩):=λenv=>by
  have h:=Jz (P:=prog) (t:=66) (n:=2) (B:=[]) (ls:=[.cells (fc fX) 30,.cells [.aH,.aH] 66]) (k:=1) (off:=0) (cs:=[.aH,.aH]) (ty:=66) (v:=oe b.d) (env:=env) (lk:=[]) (df:=[]) (es:=[]) F4 rfl (ziE b.d) (by rw[UJ];rfl) (by decide) rfl (CE b.d)
  rw[UJ,wM (by rfl)] at h
  exact h
 have l1:∀g r,zk prog ⟨.cells (fc fX) 30::r,[]⟩ g 30 (.ptr 0 0)=some (fv fX):=λg r=>by
  rw[jp R5 Kh (b:=0) (off:=0) (cs:=fc fX) (ty:=30) rfl (by simp[fc])];rfl
 have l2:∀g r,zk prog ⟨.cells (fc fX) 30::r,[]⟩ g 28 (.ptr 0 2)=some (rv fX.f):=λg r=>zr l_ (cs:=fc fX) (ty:=30) rfl rfl;have l3:∀g,zk prog ⟨[.cells (fc fX) 30,.cells [rv b.d.1,iv b.d.2] 66],[]⟩ g 28 (.ptr 1 0)=some (rv b.d.1):=λg=>zr l_ (cs:=[rv b.d.1,iv b.d.2]) (ty:=66) rfl rfl;have n1:∀H,qW prog H 28 (rv fX.f)=some 4:=λH=>kG
 have n2:∀H,qW prog H 28 (rv b.d.1)=some 513:=λH=>by rw[kG,b.hd];rfl
 have n3:∀H,qW prog H 28 (rv b.da.1)=some 80:=λH=>by rw[kG,b.hda.2];rfl
 have n4:∀H,qW prog H 28 (rv b.dm.1)=some 2:=λH=>by rw[kG,b.Et.2];rfl
 have n5:∀H,qW prog H 61 (.sl 2 b.va .no)=some 2:=λH=>by rw[zjX,b.SV];rfl
 have n6:∀H,qW prog H 61 (.sl 2 b.vm .no)=some 5:=λH=>by rw[zjX,b.hvm];rfl
 have x1:zt prog 61 (.sl 2 b.va .no) 1=some (.vp [rv b.da.1,iv b.da.2]):=zjZ b.hda.1;have x4:zt prog 61 (.sl 2 b.vm .no) 4=some (.vp [rv b.dm.1,iv b.dm.2]):=zjZ b.Et.1;have kv:∀{H:Hp}{g:Nat->Nat->cj}{v:V}{r:aG},zk prog H g 28 (.vp (v::r))=some v:=λ{H g v r}=>by simp[zk,qy,l_,nth,wP]
 have e1:((4:Int) != 4)=false:=rfl;have e2:((513:Int) != 513)=false:=rfl;have e3:((80:Int) != 80)=false:=rfl;have e4:((2:Int) != 2)=false:=rfl;have e5:((5:Int) != 5)=false:=rfl;have qv:∀l,bg (.vp l)=.vp l:=λ_=>rfl;have o2:dD (V.agg [.aH,.aH])=true:=rfl;have oF:dD (V.agg zF)=true:=rfl
 have w2:∀a b,IY prog 28 2 [(0,some (iX [a])),(1,some (iX [b]))]=some (.sl 1 [iX [a],iX [b]] (.yes 27)):=λ_ _=>by kernel_rfl
 have w3:∀a b c,IY prog 28 3 [(0,some (iX [a])),(1,some (iX [b])),(2,some (iX [c]))]=some (.sl 1 [iX [a],iX [b],iX [c]] (.yes 27)):=λ_ _ _=>by kernel_rfl
 have w5:IY prog 28 5 [(0,some (iX [0])),(1,some (iX [1])),(2,some (iX [1])),(3,some (iX [1])),(4,some (iX [1]))]=some (.sl 1 [iX [0],iX [1],iX [1],iX [1],iX [1]] (.yes 27)):=by kernel_rfl
 have w9:IY prog 28 9 [(0,some (iX [0])),(1,some (iX [2])),(2,some (iX [])),(3,some (iX [])),(4,some (iX [])),(5,some (iX [])),(6,some (iX [])),(7,some (iX [])),(8,some (iX []))]=some (.sl 1 [iX [0],iX [2],iX [],iX [],iX [],iX [],iX [],iX [],iX []] (.yes 27)):=by kernel_rfl
 have w10:IY prog 28 10 [(0,some (iX [0])),(1,some (iX [2])),(2,some (iX [])),(3,some (iX [])),(4,some (iX [])),(5,some (iX [])),(6,some (iX [])),(7,some (iX [])),(8,some (iX [])),(9,some (iX []))]=some (.sl 1 [iX [0],iX [2],iX [],iX [],iX [],iX [],iX [],iX [],iX [],iX []] (.yes 27)):=by kernel_rfl
 simp only[f10,gm,zi];generalize hS:Value.string _=S;have hO:aj S=some (.str oQ):=by rw[<- hS];kernel_rfl
 refine rg ?_;simp only[BW,List.replicate];refine rg ?_;simp only[BW,hO,c45,qC,c14,eT,MW,qN,tN,aaZ,zR oF,hz,Ym,s1];refine rg ?_;simp only[BW,zqt,qN,s4,l2,b_,n1,e1];refine rg ?_
 simp only[BW,l1,MW,C9,i0,qi,c28,eT,ziO,qN,tN,aa6,zR o2,Ek,ziF,s2];refine rg ?_;simp only[BW,l1,MW,i0,Sa,mX,w2,cA,eT,qS,qN,tN,tS];refine rg ?_;simp only[BW,l1,MW,i0,Sa,mX,w3,cB,eT,q2,t2];refine rg ?_
 simp only[BW,l1,MW,i0,Sa,mX,w5,cM,eT,qS,qN,tN,tS];refine rg ?_;simp only[BW,zqt,qN,pW,l3,b_,n2,e2,qS,n5,e4,x1,qv,ny,kv,n3,e3,n6,e5,x4,n4];refine rg ?_;simp only[BW,l1,MW,sn,i0,iE,Sa,mX,w9,cS,eT,qS,qN,tN];refine rg ?_
 simp only[BW,l1,MW,sn,i0,iE,Sa,mX,w10,cT,eT,q2,t2];refine rg ?_;simp only[BW,q2,c23,qF,c15,zqL,qN,c26];exact ga rfl ⟨rfl,_,rfl⟩
end Go.Proofs.YthohlnmcjkjeiaaGreatDoor.A2
namespace Go.Proofs.YthohlnmcjkjeiaaGreatDoor
open Go.Proofs.Tryz
set_option maxRecDepth 1000000
open Go Go.Vm Go.Vm.Sx
theorem kR{l l':ee}(hl:z0 prog fj l)(iM:z0 prog fj l'){n:Nat}{f:FuncId}{xs:aG}{v:V}{H':Hp}(hc:zj prog { g:=fj,hk:=cN l,uq:=eg } n f xs ⟨[],[]⟩=some (.ret v,H'))(ht:aL xs=0)(hv:v.top=0):z0 prog fj ((f,xs,v)::l') :=
 kz iM λd H g w bG lc h1 h2 h3=>xC (gl:={ g:=fj,hk:=cN l,uq:=eg }) mixed gK ff ⟨hl.pure,λn f args H out H' h=>(by cases h),λ_ _ _ r_ h=>ML r_ h⟩ hc ht hv h1 h2 h3
theorem aa9:z0 prog fj R3 :=
 kR qY (kR qY (kR qY (kR qY (kR qY (kR qY (kR qY (kR qY (kR qY (kR qY (qY) (zqq 0) rfl rfl) (zqp 0) rfl rfl) (zqo 0) rfl rfl) (zqn 0) rfl rfl) (zqm 0) rfl rfl) (zql 0) rfl rfl) (zqk 0) rfl rfl) (zqj 0) rfl rfl) (zqi 0) rfl rfl) (zqh 0) rfl rfl
theorem aa_:z0 prog fj [(101,[.str oQ],MS)]:=kR aa9 qY (zm9 0) rfl rfl
theorem aa':z0 prog fj [(66,[.str oQ],.bx [oR,.bP])]:=kR aa_ qY (ziL 0) rfl rfl
theorem aba:z0 prog fj [(137,[oR],CN)]:=kR qY qY (ziM 0) rfl rfl
theorem abb:z0 prog fj [(67,[oR],.bx [iJ,.bP]),(66,[.str oQ],.bx [oR,.bP])]:=kR aba aa' (zhH 0) rfl rfl
theorem abc:z0 prog fj ((45,[.str oQ],iJ)::FL):=kR abb aa0 (zkU 0) rfl rfl
theorem zpN(n:Nat):zj prog { g:=fj,hk:=cN [],uq:=eg } (n+20) 23 [.int .i64 11] ⟨[],[]⟩=some (.ret (JT 11),⟨[],[]⟩):=by kernel_rfl
theorem zpO(n:Nat):zj prog T9 (n+60) 15 [IV,JT 11] ⟨[],[]⟩=some (.ret (.bool true),⟨[],[]⟩):=by kernel_rfl
theorem abd:z0 prog fj ((14,[iJ],.bx [A2.fv fX,.bP])::(23,[.int .i64 11],JT 11)::(45,[.str oQ],iJ)::FL):=by
 have:=zqu (kR qY abc (zpN 0) rfl rfl) (nl:=false) R7
 rwa [F5.1,<- D8] at this
section
variable{aU:Nat->Nat->Nat}{lab:Nat->Int}{st:List Int->Nat}{wt:List Int->Nat}
theorem AD.Sb{ss:bO}{c:Nat}{vs:aG}(h:AD aU lab ss c vs):∀cQ:List (List Int),ss=cQ.map st->(∀a∈cQ,∃n,Cl aU (st a) n/\qB (zl aU (st a) n)=wt a)->c=(cQ.map wt).sum:=by
 induction h with
 | nil =>
  intro cQ h _;cases cQ with
  | nil=>rfl
  | cons a l=>simp at h
 | @snoc ss c s0 i vs h hi hl ih =>
  intro cQ he hw;obtain⟨a1,a2,rfl,e1,e2⟩:=List.map_eq_append_iff.1 he.symm;obtain⟨a,rfl,rfl⟩:∃a,a2=[a]/\st a=s0:=by
   match a2,e2 with
   | [a],e=>exact⟨a,rfl,by simpa using e⟩
  obtain⟨n,k1,k2⟩:=hw a (by simp)
  have:=k1.one ⟨hi,hl⟩;subst this;rw[ih a1 e1.symm λa h=>hw a (Bu _ h),k2];simp
theorem MN.fits{f:A2.F}{l:List A2.cX}{v:V}(h:MN f l v)(hw:∀a∈l.map (·.2),∃n,Cl (nj f) (nV f a) n/\qB (zl (nj f) (nV f a) n)=wt a)(hs:((l.map (·.2)).map wt).sum<=600):∃c vs,AD (nj f) (F3 f) (l.map λa=>nV f a.2) c vs/\v=.bx [.sl 2 vs .no,.bP]:=by
 rcases h with⟨c,vs,h1,h2,rfl⟩|⟨rfl,j,a,c,ds,i,h1,h2,h3⟩
 ·exact⟨c,vs,h1,rfl⟩
 ·exfalso
  have e1:=h2.Sb (st:=λa=>nV f a) (wt:=wt) ((l.take j).map (·.2)) (by rw[List.map_map];rfl) λx hx=>hw x (by
   obtain⟨y,hy,rfl⟩:=mU.1 hx
   exact mU.2 ⟨y,Bt hy,rfl⟩)
  obtain⟨n,k1,k2⟩:=hw a.2 (mU.2 ⟨a,pG h1,rfl⟩);have k3:=k1.cnt (j:=i);have e2:l=l.take j++a::l.drop (j+1):=by
   have hj:=(dA.1 h1);obtain⟨hj,e⟩:=hj;rw[<- e,<- F8 hj,Ea]
  rw[e2] at hs;simp only[List.map_append,bk,List.sum_append,List.sum_cons] at hs e1;omega
theorem MN.over{f:A2.F}{l:List A2.cX}{v:V}(h:MN f l v)(hw:∀a∈l.map (·.2),∃n,Cl (nj f) (nV f a) n/\qB (zl (nj f) (nV f a) n)=wt a)(hs:600<((l.map (·.2)).map wt).sum):v=.bx [.aH,.dX 396 (.obj 2)]:=by
 rcases h with⟨c,vs,h1,h2,rfl⟩|⟨rfl,_⟩
 ·exfalso;have e1:=h1.Sb (st:=λa=>nV f a) (wt:=wt) (l.map (·.2)) (by rw[List.map_map];rfl) hw
  omega
 ·rfl
end
def wtX:List Int->Nat:=λa=>if a=[0] then 513 else if a=[1] then 2 else if a=[2] then 80 else if a=[3] then 9 else 1
theorem clX(a:List Int)(h:a∈[[0],[1],[2],[3],[]]):∃n,Cl (nj fX) (nV fX a) n/\qB (zl (nj fX) (nV fX a) n)=wtX a:=by
 simp only[dM,uh,tB] at h;rcases h with rfl|rfl|rfl|rfl|rfl
 ·exact⟨513,⟨by decide,s9.1⟩,s9.2⟩
 ·exact⟨2,⟨by decide,CO.1⟩,CO.2⟩
 ·exact⟨80,⟨by decide,CP.1⟩,CP.2⟩
 ·exact⟨9,⟨by decide,F6.1⟩,F6.2⟩
 ·exact⟨1,⟨by decide,F7.1⟩,F7.2⟩
theorem MY(l:List (List Int)):(A2.GZ l).2.map (·.2)=l:=by
 show(l.map _).map _=l;rw[List.map_map]
 conv=>rhs;rw[<- List.map_id l]
 exact List.map_congr_left λa _=>by cases a<;>rfl
theorem Sc{L:ee}(hl:z0 prog fj L)(l:List (List Int))(h1:l≠[])(h2:l.length<=16)(h3:∀a∈l,a∈[[0],[1],[2],[3],[]]) :
  ∃v,z0 prog fj ((30,[A2.fv fX,.sl 1 (l.map A2.iX) .no],v)::L)/\MN fX (A2.GZ l).2 v:=by
 obtain⟨_,hw,hq,hs,hf,_⟩:=F5;have hr:(100:Nat)<=reachBytes:=by decide
 have hlen:∀a∈(A2.GZ l).2,a.2∈l:=λa ha=>by
  have:a.2∈(A2.GZ l).2.map (·.2):=mU.2 ⟨a,ha,rfl⟩
  rwa [MY] at this
 have hL:(A2.GZ l).2.length=l.length:=by show(l.map _).length=_;simp
 obtain⟨v,_,t2,t3⟩:=zpH hl hw hq (by omega) (by rw[hf];decide) (A2.GZ l) (λa ha=>by
  have:=h3 _ (hlen a ha);have:a.2.length<=1:=by
   simp only[dM,uh,tB] at this;rcases this with e|e|e|e|e<;>rw[e]<;>decide
  omega) (by omega)
 have MI:D6 (MR fX) (IT fX) (A2.GZ l).2=true:=by
  have hk:[[0],[1],[2],[3],[]].all (λa=>IT fX (true,a))=true:=by kernel_rfl
  simp only[D6,ckX,sw,hL,eF,decide_eq_true_eq];refine⟨by cases l with|nil=>exact absurd rfl h1|cons _ _=>simp,h2,Dr.2 λa ha=>?_⟩
  exact Dr.1 hk a.2 (h3 _ (hlen a ha))
 rw[if_pos MI] at t2;rw[A2.rvX l h1] at t3;exact⟨v,t3,t2⟩
theorem vR{f:FuncId}{xs ys:aG}{v:V}{l:ee}(h:eG xs ys=false):cN ((f,ys,v)::l) f xs=cN l f xs:=by
 simp only[cN,iV,h]
theorem Sd:∃gl:Gl,gl.g=JS/\nt prog gl/\zj prog gl 102 10 [] ⟨[],[]⟩=some (.ret (.bool true),⟨[],[]⟩):=by
 obtain⟨_,hw,hq,hs,hf,_⟩:=F5;have hr:(100:Nat)<=reachBytes:=by decide
 obtain⟨vd,_,d2,d3⟩:=zm3 abd hw hq (by omega) (by rw[hf];decide) (true,[0]) (by show(1:Nat) * 8<=_;omega)
 rw[if_pos ⟨ckX,(by kernel_rfl)⟩] at d2
 have d3:z0 prog fj ((28,[A2.fv fX,A2.iX [0]],vd)::_):=d3;obtain⟨vA,abe,aA⟩:=Sc d3 [[0],[2]] (by simp) (by decide) (by decide)
 obtain⟨vB,abf,aB⟩:=Sc abe [[0],[2],[3]] (by simp) (by decide) (by decide)
 obtain⟨vM,abg,aM⟩:=Sc abf [[0],[1],[1],[1],[1]] (by simp) (by decide) (by decide)
 obtain⟨vS,abh,aS⟩:=Sc abg [[0],[2],[],[],[],[],[],[],[]] (by simp) (by decide) (by decide)
 obtain⟨vT,abi,aT⟩:=Sc abh [[0],[2],[],[],[],[],[],[],[],[]] (by simp) (by decide) (by decide)
 have As:∀l:List (List Int),(∀a∈l,a∈[[0],[1],[2],[3],[]])->∀a∈(A2.GZ l).2.map (·.2),∃n,Cl (nj fX) (nV fX a) n/\qB (zl (nj fX) (nV fX a) n)=wtX a:=λl hl a ha=>by
  rw[MY] at ha;exact clX a (hl a ha)
 obtain⟨cA,va,A1,rfl⟩:=aA.fits (As _ (by decide)) (by rw[MY];decide)
 obtain rfl:=aB.over (As _ (by decide)) (by rw[MY];decide)
 obtain⟨cM,vm,M1,rfl⟩:=aM.fits (As _ (by decide)) (by rw[MY];decide)
 obtain⟨cS,vs,S1,rfl⟩:=aS.fits (As _ (by decide)) (by rw[MY];decide)
 obtain rfl:=aT.over (As _ (by decide)) (by rw[MY];decide)
 obtain⟨i,i1,i2,rfl⟩:∃i,0<i/\(zl (nj fX) (nV fX [0]) i).length=i/\vd=.bx [A2.oe (Bq (nj fX) (nV fX [0]) (F3 fX) i),.bP]:=by
  rcases d2 with⟨i,q1,q2,q3,rfl⟩|⟨i,q1,rfl⟩
  ·exact⟨i,q1,q2,rfl⟩
  ·exfalso;have:=(show Cl (nj fX) (nV fX [0]) 513 from⟨by decide,s9.1⟩).cnt (j:=i)
   rw[s9.2] at this;have q1:600<qB (zl (nj fX) (nV fX [0]) i):=q1;omega
 obtain rfl:=xy i2 s9.1;obtain⟨nA,a1,a2,_⟩:=A1.get 1 (nV fX [2]) rfl;obtain⟨nM,m1,m2,_⟩:=M1.get 4 (nV fX [1]) rfl;obtain rfl:=xy a1.2 CP.1;obtain rfl:=xy m1.2 CO.1;have okE:z0 prog (UP true) ((15,[IV,JT 11],.bool true)::_):=kz (toX abi) λd H g w bG lc h1 h2 h3=>xC mixed gK ff hkE (zpO 0) rfl rfl h1 h2 h3;refine⟨glH true _,rfl,hkH okE,?_⟩
 have s1:∀{l m:List (List Int)},V.same (.sl 1 (l.map A2.iX) .no) (.sl 1 (m.map A2.iX) .no)=false->eG [A2.fv fX,.sl 1 (l.map A2.iX) .no] [A2.fv fX,.sl 1 (m.map A2.iX) .no]=false:=λh=>by
  simp only[eG,h,Bool.and_false,Ec]
 have dl:∀s n,(Bq (nj fX) s (F3 fX) n).1.2.length=n:=λs n=>by simp[Bq]
 refine A2.MX rfl (λxs=>?_) (λ_ _ _=>rfl)
  {d:=Bq (nj fX) (nV fX [0]) (F3 fX) 513
   da:=Bq (nj fX) (nV fX [2]) (F3 fX) 80
   dm:=Bq (nj fX) (nV fX [1]) (F3 fX) 2
   d0:=.bP
   va:=va
   vm:=vm
   vs:=vs
   h45:=?_
   h14:=?_
   IG:=?_
   hd:=dl _ _
   hA:=?_
   SV:=by rw[A1.len];rfl
   hda:=⟨by rw[zg];exact a2,dl _ _⟩
   hB:=?_
   hM:=?_
   hvm:=by rw[M1.len];rfl
   Et:=⟨by rw[zg];exact m2,dl _ _⟩
   hS:=?_
   hT:=?_
   h23:=?_
   h15:=?_
   FL:=?_ }
 ·show cN _ 10 xs=none;rw[zv rfl,zv rfl,zv rfl,zv rfl,zv rfl,zv rfl,zv rfl,zv rfl,zv rfl,zv rfl];rfl
 ·show cN _ 45 _=_;rw[zv rfl,zv rfl,zv rfl,zv rfl,zv rfl,zv rfl,zv rfl,zv rfl,zv rfl];exact wH
 ·show cN _ 14 _=_;rw[zv rfl,zv rfl,zv rfl,zv rfl,zv rfl,zv rfl,zv rfl];exact wH
 ·show cN _ 28 _=_;rw[zv rfl,zv rfl,zv rfl,zv rfl,zv rfl,zv rfl];exact wH
 ·show cN _ 30 _=_;rw[zv rfl,vR (s1 (by kernel_rfl)),vR (s1 (by kernel_rfl)),vR (s1 (by kernel_rfl)),vR (s1 (by kernel_rfl))];exact wH
 ·show cN _ 30 _=_;rw[zv rfl,vR (s1 (by kernel_rfl)),vR (s1 (by kernel_rfl)),vR (s1 (by kernel_rfl))];exact wH
 ·show cN _ 30 _=_;rw[zv rfl,vR (s1 (by kernel_rfl)),vR (s1 (by kernel_rfl))];exact wH
 ·show cN _ 30 _=_;rw[zv rfl,vR (s1 (by kernel_rfl))];exact wH
 ·show cN _ 30 _=_;rw[zv rfl];exact wH
 ·show cN _ 23 _=_;rw[zv rfl,zv rfl,zv rfl,zv rfl,zv rfl,zv rfl,zv rfl,zv rfl];exact wH
 ·show cN _ 15 _=_;exact wH
 ·show cN _ 26 _=_;rw[zv rfl,zv rfl,zv rfl,zv rfl,zv rfl,zv rfl,zv rfl,zv rfl,zv rfl,zv rfl];rfl
end Go.Proofs.YthohlnmcjkjeiaaGreatDoor
namespace Go.Proofs.YthohlnmcjkjeiaaGreatDoor.SubsetBounds
open Go.Proofs.Tryz
set_option maxRecDepth 100000
set_option maxRecDepth 100000
open Go Go.Vm Go.ChangeShapes Go.WideShapes Go.ChangeAt Go.RowKit
theorem contract(H:Type)(enc:aD×bC->H)(W:aQ)(_base:Nat)(args:dR)(ds gs:List (DataW H))(before:List MemPlace)
  (hW:DataW.Whole enc prog f10.params.toList Rows.subsetBoundsSpec.vars false W args.toList ds gs before) (hL:laidMetH prog Rows.subsetBoundsRow.laid W) :
  Calls prog 10 args W λe W'=>∃v,e=.returned v/\Rows.subsetBoundsSpec.post enc prog f10 false true false false W args v W':=by
 have Lc:=hW;obtain⟨p,q,hA0,hV,rfl,hfz,si⟩:=hW;have hA:DataW.TrodAll enc prog W 0 (λ_=>true) true f10.params.toList args.toList ds p:=hA0;rw[params10] at hA;obtain⟨fS,rfl,rfl⟩:=trodAll_nil hA;obtain rfl:args=#[]:=by cases args;simp_all
 obtain⟨gl,hg,hK,hk⟩:=Sd;refine(zkf mixed gK ff hK hk (by rw[hg];exact zp9 hL) ⟨rfl,λj y v hy hv=>(by simp at hy),dB _,λy hy=>(by simp at hy)⟩).mono λe W' ⟨he,hb⟩=>⟨_,he,?_⟩
 exact zlp rfl (show f10.resultTypes=#[4] from rfl) underlying4 laidOut (by rw[params10];intro t ht;simp at ht) rfl Lc hb
theorem lifted(os:Os)(started:os.Started)(H:Type)(enc:aD×bC->H)(F:Stop.Interp) :
  ReturnsInHanded {} Tryz.checked os 10 .any ((OpenSpec.ofChange Rows.subsetBoundsSpec).preRow enc prog f10 Rows.subsetBoundsRow.domain false Rows.subsetBoundsRow.laid) (((OpenSpec.ofChange Rows.subsetBoundsSpec).at F).post enc prog f10 false true false false):=by
 have hx:∃places,DataW.whole enc prog ((World.doorLaid prog 320 os).forCall (λ_ _=>0) ⟨#[],#[],[]⟩).memory f10.params.toList Rows.subsetBoundsSpec.vars false #[].toList 8=some ([],[],places):=⟨[],by kernel_rfl⟩
 obtain⟨places,hx⟩:=hx;refine returnsInHanded_of_row (C:=Tryz.checked) (s:=OpenSpec.ofChange Rows.subsetBoundsSpec) own started (by kernel_rfl) func10
  (witness_row_atRef (enc:=enc) (C:=Tryz.checked) false (World.doorLaid prog 320 os) #[] rfl (by kernel_rfl) (by kernel_rfl) (by kernel_rfl)
   (OpenSpec.preRow_of_cond 8 hx (by kernel_rfl) (λk hk=>by cases hk) (by kernel_rfl) (zkD os _))) ?_
 intro W base args ds gs before AU hW _ _ As hL _ _;exact contract H enc W base args ds gs before hW hL
theorem said:Rows.SubsetBoundsSaid :=
 OpenClaim.holds_of_cond 10 f10 rfl rfl rfl rfl rfl rfl rfl ⟨rfl,rfl,rfl,rfl,rfl⟩ rfl rfl rfl rfl rfl named func10 facts
  (of_decide_eq_true (by kernel_rfl)) (by unfold Func.isWrapper;first|(rw[if_pos (by decide +kernel)];kernel_rfl)|(rw[if_neg (by decide +kernel)];exact⟨rfl,rfl⟩))
  (λos started H enc _ F=>by rw[OpenClaim.pre_eq_preRow];exact lifted os started H enc F)
theorem plain(f:FuncId)(fn:Func)(hf:Tryz.pinned.checked.prog.funcNamed "bolter/bolterlaw11.SubsetBounds"=some f) (K1:Tryz.pinned.checked.prog.funcs[f]?=some fn) :
  true=Tryz.pinned.checked.prog.looks []/\∀(j:Nat) t,fn.params[j]?=some t->Tryz.pinned.checked.prog.wantsStandIn t=false:=by
 obtain rfl:f=10:=BQ ((show prog.funcNamed "bolter/bolterlaw11.SubsetBounds"=some 10 by kernel_rfl).symm.trans hf) |>.symm
 obtain rfl:fn=f10:=(BQ (func10.symm.trans K1)).symm;refine⟨by kernel_rfl,λj t ht=>?_⟩
 rw[params10] at ht;simp at ht
theorem card:Rows.SubsetBoundsCardSaid :=
 Claim7.holds_tied_plain_at .later [] _ _ _ _ said (λ_ h=>by cases h) (by kernel_rfl) (λ_ h=>by cases h) subsetBounds_row_tie rfl ⟨rfl,rfl⟩ (by kernel_rfl) rfl plain (by kernel_rfl)
end Go.Proofs.YthohlnmcjkjeiaaGreatDoor.SubsetBounds
