/- Seat 8: the rules of FollowBounds: what Build tells of them. Conditions: none but those named. -/
import Derived.Test.YthohlnmcjkjeiaaGreatDoorVmS
import Derived.Test.YthohlnmcjkjeiaaGreatDoorVmU
set_option linter.defProp false
namespace Go.Proofs.YthohlnmcjkjeiaaGreatDoor
open Go.Proofs.Tryz
set_option maxRecDepth 100000
open Go Go.Vm Go.Vm.Sx
def Cf:E:=.mk 2 0 0 8589934592 0 0 [] 0 0 true []
def eB:E:=.mk 5 0 0 0 0 0 [] 0 0 false (List.replicate 100 Cf)
def cB:Cr:=(eB,false,D_)
def cO:Cr:=(Cf,false,D_)
def LC:TF=jk false [cB]:=by kernel_rfl
def zmn{a:E}(h:Wf a):∀n,Py (List.replicate n a)
 | 0=>trivial
 | n+1=>⟨h,zmn h n⟩
def zkl{a:E}(h:Can a):∀n,Ht (List.replicate n a)
 | 0=>trivial
 | n+1=>⟨h,zkl h n⟩
def Ek:Wf Cf:=⟨ga _,ga _,trivial⟩
def Cg:Can Cf:=⟨λ_=>rfl,trivial⟩
def El:Wf D_:=⟨ga _,ga _,trivial⟩
def Ch:Can D_:=⟨λ_=>rfl,trivial⟩
def zpQ{n:Nat}(h:n<=300):n<=maxLen:=cZ h (by decide)
def Xk{l:List Cr}(hl:l.length<=300)(h:∀c∈l,c=cB\/c=cO):Bq l where
 len:=zpQ hl
 wf:=λc hc=>by
  rcases h c hc with rfl|rfl
  ·exact⟨⟨ga _,zpQ (by simp),zmn Ek 100⟩,El⟩
  ·exact⟨Ek,El⟩
 can:=λc hc=>by
  rcases h c hc with rfl|rfl
  ·exact⟨⟨λh=>(by cases h),zkl Cg 100⟩,Ch⟩
  ·exact⟨Cg,Ch⟩
 nod:=.inr λc hc=>by
  rcases h c hc with rfl|rfl
  ·exact⟨of_decide_eq_true (by kernel_rfl),of_decide_eq_true (by kernel_rfl)⟩
  ·exact⟨of_decide_eq_true (by kernel_rfl),of_decide_eq_true (by kernel_rfl)⟩
def Al:List Cr:=List.replicate 10 cB
def fG:List Cr:=List.replicate 200 cO
def HJ:Bq Al:=Xk (by simp[Al]) λc hc=>.inl (List.eq_of_mem_replicate hc)
def acP:Bq (Al++[cO]):=Xk (by simp[Al]) λc hc=>by
 rcases uo.1 hc with hc|hc
 ·exact .inl (List.eq_of_mem_replicate hc)
 ·exact .inr (uk.1 hc)
def Am:Bq fG:=Xk (by simp[fG]) λc hc=>.inr (List.eq_of_mem_replicate hc)
def TR:Bq (fG++[cO]):=Xk (by simp[fG]) λc hc=>by
 rcases uo.1 hc with hc|hc
 ·exact .inr (List.eq_of_mem_replicate hc)
 ·exact .inr (uk.1 hc)
def TT:ym Al=(1000,true):=by kernel_rfl
def LD:ym (Al++[cO])=(1001,true):=by kernel_rfl
def NX:ym fG=(200,true):=by kernel_rfl
def HK:ym (fG++[cO])=(0,false):=by kernel_rfl
def J':bE Al=.cV:=by rw[bE,TT];rfl
def Ci:bE fG=.cV:=by rw[bE,NX];rfl
def acQ:bE (Al++[cO])=E6:=by rw[bE,LD];rfl
def TU:bE (fG++[cO])=E5:=by rw[bE,HK];rfl
def acR:bA (Al++[cO])=zF:=by rw[bA,LD];rfl
def TV:bA (fG++[cO])=zF:=by rw[bA,HK];rfl
def zmo{α:Type}{n i:Nat}{a:α}(h:i<n):(List.replicate n a)[i]?=some a:=by simp[h]
def zru:(kD Al).s.length=1000:=by
 rw[(NO HJ J' (by simp[Al])).2.2]
 kernel_rfl
def zs7:(kD [cB]).n[99]?=some [100]:=by kernel_rfl
def ztm:(kD [cB]).s.length=100:=by kernel_rfl
def ztn:(kD Al).n[999]?=some [1009]:=by
 obtain⟨a,h⟩:=apart HJ J' (i:=9) (c:=cB) (zmo (by decide))
 have hb:eG ((Al.map dX).take 9)=900:=by kernel_rfl
 have:=h.n 99 _ zs7;rw[hb,zru,ztm] at this;exact this
def Ka:kD [cO]=⟨[(0,8589934592,0,0)],[0],[[0]],[[1]]⟩:=by kernel_rfl
def tY:∀i:Nat,eG (List.replicate i (dX cO))=i
 | 0=>rfl
 | i+1=>by
  have:=tY i;simp only[List.replicate_succ,eG,this,show ey (dX cO)=1 from rfl];omega
def TW:(kD fG).s.length=200:=by
 rw[(NO Am Ci (by simp[fG])).2.2,fG,List.map_replicate,tY]
def zpR{i:Nat}(hi:i<200):(kD fG).r[i]?=some (i:Int)/\(kD fG).f[i]?=some [(i:Int)]/\(kD fG).n[i]?=some [((200+i:Nat):Int)]:=by
 obtain⟨a,h⟩:=apart Am Ci (i:=i) (c:=cO) (zmo hi);have hb:eG ((fG.map dX).take i)=i:=by
  rw[fG,List.map_replicate,List.take_replicate,Nat.min_eq_left (by omega),tY]
 have h1:=h.r 0 (by rw[Ka];decide)
 have h2:=h.ff;have h3:=h.n 0 [1] (by rw[Ka];rfl)
 have h4:=h.f;rw[Ka] at h4;simp only[List.cons.injEq,Bt] at h4;subst h4;rw[hb,cL] at h1 h3;rw[hb] at h2;rw[Ka,TW] at h2 h3;refine⟨h1,?_,?_⟩
 ·rw[h2];simp[NP]
 ·rw[h3];simp[NP]
def r2:List Int:=(List.range 200).map λi:Nat=>(i:Int)
def f2:List (List Int):=(List.range 200).map λi:Nat=>[(i:Int)]
def n2:List (List Int):=(List.range 200).map λi:Nat=>[((200+i:Nat):Int)]
def zlc{α:Type}{l:List α}{f:Nat->α}(hl:l.length=200)(h:∀i,i<200->l[i]?=some (f i)):l=(List.range 200).map f:=by
 apply Dt;intro i
 by_cases hi:i<200
 ·rw[h i hi];simp[hi]
 ·rw[uj (by omega),uj (by simp;omega)]
def zrv:(kD fG).r=r2/\(kD fG).f=f2/\(kD fG).n=n2:=by
 obtain⟨hR,hf,_⟩:=NO Am Ci (by simp[fG])
 refine⟨zlc (by rw[hR.r,TW]) λi hi=>(zpR hi).1,zlc (by rw[hf];simp[fG]) λi hi=>(zpR hi).2.1,zlc (by rw[hR.n,TW]) λi hi=>(zpR hi).2.2⟩
def NY:A2.J_ 200 r2 f2 n2=true:=by kernel_rfl
def Kb(F:Fo):A2.F:=⟨(true,F.s),(true,F.r),(true,F.f.map λl=>(true,l)),(true,F.n.map λl=>(true,l))⟩
def zs8(F:Fo):A2.fv (Kb F)=uh F:=by
 have h:∀l:List (List Int),A2.rv (true,l.map λl=>(true,l))=sP l:=λl=>by
  simp only[A2.rv,sP,List.map_map];rfl
 simp only[A2.fv,A2.fc,uh,Bo,Kb,h];rfl
def zpS(l:List (List Int)):A2.rowsOf (true,l.map λl=>(true,l))=l:=by simp[A2.rowsOf,Function.comp_def]
def TX:A2.WF (Kb (kD fG)):=by
 obtain⟨h1,h2,h3⟩:=zrv;have hw:∀z:Nat,z<400->A2.W64 (z:Int):=λz hz=>⟨by omega,by omega⟩
 refine⟨?_,?_,?_,?_⟩
 ·show(kD fG).s.length * 32<=_;rw[TW];decide
 ·show A2.WI (true,(kD fG).r);rw[h1];refine⟨by decide,λz hz=>?_⟩
  obtain⟨i,hi,rfl⟩:=ni.1 hz;exact hw i (by have:=FQ.1 hi;omega)
 ·show A2.WR (true,(kD fG).f.map _);rw[h2];refine⟨by decide,λq hq=>?_⟩
  obtain⟨x,hx,rfl⟩:=ni.1 hq;obtain⟨i,hi,rfl⟩:=ni.1 hx;refine⟨by show 1 * 8<=_;decide,λz hz=>?_⟩
  obtain rfl:=uk.1 hz;exact hw i (by have:=FQ.1 hi;omega)
 ·show A2.WR (true,(kD fG).n.map _);rw[h3];refine⟨by decide,λq hq=>?_⟩
  obtain⟨x,hx,rfl⟩:=ni.1 hq;obtain⟨i,hi,rfl⟩:=ni.1 hx;refine⟨by show 1 * 8<=_;decide,λz hz=>?_⟩
  obtain rfl:=uk.1 hz;exact hw (200+i) (by have:=FQ.1 hi;omega)
def zpT{gl:Gl}[mw gl](ez:GL gl):Ev prog gl 24 [.d (uh (kD fG))] [] (.bool true) []:=by
 have:=A2.acN ez (Kb (kD fG)) TX;rw[zs8] at this;obtain⟨h1,h2,h3⟩:=zrv;have e:A2.J_ (Kb (kD fG)).s.2.length (Kb (kD fG)).r.2 (A2.rowsOf (Kb (kD fG)).f) (A2.rowsOf (Kb (kD fG)).n)=true:=by
  simp only[Kb,zpS,h1,h2,h3,TW];exact NY
 rwa [e] at this
end Go.Proofs.YthohlnmcjkjeiaaGreatDoor
