/- Seat 8, subset: SubsetBounds' automaton of positions, and how many sets its modes have. Conditions: none but those named. -/
import Derived.Test.YthohlnmcjkjeiaaGreatDoorVmU
import Derived.Test.YthohlnmcjkjeiaaGreatDoorVmV
namespace Go.Proofs.YthohlnmcjkjeiaaGreatDoor
open Go.Proofs.Tryz
set_option maxRecDepth 1000000
open Go Go.Vm Go.Vm.Sx
def nX:E:=.mk 0 0 0 0 0 0 [] 0 0 true []
def EG(s:Int):E:=.mk 2 0 0 s 0 0 [] 0 0 true []
def IW(l:List E):E:=.mk 5 0 0 0 0 0 [] 0 0 false l
def R6:E:=IW [.mk 7 0 0 0 0 0 [] 0 (-1) false [EG 25769803776],EG 8589934592,IW (List.replicate 8 (EG 25769803776))]
def lX:List Cr:=[(R6,false,nX),(EG 0,false,nX),(IW (List.replicate 78 (EG 34359738368)),false,nX),(IW (List.replicate 7 (EG 34359738368)),false,nX)]
theorem D8:iJ=jb false lX:=by kernel_rfl
theorem UQ{a:E}(h:Wf a):∀n,Lu (List.replicate n a)
 | 0=>trivial
 | n+1=>⟨h,UQ h n⟩
theorem UR{a:E}(h:Can a):∀n,D3 (List.replicate n a)
 | 0=>trivial
 | n+1=>⟨h,UR h n⟩
theorem US{a:E}(h:QE a):∀n,MU (List.replicate n a)
 | 0=>trivial
 | n+1=>⟨h,US h n⟩
theorem zpM{n:Nat}(h:n<=300):n<=maxLen:=cZ h (by decide)
theorem Og(s:Int):Wf (EG s):=⟨dP _,dP _,trivial⟩
theorem Oh(s:Int):Can (EG s):=⟨λ_=>rfl,trivial⟩
theorem Oi{s:Int}(h:QU s):QE (EG s):=⟨⟨⟨by decide,by decide⟩,h,⟨by decide,by decide⟩,⟨by decide,by decide⟩⟩,trivial⟩
theorem UT:Wf nX:=⟨dP _,dP _,trivial⟩
theorem IX:Can nX:=⟨λ_=>rfl,trivial⟩
theorem D9:QU 0:=⟨by decide,by decide⟩
theorem UU:QE nX:=⟨⟨D9,D9,D9,D9⟩,trivial⟩
theorem UW{l:List E}(hl:l.length<=300)(h:Lu l):Wf (IW l):=⟨dP _,zpM hl,h⟩
theorem UX{l:List E}(h:D3 l):Can (IW l):=⟨λe=>(by cases e),h⟩
theorem UY{l:List E}(h:MU l):QE (IW l):=⟨⟨D9,D9,D9,D9⟩,h⟩
theorem qa:QU 25769803776:=⟨by decide,by decide⟩
theorem qb:QU 8589934592:=⟨by decide,by decide⟩
theorem qc:QU 34359738368:=⟨by decide,by decide⟩
theorem wf0:Wf R6:=UW (by decide) ⟨⟨dP _,zpM (by decide),Og _,trivial⟩,Og _,UW (by decide) (UQ (Og _) 8),trivial⟩
theorem aa2:Can R6:=UX ⟨⟨λe=>(by cases e),Oh _,trivial⟩,Oh _,UX (UR (Oh _) 8),trivial⟩
theorem qe0:QE R6:=UY ⟨⟨⟨D9,D9,D9,D9⟩,Oi qa,trivial⟩,Oi qb,UY (US (Oi qa) 8),trivial⟩
theorem UZ{P:Cr->Prop}(h0:P (R6,false,nX))(h1:P (EG 0,false,nX))(h2:P (IW (List.replicate 78 (EG 34359738368)),false,nX))(h3:P (IW (List.replicate 7 (EG 34359738368)),false,nX)):∀c∈lX,P c:=λc hc=>by
 simp only[lX,dM,uh,tB] at hc;rcases hc with rfl|rfl|rfl|rfl<;>assumption
theorem R7:Iz lX where
 len:=zpM (by decide)
 wf:=UZ ⟨wf0,UT⟩ ⟨Og _,UT⟩ ⟨UW (by decide) (UQ (Og _) 78),UT⟩ ⟨UW (by decide) (UQ (Og _) 7),UT⟩
 can:=UZ ⟨aa2,IX⟩ ⟨Oh _,IX⟩ ⟨UX (UR (Oh _) 78),IX⟩ ⟨UX (UR (Oh _) 7),IX⟩
 YT:=.inr (UZ ⟨by decide +kernel,by decide +kernel⟩ ⟨by decide +kernel,by decide +kernel⟩ ⟨by decide +kernel,by decide +kernel⟩ ⟨by decide +kernel,by decide +kernel⟩)
theorem qX:∀c∈lX,QE c.1/\QE c.2.2:=UZ ⟨qe0,UU⟩ ⟨Oi D9,UU⟩ ⟨UY (US (Oi qc) 78),UU⟩ ⟨UY (US (Oi qc) 7),UU⟩
theorem bEX:bE lX=.bP:=by kernel_rfl
def U0:A2.Q4:=(0,25769803776,0,0)
def qA:A2.Q4:=(0,8589934592,0,0)
def qN:A2.Q4:=(0,0,0,0)
def qC:A2.Q4:=(0,34359738368,0,0)
def upX(a n:Nat):List A2.cX:=(List.range n).map λk=>(true,[((a+k:Nat):Int)])
def fX:A2.F:=⟨(true,U0::qA::(List.replicate 8 U0++qN::List.replicate 85 qC)),(true,List.replicate 10 0++1::(List.replicate 78 2++List.replicate 7 3)),
 (true,[(true,[0,1]),(true,[10]),(true,[11]),(true,[89])]),(true,(true,[0,1])::(upX 2 8++(true,[96])::(true,[97])::(upX 12 77++(true,[98])::(upX 90 6++[(true,[99])]))))⟩
theorem R8:fF lX=fX:=by kernel_rfl
theorem F5:bV lX=.bx [A2.fv fX,.bP]/\A2.WF fX/\(∀q∈fX.s.2,CI q)/\fX.s.2.length<=1000/\fX.f.2.length=lX.length/\lX.length<=200:=by
 have:=zqs R7 bEX qX
 rwa [R8] at this
theorem ckX:MR fX=true:=by kernel_rfl
def ldX:bO:=[0,97,98,99]
def y0(y:Nat):Nat:=if y=97\/y=98\/y=99 then y else 0
theorem zhJ(y:Nat):y0 y∈ldX/\y0 y<=y:=by
 unfold y0 ldX;split
 next h=>rcases h with rfl|rfl|rfl<;>simp
 ·simp
theorem zqM{y:Nat}(h:y<256):∀s∈fX.s.2,ym s y=ym s (y0 y):=λs hs=>by
 have hk:((List.range 256).all λy=>ym U0 y == ym U0 (y0 y) && (ym qA y == ym qA (y0 y) && (ym qN y == ym qN (y0 y) && ym qC y == ym qC (y0 y))))=true:=by decide +kernel
 have:=Dr.1 hk y (Gd.2 h);simp only[eF,beq_iff_eq] at this;obtain⟨h1,h2,h3,h4⟩:=this;simp only[fX,dM,tu,List.mem_replicate] at hs;rcases hs with rfl|rfl|⟨_,rfl⟩|rfl|⟨_,rfl⟩<;>assumption
theorem zcq{ss:List A2.Q4}{y z:Nat}(h:∀s∈ss,ym s y=ym s z):∀k,oG ss y k=oG ss z k
 | 0=>rfl
 | k+1=>by
  simp only[oG];cases hs:ss[k]? with
  | none=>exact zcq h k
  | some s =>
   simp only[h s (pG hs),zcq h k]
theorem nxX(w y:Nat)(h:y<256):nj fX w y=nj fX w (y0 y):=by
 have hw:rZ fX y=rZ fX (y0 y):=zcq (zqM h) _;have:∀(l:bO)(q:Nat),xQ fX (fX.n.2.map λr=>(0,yR r)) y l q=xQ fX (fX.n.2.map λr=>(0,yR r)) (y0 y) l q:=by
  intro l
  induction l with
  | nil=>intro q;rfl
  | cons k l ih =>
   intro q;show xQ _ _ y l (xf _ _ y k q)=xQ _ _ (y0 y) l (xf _ _ (y0 y) k q);rw[zhz hw];exact ih _
 exact this _ _
theorem R9{s n:Nat}{b:Bool}{k:Nat}(h:IU (nj fX) ldX k [s] [] (NT.e.put s) 0=some (n,b)):(zl (nj fX) s n).length=n/\qB (zl (nj fX) s n)=n+(if b then 0 else 1) :=
 zpI (by decide) (by decide) (λw y hy=>⟨y0 y,(zhJ y).1,(zhJ y).2,nxX w y hy⟩) h
theorem s9:(zl (nj fX) (nV fX [0]) 513).length=513/\qB (zl (nj fX) (nV fX [0]) 513)=513:=R9 (k:=3000) (b:=true) (by kernel_rfl)
theorem CO:(zl (nj fX) (nV fX [1]) 2).length=2/\qB (zl (nj fX) (nV fX [1]) 2)=2:=R9 (k:=300) (b:=true) (by kernel_rfl)
theorem CP:(zl (nj fX) (nV fX [2]) 80).length=80/\qB (zl (nj fX) (nV fX [2]) 80)=80:=R9 (k:=300) (b:=true) (by kernel_rfl)
theorem F6:(zl (nj fX) (nV fX [3]) 9).length=9/\qB (zl (nj fX) (nV fX [3]) 9)=9:=R9 (k:=300) (b:=true) (by kernel_rfl)
theorem F7:(zl (nj fX) (nV fX []) 1).length=1/\qB (zl (nj fX) (nV fX []) 1)=1:=R9 (k:=300) (b:=true) (by kernel_rfl)
end Go.Proofs.YthohlnmcjkjeiaaGreatDoor
