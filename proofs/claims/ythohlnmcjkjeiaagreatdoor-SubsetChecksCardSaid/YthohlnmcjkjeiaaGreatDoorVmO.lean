/- Seat 8: the closed run that the laws end in: its text, read; Seat 8: the closed run that the laws end in, with what it reads known; Seat 8: Build, known: expressions told apart by their values; hooks; and what follows from it. Conditions: none but those that each theorem names. -/
import Derived.Test.YthohlnmcjkjeiaaGreatDoorVmJ
import Derived.Test.YthohlnmcjkjeiaaGreatDoorVmK
import Derived.Test.YthohlnmcjkjeiaaGreatDoorVmM
import Derived.Test.YthohlnmcjkjeiaaGreatDoorVmN
namespace Go.Proofs.YthohlnmcjkjeiaaGreatDoor
set_option maxRecDepth 1000000
open Go Go.Vm
end Go.Proofs.YthohlnmcjkjeiaaGreatDoor
namespace Go.Proofs.YthohlnmcjkjeiaaGreatDoor
set_option maxRecDepth 1000000
open Go Go.Vm
end Go.Proofs.YthohlnmcjkjeiaaGreatDoor
namespace Go.Proofs.YthohlnmcjkjeiaaGreatDoor
set_option maxRecDepth 10000
open Go Go.Vm Go.Vm.Sx
open Classical in
theorem znE {f:FuncId} {back:Bool} {ty:Nat} (_h:ty<1048576):uqw (wo f back ty)=false:=by
 have hk:∀ n:Nat,n<1099511627776->Nat.beq (wo f back ty) n=false:=fun n hn=>by
  cases hb:Nat.beq (wo f back ty) n with
  | false=>rfl
  | true =>
   have:=zAJ hb;simp only [wo] at this;omega
 simp only [uqw,hk _ (show (115:Nat)<1099511627776 by decide),hk _ (show (157:Nat)<1099511627776 by decide),hk _ (show (117:Nat)<1099511627776 by decide),hk _ (show kb 205<1099511627776 by decide),zBg]
theorem top_bru:∀ v∈bruT,v.top=0:=by
 intro v hv;obtain ⟨n,_,rfl⟩:=zAo.1 hv;rfl
theorem top_glw:∀ g off v,glw g off=some v->v.top=0:=by
 intro g off v h';unfold glw glT at h';split at h'
 ·rename_i vs hvs;have:=xZ hvs;simp only [zAp,zAD] at this;obtain ⟨_,rfl⟩:=this;rw [zd] at h';exact top_bru v (zAb h')
 ·unfold zhJ at h';split at h'<;>simp only [zAA,reduceCtorEq] at h';subst h';rfl
def gl0:Gl:={ g:=glw,hk:=fun _ _=>none }
instance : NoU gl0:=⟨fun _=>rfl,fun _ _ _ _=>rfl⟩
theorem GL0:GL gl0:=⟨top_glw,fun _ _ _=>rfl⟩
theorem hk0:HkOk Tryz.prog gl0:=⟨fun f args v h=>(by cases h),fun n f args H out H' h=>(by cases h),fun _ _ _ _ h=>(by cases h)⟩
end Go.Proofs.YthohlnmcjkjeiaaGreatDoor
namespace Go.Proofs.YthohlnmcjkjeiaaGreatDoor
set_option maxRecDepth 10000
open Go Go.Vm Go.Vm.Sx
def er0:V:=.ifc 396 (.obj 0)
end Go.Proofs.YthohlnmcjkjeiaaGreatDoor
namespace Go.Proofs.YthohlnmcjkjeiaaGreatDoor
set_option maxRecDepth 1000000
open Go Go.Vm Go.RowKit Go.ChangeAt Go.WideShapes
def hdl:Nat×List V:=(5,[.ifc 275 (.agg [.gptr 19 37])])
def glx:Nat->Nat->Option V:=glT 396 ks [(4,bruT),hdl]
theorem zen {k off:Nat} {v:V} (h:glw k off=some v):glx k off=some v:=by
 have h':=h;unfold glw glT at h';unfold glx glT;simp only [zly,hdl] at h' ⊢;cases h4:Nat.beq k 4 with
 | true=>simp only [h4] at h' ⊢;exact h'
 | false =>
  simp only [h4] at h' ⊢;cases h5:Nat.beq k 5 with
  | false=>exact h'
  | true =>
   exfalso;have:=zAJ h5;subst this;unfold zhJ at h';revert h';simp [ks]
theorem zq6 {g:Gh} (h:GlOk Tryz.prog glx g):GlOk Tryz.prog glw g :=
 ⟨fun k off v hv=>h.1 k off v (zen hv),fun k U j hv=>⟨(h.2 k U j (zen hv)).1,fun k' U' j' hv' e=>(h.2 k U j (zen hv)).2 k' U' j' (zen hv') e⟩⟩
theorem top_glx:∀ g off v,glx g off=some v->v.top=0:=by
 intro g off v h;unfold glx glT at h;split at h
 ·rename_i vs hvs;have:=xZ hvs;simp only [zAK,zBI,zBs,hdl,zAD] at this;rw [zd] at h;rcases this with ⟨_,rfl⟩|⟨_,rfl⟩
  ·exact top_bru v (zAb h)
  ·have:=zAb h;simp only [zAp] at this;rw [this];rfl
 ·unfold zhJ at h;split at h<;>simp only [zAA,reduceCtorEq] at h;subst h;rfl
def zq7 (f:FuncId) (args:List V):Option V:=if Nat.beq f 123 then match args with
 | [.ifc 396 (.obj i),.ifc 396 (.obj j)]=>if ks.any (Nat.beq i) && ks.any (Nat.beq j) then some (.bool (Nat.beq i j)) else none
 | _=>none else none
def zq8 (_:Nat) (f:FuncId) (args:List V) (H:Hp):Option (Out×Hp):=if Nat.beq f 99 then match args with
 | [.ifc 396 (.obj _),.ifc tt (.ptr _ _)]=>if Nat.beq tt 167 || Nat.beq tt 171 || Nat.beq tt 176 || Nat.beq tt 180 then some (.ret (.bool false),H) else none
 | _=>none else none
def glE:Gl:={ g:=glx,hk:=zq7,hk2:=zq8 }
theorem znF {k:Nat} (h:ks.any (Nat.beq k)=true):glx k 0=some (.ifc 396 (.obj k)):=by
 refine zen ?_;obtain ⟨x,hx,hk⟩:=List.any_eq_true.1 h;obtain rfl:=zAJ hk;simp only [ks,zAK,zBI,zBs] at hx;rcases hx with rfl|rfl|rfl|rfl|rfl|rfl|rfl|rfl|rfl|rfl|rfl|rfl|rfl|rfl|rfl|rfl<;>rfl
theorem args2 {g:Gh} {n:Nat} {a b:V} {cargs:Array Value} (h:ArgsOk g n [a,b] cargs):∃ x y,cargs=#[x,y]/\RelV g a x/\RelV g b y:=by
 obtain ⟨l⟩:=cargs;have:=h.len
 match l,this with
 | [x,y],_=>exact ⟨x,y,rfl,h.rel 0 a x rfl rfl,h.rel 1 b y rfl rfl⟩
theorem hkE:HkOk Tryz.prog glE:=by
 refine ⟨fun f args v h d H g w cargs lc h1 h2 h3=>?_,fun n f args H out H' h d hd g w cargs lc h1 h2 h3=>?_,fun _ _ _ _ h=>(by cases h)⟩
 ·simp only [glE,zq7] at h;split at h
  ·rename_i hf;obtain rfl:f=123:=zAJ hf;split at h
   ·rename_i i j;split at h
    ·rename_i hk;simp only [zAC] at hk;cases h;obtain ⟨x,y,rfl,r1,r2⟩:=args2 h3;cases r1 with
     | ifc r1=>cases r2 with
      | ifc r2=>cases r1 with
       | obj _=>cases r2 with
        | obj _ =>
         have hA:=zcO (d:=d) h2 (Below.refl w.heap.size w);cases hij:Nat.beq i j with
         | true =>
          obtain rfl:=zAJ hij;refine Calls.mono (zpi (g.obj i) w) fun e w' he=>?_;obtain ⟨rfl,rfl⟩:=he;exact ⟨_,g,rfl,hA,.bool true,trivial,zAW _⟩
         | false =>
          obtain ⟨k1,k2⟩:=h1.2 i 396 i (znF hk.1);obtain ⟨k3,k4⟩:=h1.2 j 396 j (znF hk.2);have hne:g.obj i≠g.obj j:=fun e=>by
           have:=k2 j 396 j (znF hk.2) e;subst this;simp at hij
          obtain ⟨⟨xs,t,l1⟩,_⟩:=h2.laid _ k1;obtain ⟨⟨ys,t',l2⟩,_⟩:=h2.laid _ k3;refine Calls.mono (znB (g.obj i) (g.obj j) xs ys t t' w hne l1 l2) fun e w' he=>?_;obtain ⟨rfl,rfl⟩:=he;exact ⟨_,g,rfl,hA,.bool false,trivial,zAW _⟩
    ·cases h
   ·cases h
  ·cases h
 ·simp only [glE,zq8] at h;split at h
  ·rename_i hf;obtain rfl:f=99:=zAJ hf;split at h
   ·rename_i i tt b o;split at h
    ·rename_i hk;cases h;obtain ⟨x,y,rfl,r1,r2⟩:=args2 h3;obtain ⟨cv,m1,m2,_⟩:=h1.1 5 0 (.ifc 275 (.agg [.gptr 19 37])) rfl;have hc:cv=.iface 275 (.agg #[.pointer (some ⟨19,37,none⟩)]):=by
      cases m2 with
      | ifc m=>cases m with
       | agg e1 e2 e3 =>
        rename_i arr;obtain ⟨l⟩:=arr
        match l,e1 with
        | [z],_ =>
         have:=e3 0 _ z rfl rfl;cases this;rfl
     subst hc;have hcell:=h2.mem 5 0 _ m1;have hF:AsF 167 165/\AsF 171 170/\AsF 176 175/\AsF 180 179:=⟨asF167,asF171,asF176,asF180⟩;have main:∀ tt te,AsF tt te->RelV g (.ifc tt (.ptr b o)) y->Calls Tryz.prog 99 #[x,y] w (CallPost d H g w lc (.ret (.bool false)) H):=fun tt te F q2=>by
      clear r2;cases r1 with
      | ifc r1=>cases q2 with
       | ifc q2=>cases r1 with
        | obj _=>cases q2 with
         | ptr _ _ =>
          refine Calls.mono (zpj F (g.obj i) _ w hcell) fun e w' he=>?_;obtain ⟨rfl,rfl⟩:=he;refine ⟨_,g,rfl,zcO h2 ?_,.bool false,trivial,zAW _⟩;exact (((Below.refl _ w).alloc (zAO _) _).alloc (by simp) _).alloc (by simp;omega) _
     simp only [zAe] at hk;rcases hk with ((hk|hk)|hk)|hk
     all_goals (have hh:=zAJ hk;subst hh)
     ·exact main _ _ hF.1 r2
     ·exact main _ _ hF.2.1 r2
     ·exact main _ _ hF.2.2.1 r2
     ·exact main _ _ hF.2.2.2 r2
    ·cases h
   ·cases h
  ·cases h
def zq9 (k:Int):V:=.agg [.int .i64 k,.int .i64 0,.int .i64 0,.int .i64 0,.snil]
theorem zqD (n:Nat):zk Tryz.prog glE (n+60) 15 [er0,zq9 15] ⟨[],[]⟩=some (.ret (.bool true),⟨[],[]⟩):=by kernel_rfl
end Go.Proofs.YthohlnmcjkjeiaaGreatDoor
