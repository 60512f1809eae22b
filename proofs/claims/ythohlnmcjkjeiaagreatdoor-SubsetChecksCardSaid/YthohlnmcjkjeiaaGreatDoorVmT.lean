/- Seat 8: what the two sides come to, out of their trees; Seat 8, subset: Check, May, Run, copies and comparisons, out of their trees; Seat 8, subset: May and Run, out of their trees; and what follows from it. Conditions: none but those that each theorem names. -/
import Derived.Test.YthohlnmcjkjeiaaGreatDoorVmR
import Derived.Test.YthohlnmcjkjeiaaGreatDoorVmS
namespace Go.Proofs.YthohlnmcjkjeiaaGreatDoor.A2
set_option linter.unusedSectionVars false
set_option maxRecDepth 10000
open Go Go.Vm Go.Vm.Sx
variable {gl:Gl} [NoU gl]
def gi (l:List Int) (i:Nat):Int:=l.getD i 0
theorem zqM {l:List Int} {i:Nat} (h:i<l.length):l[i]?=some (gi l i):=by simp [gi,h]
theorem zae {l:List Int} {i:Nat} (h:i<l.length):nth (l.map ie) i=some (ie (gi l i)):=nth_map (zqM h)
def gr (l:List (List Int)) (i:Nat):List Int:=l.getD i []
def rowsOf (p:Rows'):List (List Int):=p.2.map (·.2)
theorem qT (p:Rows'):(rowsOf p).length=p.2.length:=by simp [rowsOf]
theorem zg2 {p:Rows'} {i:Nat} {q:Ints} (h:p.2[i]?=some q):gr (rowsOf p) i=q.2:=by simp [gr,rowsOf,h]
end Go.Proofs.YthohlnmcjkjeiaaGreatDoor.A2
namespace Go.Proofs.YthohlnmcjkjeiaaGreatDoor.A2
set_option linter.unusedSectionVars false
set_option maxRecDepth 10000
open Go Go.Vm Go.Vm.Sx
variable {gl:Gl} [NoU gl]
theorem lent27:jB Tryz.prog Tryz.f27.params.toList=some []:=by kernel_rfl
theorem lent29:jB Tryz.prog Tryz.f29.params.toList=some []:=by kernel_rfl
theorem lent31:jB Tryz.prog Tryz.f31.params.toList=some []:=by kernel_rfl
theorem lent32:jB Tryz.prog Tryz.f32.params.toList=some []:=by kernel_rfl
theorem lent33:jB Tryz.prog Tryz.f33.params.toList=some []:=by kernel_rfl
theorem lent34:jB Tryz.prog Tryz.f34.params.toList=some []:=by kernel_rfl
theorem lent7:jB Tryz.prog Tryz.f7.params.toList=some []:=by kernel_rfl
theorem lent23:jB Tryz.prog Tryz.f23.params.toList=some []:=by kernel_rfl
def xm (p:Rows'):Rows':=(true,p.2.map fun q=>(true,q.2))
theorem zrx (hgl:GL gl) (p:Rows') (hp:WR p):Ev Tryz.prog gl 68 [.d (rv p)] [] (acc 1 27 (p.2.map fun q=>iv (true,q.2))) []:=by
 refine qL (xs:=[rv p]) hgl.top (hgl.no 68 rfl) tree68_ok Tryz.func68 lent68 zrd (by simp [tops,zjq]) (N:=p.2.length+1) ?_
 have hr:=reach_le;have hpl:=hp.1;simp only [tree68];simp only [SA,zaC];refine qM (st:=fun i=>[acc 1 27 ((p.2.take i).map fun q=>iv (true,q.2)),.int .i64 (i:Int)]) (m:=p.2.length) (fun i hi=>?_) ?_ (by omega)
 ·obtain ⟨q,hq⟩:∃ q,p.2[i]?=some q:=⟨p.2[i],by simp [hi]⟩
  have hc:=jq (zre hgl q (hp.2 q (zAb hq)));have h1:=vY hi;have h2:=nth_map (h:=iv) hq;have h4:=vZ (i:=i) (by omega)
  have h5:qG (((p.2.take i).map fun q=>iv (true,q.2))++[iv (true,q.2)]).length 24=true :=
   Sx.roomA_of (by simp;omega) (by simp;omega)
  have h6:(p.2.take (i+1)).map (fun q=>iv (true,q.2))=(p.2.take i).map (fun q=>iv (true,q.2))++[iv (true,q.2)]:=by
   rw [List.take_add_one,hq];simp
  have h7:clr (acc 1 3 (q.2.map ie))=iv (true,q.2):=zgR ..;have h8:ltz (i:Int) 0=false:=jR;rw [h6,<- znk];simp only [lp68_1];simp only [SA,qB,h1,h2,h4,h5,h7,h8,hc,j9,zpQ,clr_iv,zo3,zqt,zAU,zAd]
 ·have h1:=xj (zAO p.2.length);have h2:p.2.take p.2.length=p.2:=zBc;simp only [lp68_1];simp only [SA,qB,h1,h2,zAU]
theorem ev63 (hgl:GL gl) (a b:Bool) (l:List Int) (hl:l.length * 8<=reachBytes):Ev Tryz.prog gl 63 [.d (iv (a,l)),.d (iv (b,l))] [] (.bool true) []:=by
 refine qL (xs:=[iv (a,l),iv (b,l)]) hgl.top (hgl.no 63 rfl) tree63_ok Tryz.func63 lent63 zpo (by simp [tops,top_iv]) (N:=l.length+1) ?_
 have hr:=reach_le;simp only [tree63];simp only [SA,j9,jn,zAU,beq_self_eq_true];refine qM (st:=fun i=>[.int .i64 (i:Int)]) (m:=l.length) (fun i hi=>?_) ?_ (by omega)
 ·obtain ⟨q,hq⟩:∃ q,l[i]?=some q:=⟨l[i],by simp [hi]⟩
  have h1:=vY hi;have h2:=nth_map (h:=ie) hq;have h4:=vZ (i:=i) (by omega)
  simp only [lp63_1];simp only [SA,jn,h1,h2,h4,zaD,wL,zAU,zAd,beq_self_eq_true]
 ·have h1:=xj (zAO l.length);simp only [lp63_1];simp only [SA,jn,h1,zAU]
theorem ev64 (hgl:GL gl) (a:Bool) (p:Rows') (hp:WR p):Ev Tryz.prog gl 64 [.d (rv (xm p)),.d (rv (a,p.2))] [] (.bool true) []:=by
 refine qL (xs:=[rv (xm p),rv (a,p.2)]) hgl.top (hgl.no 64 rfl) tree64_ok Tryz.func64 lent64 zpp (by simp [tops,zjq]) (N:=p.2.length+1) ?_
 have hr:=reach_le;have hpl:=hp.1;have hcl:(xm p).2.length=p.2.length:=by simp [xm]
 simp only [tree64];simp only [SA,zaC,qB,zAU,hcl,beq_self_eq_true];refine qM (st:=fun i=>[.int .i64 (i:Int)]) (m:=p.2.length) (fun i hi=>?_) ?_ (by omega)
 ·obtain ⟨q,hq⟩:∃ q,p.2[i]?=some q:=⟨p.2[i],by simp [hi]⟩
  have hq':(xm p).2[i]?=some (true,q.2):=by simp [xm,hq]
  have hc:=jq (ev63 hgl true q.1 q.2 (hp.2 q (zAb hq)).1);have h1:=vY hi;have h2:=nth_map (h:=iv) hq;have h3:=nth_map (h:=iv) hq';have h4:=vZ (i:=i) (by omega)
  simp only [lp64_1];simp only [SA,qB,h1,h2,h3,h4,hc,hcl,j9,clr_iv,zAU,zAd]
 ·have h1:=xj (zAO p.2.length);simp only [lp64_1];simp only [SA,qB,h1,hcl,zAU]
theorem zfI {pc:FuncId->List AV->List (List V×TypeId)->Option (V×List (List V))} {g:Nat->Nat->Option V} {N:Nat} {ρ:List V} {body:Tree} {ok:Nat->Bool} {st:Nat->List V} {n jg jb:Nat} {good bad:List V} {x:Option (Nat×List V)} (hgo:∀ i,i<n->ok i=true->evT pc g N body (ρ++st i)=some (0,st (i+1))) (hbad:∀ i,i<n->ok i=false->evT pc g N body (ρ++st i)=some (jb+1,bad))
  (hend:xn ok n=true->evT pc g N body (ρ++st n)=some (jg+1,good)) (hN:n<N) (hx:x=bif xn ok n then some (jg,good) else some (jb,bad)):zkt pc g N body ρ (st 0)=x:=by
 subst hx;cases h:xn ok n with
 | true=>exact qM (fun i hi=>hgo i hi (allB_iff.1 h i hi)) (hend h) hN
 | false =>
  obtain ⟨m,h1,h2,h3⟩:=za6 h;exact qM (m:=m) (fun i hi=>hgo i (by omega) (h3 i hi)) (hbad m h1 h2) (by omega)
abbrev D:=Rows'×Ints
def dcV (d:D):V:=.agg [rv d.1,iv d.2]
theorem top_dc (d:D):(dcV d).top=0:=by simp [dcV,V.top,tops,zjq,top_iv]
structure WD (d:D):Prop where
 n:WR d.1
 l:WI d.2
theorem zoa {x:V}:wB Tryz.prog [66] [.d x] 0:=by
 refine ⟨fun e=>?_,trivial⟩;rw [Tryz.underlying66];simp
theorem zpE {x y:V}:wB Tryz.prog [66,66] [.d x,.d y] 0:=by
 refine ⟨fun e=>?_,fun e=>?_,trivial⟩<;>rw [Tryz.underlying66]<;>simp
def kT (d:D):D:=(xm d.1,(true,d.2.2))
theorem zry (hgl:GL gl) (d:D) (hd:WD d):Ev Tryz.prog gl 31 [.d (dcV d)] [] (dcV (kT d)) []:=by
 refine qL (xs:=[dcV d]) hgl.top (hgl.no 31 rfl) tree31_ok Tryz.func31 lent31 zoa (by simp [tops,top_dc]) (N:=1) ?_
 have e1:=jq (zrx hgl d.1 hd.n);have e2:=jq (zre hgl d.2 hd.l);have a2:clr (acc 1 3 (d.2.2.map ie))=iv (true,d.2.2):=zgR ..;have a1:clr (acc 1 27 (d.1.2.map fun q=>iv (true,q.2)))=rv (xm d.1):=by
  rw [zgR];simp [rv,xm,Function.comp_def]
 simp only [tree31,dcV,kT];simp only [SA,j9,zaC,zpQ,a1,a2,e1,e2,clr_iv,clr_rv]
theorem zrz (hgl:GL gl) (d:D) (hd:WD d):Ev Tryz.prog gl 29 [.d (dcV (kT d)),.d (dcV d)] [] (.bool true) []:=by
 refine qL (xs:=[dcV (kT d),dcV d]) hgl.top (hgl.no 29 rfl) tree29_ok Tryz.func29 lent29 zpE (by simp [tops,top_dc]) (N:=1) ?_
 have e1:=jq (ev64 hgl d.1.1 d.1 hd.n);have e2:=jq (ev63 hgl true d.2.1 d.2.2 hd.l.1);simp only [tree29,dcV,kT];simp only [SA,j9,zaC,e1,e2,clr_iv,clr_rv]
def ziH (n:Nat) (q:List Int) (c:Nat):Bool:=!ltz (gi q c) 0 && !lez (n:Int) (gi q c)
def okR (rows:List (List Int)) (ls:List Int) (n i:Nat):Bool:=((((gr rows i).length:Nat):Int) == 256) && (!ltz (gi ls i) (-1) && (!lez 200 (gi ls i) && xn (ziH n (gr rows i)) 256))
def mayD (rows:List (List Int)) (ls:List Int):Bool :=
 bif ((ltz (rows.length:Int) 1 || ltz 600 (rows.length:Int)) || !((ls.length:Int) == (rows.length:Int))) then false else xn (okR rows ls rows.length) rows.length
theorem ev27 (hgl:GL gl) (d:D) (_hd:WD d):Ev Tryz.prog gl 27 [.d (dcV d)] [] (.bool (mayD (rowsOf d.1) d.2.2)) []:=by
 refine qL (xs:=[dcV d]) hgl.top (hgl.no 27 rfl) tree27_ok Tryz.func27 lent27 zoa (by simp [tops,top_dc]) (N:=d.1.2.length+257) ?_
 have hr:=reach_le;simp only [tree27,dcV,mayD,qT];cases hh:((ltz (d.1.2.length:Int) 1 || ltz 600 (d.1.2.length:Int)) || !((d.2.2.length:Int) == (d.1.2.length:Int))) with
 | true=>simp only [SA,j9,zaC,jn,qB,hh,zAU]
 | false =>
 have hh':=hh;simp only [zBb,Bool.not_eq_false',beq_iff_eq] at hh';obtain ⟨⟨g1,g2⟩,g3⟩:=hh';have hll:d.2.2.length=d.1.2.length:=by omega
 have hn600:d.1.2.length<=600:=by
  have:=g2;simp only [ltz,decide_eq_false_iff_not] at this;omega
 simp only [SA,j9,zaC,jn,qB,hh,zAU];have ρ:∀ i,i<d.1.2.length->evT (phE Tryz.prog gl) gl (d.1.2.length+257) lp27_2 ([dcV d,rv d.1,iv d.2]++[.int .i64 (i:Int)])=bif okR (rowsOf d.1) d.2.2 d.1.2.length i then some (0,[.int .i64 ((i+1:Nat):Int)]) else some (1,[.bool false]):=by
  intro i hi;obtain ⟨q,hq⟩:∃ q,d.1.2[i]?=some q:=⟨d.1.2[i],by simp [hi]⟩
  have h1:=vY hi;have h2:=nth_map (h:=iv) hq;have h3:=zae (l:=d.2.2) (i:=i) (by omega)
  have h4:=vZ (i:=i) (by omega)
  have h8:ltz (i:Int) 0=false:=jR;simp only [lp27_2,okR,dcV];rw [zg2 hq];generalize gi d.2.2 i=x at h3 ⊢;cases h5:(((q.2.length:Nat):Int) == 256) with
  | false=>simp only [SA,qB,jn,h1,h2,h5,h8,j9,zAU,zAd]
  | true =>
  have hq256:q.2.length=256:=by
   have:=eq_of_beq h5;omega
  cases h6:ltz x (-1) with
  | true=>simp only [SA,qB,jn,h1,h2,h3,h5,h6,h8,j9,zaD,wL,zAU,zAd]
  | false =>
  cases h7:lez 200 x with
  | true=>simp only [SA,qB,jn,h1,h2,h3,h5,h6,h7,h8,j9,zaD,wL,zAU,zAd]
  | false =>
  simp only [SA,qB,jn,h1,h2,h3,h5,h6,h7,h8,j9,zaD,wL,zAU,zAd];refine zfI (ok:=ziH d.1.2.length q.2) (st:=fun c=>[.int .i64 (c:Int)]) (n:=256) (jg:=0) (jb:=1) (good:=[.int .i64 ((i+1:Nat):Int)]) (bad:=[.bool false]) (fun c hc hk=>?_) (fun c hc hk=>?_) (fun _=>?_) (by omega) rfl
  ·have k1:ltz (c:Int) ((q.2.length:Nat):Int)=true:=vY (by omega)
   have k2:=zae (l:=q.2) (i:=c) (by omega)
   have k4:=vZ (i:=c) (by omega)
   have k8:ltz (c:Int) 0=false:=jR;simp only [ziH,zAC,zAn] at hk;simp only [lp27_1];simp only [SA,qB,jn,k1,k2,k4,k8,hk.1,hk.2,zaD,wL,zAU,zAd]
  ·have k1:ltz (c:Int) ((q.2.length:Nat):Int)=true:=vY (by omega)
   have k2:=zae (l:=q.2) (i:=c) (by omega)
   have k8:ltz (c:Int) 0=false:=jR;have hk':(ltz (gi q.2 c) 0 || lez (d.1.2.length:Int) (gi q.2 c))=true:=by
    simp only [ziH] at hk;revert hk;cases ltz (gi q.2 c) 0<;>cases lez (d.1.2.length:Int) (gi q.2 c)<;>simp
   simp only [lp27_1];simp only [SA,qB,jn,k1,k2,k8,hk',zaD,wL,zAU,zAd]
  ·have k1:ltz ((256:Nat):Int) ((q.2.length:Nat):Int)=false:=xj (by omega)
   simp only [lp27_1];simp only [SA,jn,k1,h4,zAU]
 refine zid (ok:=okR (rowsOf d.1) d.2.2 d.1.2.length) (st:=fun i=>[.int .i64 (i:Int)]) (n:=d.1.2.length) (good:=[.bool true]) (bad:=[.bool false]) (fun i hi hk=>?_) (fun i hi hk=>?_) (fun _=>?_) (by omega) ?_
 ·have:=ρ i hi;rw [hk] at this;exact this
 ·have:=ρ i hi;rw [hk] at this;exact this
 ·have h1:=xj (zAO d.1.2.length);simp only [lp27_2];simp only [SA,qB,h1,zAU]
 ·cases xn (okR (rowsOf d.1) d.2.2 d.1.2.length) d.1.2.length<;>rfl
end Go.Proofs.YthohlnmcjkjeiaaGreatDoor.A2
namespace Go.Proofs.YthohlnmcjkjeiaaGreatDoor.A2
set_option linter.unusedSectionVars false
set_option maxRecDepth 10000
open Go Go.Vm Go.Vm.Sx
variable {gl:Gl} [NoU gl]
theorem zrA (hgl:GL gl) (d:D) (_hd:WD d):Ev Tryz.prog gl 32 [.d (dcV d)] [] (.bool (mayD (rowsOf d.1) d.2.2)) []:=by
 refine qL (xs:=[dcV d]) hgl.top (hgl.no 32 rfl) tree32_ok Tryz.func32 lent32 zoa (by simp [tops,top_dc]) (N:=d.1.2.length+257) ?_
 have hr:=reach_le;simp only [tree32,dcV,mayD,qT];cases hh:((ltz (d.1.2.length:Int) 1 || ltz 600 (d.1.2.length:Int)) || !((d.2.2.length:Int) == (d.1.2.length:Int))) with
 | true=>simp only [SA,j9,zaC,jn,qB,hh,zAU]
 | false =>
 have hh':=hh;simp only [zBb,Bool.not_eq_false',beq_iff_eq] at hh';obtain ⟨⟨g1,g2⟩,g3⟩:=hh';have hll:d.2.2.length=d.1.2.length:=by omega
 have hn600:d.1.2.length<=600:=by
  have:=g2;simp only [ltz,decide_eq_false_iff_not] at this;omega
 simp only [SA,j9,zaC,jn,qB,hh,zAU];have ρ:∀ i,i<d.1.2.length->evT (phE Tryz.prog gl) gl (d.1.2.length+257) lp32_2 ([dcV d,rv d.1,iv d.2]++[.int .i64 (i:Int)])=bif okR (rowsOf d.1) d.2.2 d.1.2.length i then some (0,[.int .i64 ((i+1:Nat):Int)]) else some (1,[.bool false]):=by
  intro i hi;obtain ⟨q,hq⟩:∃ q,d.1.2[i]?=some q:=⟨d.1.2[i],by simp [hi]⟩
  have h1:=vY hi;have h2:=nth_map (h:=iv) hq;have h3:=zae (l:=d.2.2) (i:=i) (by omega)
  have h4:=vZ (i:=i) (by omega)
  have h8:ltz (i:Int) 0=false:=jR;simp only [lp32_2,okR,dcV];rw [zg2 hq];generalize gi d.2.2 i=x at h3 ⊢;cases h5:(((q.2.length:Nat):Int) == 256) with
  | false=>simp only [SA,qB,jn,h1,h2,h5,h8,j9,zAU,zAd]
  | true =>
  have hq256:q.2.length=256:=by
   have:=eq_of_beq h5;omega
  cases h6:ltz x (-1) with
  | true=>simp only [SA,qB,jn,h1,h2,h3,h5,h6,h8,j9,zaD,wL,zAU,zAd]
  | false =>
  cases h7:lez 200 x with
  | true=>simp only [SA,qB,jn,h1,h2,h3,h5,h6,h7,h8,j9,zaD,wL,zAU,zAd]
  | false =>
  simp only [SA,qB,jn,h1,h2,h3,h5,h6,h7,h8,j9,zaD,wL,zAU,zAd];refine zfI (ok:=ziH d.1.2.length q.2) (st:=fun c=>[.int .i64 (c:Int)]) (n:=256) (jg:=0) (jb:=1) (good:=[.int .i64 ((i+1:Nat):Int)]) (bad:=[.bool false]) (fun c hc hk=>?_) (fun c hc hk=>?_) (fun _=>?_) (by omega) rfl
  ·have k1:ltz (c:Int) 256=true:=zfs (by omega)
   have k2:=zae (l:=q.2) (i:=c) (by omega)
   have k4:=vZ (i:=c) (by omega)
   have k8:ltz (c:Int) 0=false:=jR;simp only [ziH,zAC,zAn] at hk;simp only [lp32_1];simp only [SA,qB,jn,h2,h8,k1,k2,k4,k8,hk.1,hk.2,j9,zaD,wL,zAU,zAd]
  ·have k1:ltz (c:Int) 256=true:=zfs (by omega)
   have k2:=zae (l:=q.2) (i:=c) (by omega)
   have k8:ltz (c:Int) 0=false:=jR;simp only [ziH] at hk;cases k5:ltz (gi q.2 c) 0 with
   | true =>
    simp only [lp32_1];simp only [SA,qB,jn,h2,h8,k1,k2,k8,k5,j9,zaD,wL,zAd]
   | false =>
    rw [k5] at hk;have k6:lez (d.1.2.length:Int) (gi q.2 c)=true:=by simpa using hk
    simp only [lp32_1];simp only [SA,qB,jn,h2,h8,k1,k2,k8,k5,k6,j9,zaD,wL,zAU,zAd]
  ·have k1:ltz ((256:Nat):Int) 256=false:=rfl;simp only [lp32_1];simp only [SA,k1,h4]
 refine zid (ok:=okR (rowsOf d.1) d.2.2 d.1.2.length) (st:=fun i=>[.int .i64 (i:Int)]) (n:=d.1.2.length) (good:=[.bool true]) (bad:=[.bool false]) (fun i hi hk=>?_) (fun i hi hk=>?_) (fun _=>?_) (by omega) ?_
 ·have:=ρ i hi;rw [hk] at this;exact this
 ·have:=ρ i hi;rw [hk] at this;exact this
 ·have h1:=xj (zAO d.1.2.length);simp only [lp32_2];simp only [SA,qB,h1,zAU]
 ·cases xn (okR (rowsOf d.1) d.2.2 d.1.2.length) d.1.2.length<;>rfl
def zeI (rows:List (List Int)):Int->List Int->Int
 | s,[]=>s
 | s,b::t=>zeI rows (gi (gr rows s.toNat) b.toNat) t
theorem zcC {rows:List (List Int)} {b:Int}:∀ {t:List Int} {s:Int},zeI rows s (t++[b])=gi (gr rows (zeI rows s t).toNat) b.toNat
 | [],_s=>rfl
 | _::t,_s=>zcC (t:=t)
theorem zb1 {rows:List (List Int)} {ls:List Int} (h:mayD rows ls=true):(1<=rows.length/\rows.length<=600)/\∀ i,i<rows.length->(gr rows i).length=256/\∀ c,c<256->0<=gi (gr rows i) c/\gi (gr rows i) c<rows.length:=by
 unfold mayD at h;cases hh:((ltz (rows.length:Int) 1 || ltz 600 (rows.length:Int)) || !((ls.length:Int) == (rows.length:Int))) with
 | true=>rw [hh] at h;cases h
 | false =>
  rw [hh] at h;simp only [cond_false] at h;simp only [zBb,ltz,decide_eq_false_iff_not] at hh;refine ⟨by omega,fun i hi=>?_⟩
  have hi':=allB_iff.1 h i hi;simp only [okR,zAC] at hi';obtain ⟨h1,_,_,h2⟩:=hi';refine ⟨by have:=eq_of_beq h1;omega,fun c hc=>?_⟩
  have hk:=allB_iff.1 h2 c hc;simp only [ziH,zAC,zAn,ltz,lez,decide_eq_false_iff_not] at hk;omega
theorem zg3 {rows:List (List Int)} {ls:List Int} (h:mayD rows ls=true):∀ {t:List Int} {s:Int},(∀ b∈t,0<=b/\b<256)->0<=s->s<rows.length->0<=zeI rows s t/\zeI rows s t<rows.length
 | [],s,_,h0,h1=>⟨h0,h1⟩
 | b::t,s,hb,h0,h1=>by
  have hb0:=hb b (zAL ..);have:=((zb1 h).2 s.toNat (by omega)).2 b.toNat (by omega)
  exact zg3 h (t:=t) (fun c hc=>hb c (zAE _ hc)) this.1 this.2
def be (b:Int):V:=.int .u8 b
def bvV (p:Ints):V:=lv 1 p.1 (p.2.map be)
theorem zob (p:Ints):kOk (.sl 1) (bvV p)=true:=znj ..
theorem zkR (p:Ints):vL (bvV p)=p.2.map be:=zic ..
theorem zeJ (p:Ints):clr (bvV p)=bvV p:=zcu ..
theorem zrj (n:Int):kOk (.int .u8) (be n)=true:=by simp [be,kOk]
theorem zpY (n:Int):vI (be n)=n:=by simp [be,vI]
theorem top_bv (p:Ints):(bvV p).top=0:=by
 rw [bvV,zec];exact tops_map (fun _=>rfl) _
def er0':V:=.ifc 396 (.obj 0)
theorem zrk {x y:V}:wB Tryz.prog [66,78] [.d x,.d y] 0:=by
 refine ⟨fun e=>?_,fun e=>?_,trivial⟩
 ·rw [Tryz.underlying66];simp
 ·rw [Tryz.underlying78];simp
theorem zrl {x y z:V}:wB Tryz.prog [66,3,78] [.d x,.d y,.d z] 0:=by
 refine ⟨fun e=>?_,fun e=>?_,fun e=>?_,trivial⟩
 ·rw [Tryz.underlying66];simp
 ·rw [Tryz.underlying3];simp
 ·rw [Tryz.underlying78];simp
def runV (d:D) (t:List Int):V:=bif mayD (rowsOf d.1) d.2.2 then .tup [.int .i64 (zeI (rowsOf d.1) 0 t),.nili] else .tup [.int .i64 0,er0']
theorem ev33 (hgl:GL gl) (hg0:gl.g 0 0=some er0') (d:D) (hd:WD d) (t:Ints) (ht:t.2.length<2 ^ 60) (hb:∀ b∈t.2,0<=b/\b<256):Ev Tryz.prog gl 33 [.d (dcV d),.d (bvV t)] [] (runV d t.2) []:=by
 refine qL (xs:=[dcV d,bvV t]) hgl.top (hgl.no 33 rfl) tree33_ok Tryz.func33 lent33 zrk (by simp [tops,top_dc,top_bv]) (N:=t.2.length+1) ?_
 have e27:=jq (ev27 hgl d hd);simp only [tree33,dcV,runV] at e27 ⊢;cases hm:mayD (rowsOf d.1) d.2.2 with
 | false =>
  rw [hm] at e27;have ke:kOk .ifc er0'=true:=rfl;have ce:clr er0'=er0':=rfl;simp only [SA,j9,zaC,zob,clr_iv,clr_rv,e27,hg0,ke,ce]
 | true =>
  rw [hm] at e27;have h0:=(zb1 hm).1;rw [qT] at h0;simp only [SA,j9,zaC,zob,clr_iv,clr_rv,e27];refine qM (st:=fun i=>[.int .i64 (zeI (rowsOf d.1) 0 (t.2.take i)),.int .i64 (i:Int)]) (m:=t.2.length) (fun i hi=>?_) ?_ (by omega)
  ·obtain ⟨b,hbi⟩:∃ b,t.2[i]?=some b:=⟨t.2[i],by simp [hi]⟩
   have hbr:=hb b (zAb hbi);have htk:t.2.take (i+1)=t.2.take i++[b]:=by rw [List.take_add_one,hbi];rfl
   have hs:=zg3 hm (t:=t.2.take i) (s:=0) (fun c hc=>hb c (zAw hc)) (Int.le_refl _) (by rw [qT];omega)
   rw [qT] at hs;rw [htk,zcC];generalize hS:zeI (rowsOf d.1) 0 (t.2.take i)=S at hs ⊢;obtain ⟨q,hq⟩:∃ q,d.1.2[S.toNat]?=some q:=⟨d.1.2[S.toNat]'(by omega),by simp [show S.toNat<d.1.2.length by omega]⟩
   have hq256:=((zb1 hm).2 S.toNat (by rw [qT];omega)).1
   rw [zg2 hq] at hq256 ⊢;have h1:=vY hi;have h2:=nth_map (h:=be) hbi;have h3:=nth_map (h:=iv) hq;have h4:=vZ (i:=i) (by omega)
   have h5:=zae (l:=q.2) (i:=b.toNat) (by omega)
   have h6:ltz S 0=false:=zft hs.1;have h7:ltz b 0=false:=zft hbr.1;have h8:ltz (i:Int) 0=false:=jR;simp only [lp33_1];simp only [SA,zkR,qB,jn,h1,h2,h3,h4,h5,h6,h7,h8,j9,zaD,zrj,zpY,znI,zAU,zAd];rfl
  ·have h1:=xj (zAO t.2.length);simp only [lp33_1];rw [zBc];simp only [SA,zkR,h1,zAU]
theorem zrB (hgl:GL gl) (d:D) (hm:mayD (rowsOf d.1) d.2.2=true) (t:Ints) (ht:t.2.length<2 ^ 60) (hb:∀ b∈t.2,0<=b/\b<256):Ev Tryz.prog gl 34 [.d (dcV d),.d (.int .i64 0),.d (bvV t)] [] (.int .i64 (zeI (rowsOf d.1) 0 t.2)) []:=by
 refine qL (xs:=[dcV d,.int .i64 0,bvV t]) hgl.top (hgl.no 34 rfl) tree34_ok Tryz.func34 lent34 zrl (by simp [tops,top_dc,top_bv,V.top]) (N:=t.2.length+1) ?_
 have h0:=(zb1 hm).1;rw [qT] at h0;simp only [tree34,dcV];simp only [SA,j9,zaC,zob];refine qM (st:=fun i=>[.int .i64 (zeI (rowsOf d.1) 0 (t.2.take i)),.int .i64 (i:Int)]) (m:=t.2.length) (fun i hi=>?_) ?_ (by omega)
 ·obtain ⟨b,hbi⟩:∃ b,t.2[i]?=some b:=⟨t.2[i],by simp [hi]⟩
  have hbr:=hb b (zAb hbi);have htk:t.2.take (i+1)=t.2.take i++[b]:=by rw [List.take_add_one,hbi];rfl
  have hs:=zg3 hm (t:=t.2.take i) (s:=0) (fun c hc=>hb c (zAw hc)) (Int.le_refl _) (by rw [qT];omega)
  rw [qT] at hs;rw [htk,zcC];generalize hS:zeI (rowsOf d.1) 0 (t.2.take i)=S at hs ⊢;obtain ⟨q,hq⟩:∃ q,d.1.2[S.toNat]?=some q:=⟨d.1.2[S.toNat]'(by omega),by simp [show S.toNat<d.1.2.length by omega]⟩
  have hq256:=((zb1 hm).2 S.toNat (by rw [qT];omega)).1
  rw [zg2 hq] at hq256 ⊢;have h1:=vY hi;have h2:=nth_map (h:=be) hbi;have h3:=nth_map (h:=iv) hq;have h4:=vZ (i:=i) (by omega)
  have h5:=zae (l:=q.2) (i:=b.toNat) (by omega)
  have h6:ltz S 0=false:=zft hs.1;have h7:ltz b 0=false:=zft hbr.1;have h8:ltz (i:Int) 0=false:=jR;have h9:IntKind.i64.wrap b=b:=znl (by omega) (by omega)
  simp only [lp34_1];simp only [SA,zkR,qB,jn,h1,h2,h3,h4,h5,h6,h7,h8,h9,j9,zaD,zrj,zpY,znI,zAU,zAd];rfl
 ·have h1:=xj (zAO t.2.length);simp only [lp34_1];rw [zBc];simp only [SA,zkR,h1,zAU]
end Go.Proofs.YthohlnmcjkjeiaaGreatDoor.A2
namespace Go.Proofs.YthohlnmcjkjeiaaGreatDoor.A2
set_option linter.unusedSectionVars false
set_option maxRecDepth 10000
open Go Go.Vm Go.Vm.Sx
variable {gl:Gl} [NoU gl]
abbrev Raw:=(Bool×List D)×(Bool×List Ints)
def dlV (p:Bool×List D):V:=lv 2 p.1 (p.2.map dcV)
def tlV (p:Bool×List Ints):V:=lv 1 p.1 (p.2.map bvV)
def rawV (r:Raw):V:=.agg [dlV r.1,tlV r.2]
theorem zrC (p:Bool×List D):kOk (.sl 2) (dlV p)=true:=znj ..
theorem zrD (p:Bool×List Ints):kOk (.sl 1) (tlV p)=true:=znj ..
theorem zfJ (p:Bool×List D):vL (dlV p)=p.2.map dcV:=zic ..
theorem zoc (p:Bool×List Ints):vL (tlV p)=p.2.map bvV:=zic ..
theorem zqN (p:Bool×List D):clr (dlV p)=dlV p:=zcu ..
theorem zqO (p:Bool×List Ints):clr (tlV p)=tlV p:=zcu ..
theorem zpF (r:Raw):(rawV r).top=0:=by
 have h1:(dlV r.1).top=0:=by rw [dlV,zec];exact tops_map top_dc _
 have h2:(tlV r.2).top=0:=by rw [tlV,zec];exact tops_map top_bv _
 simp [rawV,V.top,tops,h1,h2]
structure WRaw (r:Raw):Prop where
 l:∀ d∈r.1.2,WD d
 t:∀ t∈r.2.2,t.2.length<2 ^ 60/\∀ b∈t.2,0<=b/\b<256
 ll:r.1.2.length<2 ^ 60
 tl:r.2.2.length<2 ^ 60
theorem we (d:D):rowsOf (kT d).1=rowsOf d.1/\(kT d).2.2=d.2.2:=by
 simp [kT,xm,rowsOf,Function.comp_def]
theorem zg4 {d:D} (h:WD d):WD (kT d):=by
 refine ⟨⟨?_,?_⟩,h.l⟩
 ·simpa [kT,xm] using h.n.1
 ·intro q hq;simp only [kT,xm] at hq;obtain ⟨p,hp,rfl⟩:=zAo.1 hq;exact h.n.2 p hp
def fl15:V:=.agg [.int .i64 15,.int .i64 0,.int .i64 0,.int .i64 0,.snil]
theorem zrm {x:V}:wB Tryz.prog [74] [.d x] 0:=by
 refine ⟨fun e=>?_,trivial⟩;rw [Tryz.underlying74];simp
theorem zrE (hgl:GL gl) (k:Int):Ev Tryz.prog gl 23 [.d (.int .i64 k)] [] (.agg [.int .i64 k,.int .i64 0,.int .i64 0,.int .i64 0,.snil]) []:=by
 refine qL (xs:=[.int .i64 k]) hgl.top (hgl.no 23 rfl) tree23_ok Tryz.func23 lent23 zqH (by simp [tops,V.top]) (N:=1) ?_
 simp only [tree23];simp only [SA]
theorem ev7 (hgl:GL gl) (hg0:gl.g 0 0=some er0') (hwk:Ev Tryz.prog gl 26 [] [] (.bool true) []) (hsm:Ev Tryz.prog gl 15 [.d er0',.d fl15] [] (.bool true) []) (r:Raw) (hr:WRaw r):Ev Tryz.prog gl 7 [.d (rawV r)] [] (.bool true) []:=by
 refine qL (xs:=[rawV r]) hgl.top (hgl.no 7 rfl) tree7_ok Tryz.func7 lent7 zrm (by simp [tops,zpF]) (N:=10) ?_
 have e26:=jq hwk;have e15:=jq hsm;have e23:=jq (zrE hgl 15);have hll:=hr.ll;have htl:=hr.tl;simp only [fl15] at e15;simp only [tree7,rawV];simp only [SA,zrC,zrD];obtain ⟨m,hm1,hm2,hm3⟩:∃ m,m<=r.1.2.length/\m<=6/\(m=r.1.2.length\/m=6):=⟨min r.1.2.length 6,by omega,by omega,by omega⟩
 refine qM (st:=fun i=>[.int .i64 (i:Int)]) (m:=m) (fun i hi=>?_) ?_ (by omega)
 ·obtain ⟨d,hd⟩:∃ d,r.1.2[i]?=some d:=⟨r.1.2[i]'(by omega),by simp [show i<r.1.2.length by omega]⟩
  have hdw:=hr.l d (zAb hd);have h1:ltz (i:Int) ((r.1.2.length:Nat):Int)=true:=vY (by omega)
  have h2:=nth_map (h:=dcV) hd;have h3:ltz (i:Int) 6=true:=zfs (by omega)
  have h4:=vZ (i:=i) (by omega)
  have h8:ltz (i:Int) 0=false:=jR;simp only [lp7_2];cases h5:ltz 1000 ((d.1.2.length:Nat):Int) with
  | true =>
   simp only [dcV] at h2;simp only [SA,zfJ,qB,h1,h2,h3,h4,h5,h8,zaC,j9,zAU,zAd]
  | false =>
   have e31:=jq (zry hgl d hdw);have e32:=jq (zrA hgl d hdw);have e27:=jq (ev27 hgl (kT d) (zg4 hdw));rw [(we d).1,(we d).2] at e27;simp only [dcV] at e31 e32 e27 h2;simp only [SA,zfJ,qB,h1,h2,h3,h5,h8,e31,e32,e27,zaC,j9,clr_rv,clr_iv,zAU,zAd];have e29:=jq (zrz hgl d hdw);obtain ⟨n,hn1,hn2,hn3⟩:∃ n,n<=r.2.2.length/\n<=6/\(n=r.2.2.length\/n=6):=⟨min r.2.2.length 6,by omega,by omega,by omega⟩
   simp only [dcV] at e29;have hend:∀ b:Bool,evT (phE Tryz.prog gl) gl.g 10 lp7_1 ([V.agg [dlV r.1,tlV r.2],dlV r.1,tlV r.2,.int .i64 (i:Int),.agg [rv d.1,iv d.2],rv d.1,iv d.2,.agg [rv d.1,iv d.2],rv d.1,iv d.2,.agg [rv (kT d).1,iv (kT d).2],rv (kT d).1,iv (kT d).2,.agg [rv d.1,iv d.2],rv d.1,iv d.2,.bool b,.bool b]++[.int .i64 (n:Int)])=some (1,[.int .i64 ((i+1:Nat):Int)]):=fun b=>by
    have k1:(ltz (n:Int) ((r.2.2.length:Nat):Int) && ltz (n:Int) 6)=false:=by
     rcases hn3 with h|h
     ·rw [xj (by omega)];rfl
     ·rw [h,show ltz ((6:Nat):Int) 6=false from rfl,zBp]
    simp only [lp7_1];simp only [SA,zfJ,zoc,h2,h4,h8,k1,e29,zaC,j9,clr_rv,clr_iv,zAU,zAd]
   cases hm:mayD (rowsOf d.1) d.2.2 with
   | true =>
    rw [hm] at e32 e27;simp only [SA,beq_self_eq_true];refine qM (st:=fun k=>[.int .i64 (k:Int)]) (m:=n) (fun k hk=>?_) (hend true) (by omega)
    obtain ⟨t,ht⟩:∃ t,r.2.2[k]?=some t:=⟨r.2.2[k]'(by omega),by simp [show k<r.2.2.length by omega]⟩
    obtain ⟨ht1,ht2⟩:=hr.t t (zAb ht);have e33:=jq (ev33 hgl hg0 (kT d) (zg4 hdw) t ht1 ht2);have e34:=jq (zrB hgl d hm t ht1 ht2);rw [runV,(we d).1,(we d).2,hm] at e33;simp only [cond_true,dcV] at e33 e34;have k1:ltz (k:Int) ((r.2.2.length:Nat):Int)=true:=vY (by omega)
    have k2:=nth_map (h:=bvV) ht;have k3:ltz (k:Int) 6=true:=zfs (by omega)
    have k4:=vZ (i:=k) (by omega)
    have k8:ltz (k:Int) 0=false:=jR;have kn:kOk .ifc .nili=true:=rfl;simp only [lp7_1];simp only [SA,zfJ,zoc,h2,h8,k1,k2,k3,k4,k8,kn,show isNili .nili=true from rfl,e33,e34,zaC,j9,zob,clr_rv,clr_iv,zeJ,beq_self_eq_true,zAU,zAd]
   | false =>
    rw [hm] at e32 e27;simp only [SA,beq_self_eq_true];refine qM (st:=fun k=>[.int .i64 (k:Int)]) (m:=n) (fun k hk=>?_) (hend false) (by omega)
    obtain ⟨t,ht⟩:∃ t,r.2.2[k]?=some t:=⟨r.2.2[k]'(by omega),by simp [show k<r.2.2.length by omega]⟩
    obtain ⟨ht1,ht2⟩:=hr.t t (zAb ht);have e33:=jq (ev33 hgl hg0 (kT d) (zg4 hdw) t ht1 ht2);rw [runV,(we d).1,(we d).2,hm] at e33;simp only [cond_false,dcV] at e33;have k1:ltz (k:Int) ((r.2.2.length:Nat):Int)=true:=vY (by omega)
    have k2:=nth_map (h:=bvV) ht;have k3:ltz (k:Int) 6=true:=zfs (by omega)
    have k4:=vZ (i:=k) (by omega)
    have k8:ltz (k:Int) 0=false:=jR;have ke:kOk .ifc er0'=true:=rfl;have ce:clr er0'=er0':=rfl;have k0:((0:Int) == 0)=true:=rfl;simp only [lp7_1];simp only [SA,zoc,k1,k2,k3,k4,k8,k0,ke,ce,e33,e15,e23,zob,clr_rv,clr_iv,zeJ,zAU,zAd]
 ·have k1:(ltz (m:Int) ((r.1.2.length:Nat):Int) && ltz (m:Int) 6)=false:=by
   rcases hm3 with h|h
   ·rw [xj (by omega)];rfl
   ·rw [h,show ltz ((6:Nat):Int) 6=false from rfl,zBp]
  simp only [lp7_2];simp only [SA,zfJ,k1,e26,zAU]
end Go.Proofs.YthohlnmcjkjeiaaGreatDoor.A2
namespace Go.Proofs.YthohlnmcjkjeiaaGreatDoor
set_option maxRecDepth 100000
open Go Go.Vm
section
variable {nxt:Nat->Nat->Nat} {s0:Nat}
theorem za7 {j:Nat} (h:(zj nxt s0 j)[j]?=none):∀ d,zj nxt s0 (j+d)=zj nxt s0 j
 | 0=>rfl
 | d+1=>by
  have ih:=za7 h d;rw [<- zBJ];have h1:(zj nxt s0 j)[j+d]?=none:=by
   rw [List.getElem?_eq_none_iff] at h ⊢;omega
  simp only [zj,ih,h1]
theorem zcD {i j:Nat} (h:(zj nxt s0 i).length=i):∃ rs,zj nxt s0 i=zj nxt s0 j++rs:=by
 rcases Nat.le_total j i with hij|hij
 ·exact zez hij
 ·have:=za7 (nxt:=nxt) (s0:=s0) (j:=i) (by rw [List.getElem?_eq_none_iff];omega) (j - i)
  rw [show i+(j - i)=j by omega] at this
  exact ⟨[],by rw [this,zBB]⟩
theorem zlY {i j:Nat} (h:(zj nxt s0 i).length=i) (h':(zj nxt s0 j).length=j):i=j:=by
 obtain ⟨r1,e1⟩:=zcD (j:=j) h;obtain ⟨r2,e2⟩:=zcD (j:=i) h';have l1:=congrArg List.length e1;have l2:=congrArg List.length e2;rw [zAi] at l1 l2;omega
theorem zeK {i j:Nat} (h:(zj nxt s0 i).length=i) (hj:j<i):∃ w,(zj nxt s0 j)[j]?=some w:=by
 cases hx:(zj nxt s0 j)[j]? with
 | some w=>exact ⟨w,rfl⟩
 | none =>
  have:=za7 hx (i - j);rw [show j+(i - j)=i by omega] at this
  rw [List.getElem?_eq_none_iff] at hx;rw [this] at h;omega
theorem ziI {j w:Nat} (h:(zj nxt s0 j)[j]?=some w):(zc5 nxt s0 j).length=256:=by
 simp only [zc5,h,zAU,List.length_range]
theorem RW.get {B:List Blk} {b i:Nat} {NB:List Nat} (h:RW nxt s0 B b i NB):∀ j,j<i->∃ k,NB[j]?=some k/\nth B (b+k)=some (.cells ((zc5 nxt s0 j).map A2.ie) 3):=by
 induction h with
 | nil=>intro j hj;omega
 | @snoc i k NB h hk hb ih =>
  intro j hj;have hl:=h.len;rcases zAZ j i with hj'|hj'
  ·obtain ⟨k',h1,h2⟩:=ih j hj';exact ⟨k',by rw [zAR (by omega),h1],h2⟩
  ·obtain rfl:j=i:=by omega
   exact ⟨k,by rw [zAP (by omega),hl,zBk];rfl,hb⟩
def zod (nxt:Nat->Nat->Nat) (s0:Nat) (lab:Nat->Int) (i:Nat):A2.D:=((true,(List.range i).map fun j=>(true,zc5 nxt s0 j)),(true,(zj nxt s0 i).map lab))
theorem zkS {n:Nat} {e:TypeId} {xs:List V}:clr (zp n e xs)=Sx.lv n true xs:=by cases xs<;>rfl
theorem zoe {n:Nat} {nl:Bool} {xs:List V} (h:0<xs.length):Sx.lv n nl xs=.sl n xs .no:=by
 rcases Sx.lv_cases n nl xs with e|⟨e0,_⟩
 ·exact e
 ·rw [e0] at h;cases h
theorem zrn {l:List Int} (h:0<l.length):A2.iv (true,l)=.sl 1 (l.map A2.ie) .no:=zoe (by rw [zAU];exact h)
theorem zqP {lab:Nat->Int} {B:List Blk} {es:List (Nat×Nat)} {b i:Nat} {NB:List Nat} (h:RW nxt s0 B b i NB) (hi:0<i) (hc:(zj nxt s0 i).length=i) :
  Frz ⟨B,es⟩ (.tup [dnV b NB ((zj nxt s0 i).map lab),.nili]) (.tup [A2.dcV (zod nxt s0 lab i),.nili]):=by
 have hl:=h.len;have hrow:∀ j,j<i->A2.iv (true,zc5 nxt s0 j)=.sl 1 ((zc5 nxt s0 j).map A2.ie) .no:=fun j hj=>by
  obtain ⟨w,hw⟩:=zeK hc hj;exact zrn (by rw [ziI hw];exact Nat.succ_pos _)
 have e1:clr (zp 1 27 (NB.map (rwV b)))=.sl 1 (NB.map (rwV b)) .no:=by rw [zkS,zoe (by rw [zAU,hl];exact hi)]
 have e2:A2.rv (zod nxt s0 lab i).1=.sl 1 (((List.range i).map fun j=>(true,zc5 nxt s0 j)).map A2.iv) .no:=zoe (by simpa [zod] using hi)
 have e3:clr (zp 1 3 (((zj nxt s0 i).map lab).map A2.ie))=A2.iv (zod nxt s0 lab i).2:=zkS;have f1:Frz ⟨B,es⟩ (.sl 1 (NB.map (rwV b)) .no) (.sl 1 (((List.range i).map fun j=>(true,zc5 nxt s0 j)).map A2.iv) .no):=by
  refine .sl (by simp [hl]) (fun j x hj=>?_) (fun j y hj=>?_) (fun j x y hj hy=>?_)
  ·rw [zAY] at hj;obtain ⟨k,_,rfl⟩:=zAV.1 hj;exact ⟨rfl,rfl⟩
  ·rw [zAY,zAY] at hj;have hji:j<i:=by
    rcases zAZ j i with h1|h1
    ·exact h1
    ·rw [zAk (by simpa using h1)] at hj;cases hj
   rw [zBW hji] at hj;simp only [zAa,zAA] at hj;rw [<- hj,hrow j hji];exact ⟨rfl,rfl⟩
  ·have hji:j<i:=by
    rcases zAZ j i with h1|h1
    ·exact h1
    ·rw [zAk (by simpa [hl] using h1)] at hj;cases hj
   obtain ⟨k,k1,k2⟩:=h.get j hji;rw [zAY,k1] at hj;rw [zAY,zAY,zBW hji] at hy;simp only [zAa,zAA] at hj hy;rw [<- hj,<- hy,hrow j hji];obtain ⟨w,hw⟩:=zeK hc hji;have h256:((zc5 nxt s0 j).map A2.ie).length=256:=by rw [zAU,ziI hw]
   have:=Frz.sr (H:=⟨B,es⟩) (b:=b+k) (off:=0) (len:=256) (cap:=256) (cs:=(zc5 nxt s0 j).map A2.ie) (t:=3) (by rw [zd] at k2;exact k2) (A2.tops_map (fun _=>rfl) _) (by omega)
   rw [zBo,zBN (by omega)] at this
   exact this
 refine .tup rfl fun j x y hj hy=>?_
 match j,hj,hy with
 | 0,hj,hy =>
  cases hj;cases hy;refine .agg rfl (fun j y hj=>?_) fun j x y hj hy=>?_
  ·match j,hj with
   | 0,hj=>cases hj;rw [e2];rfl
   | 1,hj=>cases hj;rw [<- e3];cases ((zj nxt s0 i).map lab).map A2.ie<;>rfl
   | j+2,hj=>simp at hj
  ·match j,hj,hy with
   | 0,hj,hy=>cases hj;cases hy;rw [e1,e2];exact f1
   | 1,hj,hy =>
    cases hj;cases hy;rw [e3];exact .same (A2.top_iv _)
   | j+2,hj,hy=>simp at hj
 | 1,hj,hy=>cases hj;cases hy;exact .same rfl
 | j+2,hj,hy=>simp at hj
end
theorem zof {f:A2.F} {nx nx':List (Nat×Nat)} (h:nx.map (·.2)=nx'.map (·.2)) {y k q:Nat}:xf f nx y k q=xf f nx' y k q:=by
 have hk:(nx[k]?).map (·.2)=(nx'[k]?).map (·.2):=by rw [<- zAY,<- zAY,h]
 unfold xf;cases hs:f.s.2[k]? with
 | none=>rfl
 | some s =>
  cases h1:nx[k]? with
  | none =>
   rw [h1] at hk;cases h2:nx'[k]? with
   | none=>rfl
   | some p=>rw [h2] at hk;cases hk
  | some p =>
   rw [h1] at hk;cases h2:nx'[k]? with
   | none=>rw [h2] at hk;cases hk
   | some p' =>
    rw [h2] at hk;have:p.2=p'.2:=zAr hk;simp only [this]
theorem zpG {f:A2.F} {nx nx':List (Nat×Nat)} (h:nx.map (·.2)=nx'.map (·.2)) {m:Nat}:nxF f nx m=nxF f nx' m:=by
 funext w y
 have:∀ (l:List Nat) (q:Nat),zbS f nx y l q=zbS f nx' y l q:=by
  intro l
  induction l with
  | nil=>intro q;rfl
  | cons k l ih =>
   intro q;show zbS f nx y l (xf f nx y k q)=zbS f nx' y l (xf f nx' y k q);rw [zof h];exact ih _
 exact this _ _
end Go.Proofs.YthohlnmcjkjeiaaGreatDoor
