/- Seat 7: MatchMore: the plain law; Seat 7: MatchMore's law, out of its tree; Seat 7: an argument of rules, numbers and texts, as the machine holds it; what MatchGreatest runs to; and what follows from it. Conditions: none but those that each theorem names. -/
import Derived.Test.YtlnijcffanjieaaGreatDoorVmV
import Derived.Test.YtlnijcffanjieaaGreatDoorVmW
namespace Go.Proofs.YtlnijcffanjieaaGreatDoor
set_option maxRecDepth 10000
open Go Go.Vm Go.Vm.Sx
def fwr (n:Nat):List Int:=(List.range n).map Int.ofNat
def alr (n:Nat):List Int:=(n:Int)::fwr n
theorem fwr_mem {n:Nat} {r:Int}:r∈fwr n ↔ 0<=r/\r<n:=by
 simp only [fwr,zAw,List.mem_range];exact ⟨fun ⟨k,h,e⟩=>by subst e;simp only [Int.ofNat_eq_natCast];omega,fun ⟨h1,h2⟩=>⟨r.toNat,by omega,by simp only [Int.ofNat_eq_natCast];omega⟩⟩
theorem alr_mem {n:Nat} {r:Int}:r∈alr n ↔ 0<=r/\r<=n:=by
 simp only [alr,zAM,fwr_mem];omega
theorem zkv {l:List Co} {a:List Int} (h:∀ r∈a,0<=r/\r<l.length):a.any (xB l)=false:=by
 rw [List.any_eq_false];intro r hr;have:=h r hr;simp only [xB,zAg,decide_eq_true_eq];omega
theorem zkw {l:List Co} {n t:Nat} (hn:l.length=n+1):ya l (alr n) t=ya l (fwr n) t:=by
 have h1:(fwr n).any (xB l)=false:=zkv fun r hr=>by have:=fwr_mem.1 hr;omega
 have h2:(alr n).any (xB l)=false:=zkv fun r hr=>by have:=alr_mem.1 hr;omega
 simp only [ya,h1,h2]
theorem znv {l:List Co} {n:Nat} {t:List Nat}:(0<=zc9 l (fwr n) t->zc9 l (alr n) t=zc9 l (fwr n) t)/\(zc9 l (fwr n) t<0->zc9 l (alr n) t = -1\/zc9 l (alr n) t=n):=by
 have hf:=zij l (fwr n) t;have ha:=zij l (alr n) t;have h0:∀ r∈alr n,0<=r:=fun r hr=>(alr_mem.1 hr).1;have h0':∀ r∈fwr n,0<=r:=fun r hr=>(fwr_mem.1 hr).1;constructor
 ·intro h;rcases hf with ⟨h1,_⟩|⟨h1,h2,h3⟩
  ·omega
  ·have hm:=fwr_mem.1 h1;refine zp0 h0 ha (.inr ⟨alr_mem.2 ⟨hm.1,by omega⟩,h2,fun r hr hp=>?_⟩)
   have:=alr_mem.1 hr
   by_cases hn:r<n
   ·exact h3 r (fwr_mem.2 ⟨this.1,hn⟩) hp
   ·omega
 ·intro h;rcases hf with ⟨h1,h2⟩|⟨h1,_⟩
  ·rcases ha with ⟨k1,_⟩|⟨k1,k2,_⟩
   ·exact .inl k1
   ·refine .inr ?_;have:=alr_mem.1 k1
    by_cases hn:zc9 l (alr n) t<n
    ·exact absurd k2 (h2 _ (fwr_mem.2 ⟨this.1,hn⟩))
    ·omega
  ·have:=fwr_mem.1 h1;omega
theorem znw {l:List Co} {n:Nat} {t:List Nat}:(zaG l (fwr n) t).1<=(zaG l (alr n) t).1/\((zaG l (alr n) t).1=(zaG l (fwr n) t).1->0<=(zaG l (fwr n) t).2->(zaG l (alr n) t).2=(zaG l (fwr n) t).2)/\((zaG l (fwr n) t).1<(zaG l (alr n) t).1->(zaG l (alr n) t).2=n):=by
 have hf:=zik l (fwr n) t;have ha:=zik l (alr n) t;have sub:∀ r,r∈fwr n->r∈alr n:=fun r hr=>by have:=fwr_mem.1 hr;exact alr_mem.2 (by omega)
 have last:∀ r,r∈alr n->r∈fwr n\/r=n:=fun r hr=>by
  have:=alr_mem.1 hr
  by_cases hn:r<n
  ·exact .inl (fwr_mem.2 ⟨this.1,hn⟩)
  ·exact .inr (by omega)
 rcases hf with ⟨h1,h2,h3⟩|⟨h1,h2,h3,h4⟩<;>rcases ha with ⟨k1,k2,k3⟩|⟨k1,k2,k3,k4⟩
 ·exact ⟨by omega,fun _ h=>by omega,fun h=>by omega⟩
 ·refine ⟨by omega,fun h=>by omega,fun _=>?_⟩
  rcases last _ k2 with h|h
  ·have:=h3 _ h _ k3;omega
  ·exact h
 ·have:=k3 _ (sub _ h2) _ h3;omega
 ·have a1:=k4 _ (sub _ h2) _ h3;refine ⟨a1.1,fun e _=>?_,fun h=>?_⟩
  ·have b1:=a1.2 e.symm;rcases last _ k2 with h|h
   ·have:=(h4 _ h _ k3).2 e;omega
   ·have:=fwr_mem.1 h2;omega
  ·rcases last _ k2 with h'|h'
   ·have:=(h4 _ h' _ k3).1;omega
   ·exact h'
end Go.Proofs.YtlnijcffanjieaaGreatDoor
namespace Go.Proofs.YtlnijcffanjieaaGreatDoor
set_option maxRecDepth 10000
open Go Go.Vm Go.Vm.Sx
theorem lent6:wb Tryz.prog Tryz.f6.params.toList=some []:=by kernel_rfl
theorem za1 (n:Nat):(fwr n).length=n:=by simp [fwr]
theorem zqY (i:Nat):ja (fwr (i+1))=ja (fwr i)++[.int .i64 (i:Int)]:=by simp [fwr,ja,List.range_succ]
theorem zoP {p q:Bool} (h:p=true->q=true):(p && !q)=false:=by cases p<;>cases q<;>simp_all
theorem ev6 {nl al xn:Bool} {l:List Co} {a:List Int} {x:List Tx} (hl:l.length<=maxLen) (hl2:l.length<2 ^ 60) (hc:∀ c∈l,GdC c) (hx:x.length<=maxLen) (htx:∀ p∈x,zlz p) :
  Ev Tryz.prog gl2 6 [.d (znu nl l al a xn x)] [] (.bool true) []:=by
 have hgl:=GL2;have hml:=maxLen_le;have hmg:65538<=maxLen:=by decide
 have hw:∀ c∈l,Wf c.hd/\Wf c.tl:=fun c h=>⟨(hc c h).1.1.1,(hc c h).2.1.1⟩;refine kI (xs:=[znu nl l al a xn x]) hgl.top (hgl.no 6 rfl) tree6_ok Tryz.func6 lent6 zqX (by simp [tops,zoN]) (N:=l.length+x.length+60) ?_
 have c22:=kf (zrz hgl (hgl.no 22 rfl) nl l hl hw);have c12:=kf fv12;simp only [tree6,znu];cases hs:zi5 l with
 | false=>simp only [kZ,qb,qa,ev_opn,q9,jN,jf,jo,qc,vV,ks_nil,zAf,Bool.true_or,zBB,jg,zH,zQ,evB,evI,evL,zy,evC,zD,wS,evA,qZ,jD,wl,kY,jF,joinL,sizesOk,zh8,yF,ki,zgH,zks,c22,c12,hs]
 | true =>
 cases h0:(l.length:Int) == 0 with
 | true=>simp only [kZ,qb,qa,ev_opn,q9,jN,jf,jo,qc,vV,ks_nil,zAf,Bool.or_true,Bool.true_or,zAq,jg,zH,zQ,evB,evI,evL,zy,evC,zD,wS,evA,qZ,jD,wl,kY,jF,joinL,sizesOk,zh8,yF,ki,zgH,zks,c22,c12,hs,h0,zAo]
 | false =>
 cases h2:ltz 200 (l.length:Int) with
 | true=>simp only [kZ,qb,qa,ev_opn,q9,jN,jf,jo,qc,vV,ks_nil,zAf,Bool.or_true,zBs,zAq,jg,zH,zQ,evB,evI,evL,zy,evC,zD,wS,evA,qZ,jD,wl,kY,jF,joinL,sizesOk,zh8,yF,ki,zgH,zks,c22,c12,hs,h0,h2,zAo]
 | false =>
 simp only [wz,ev_opn,q9,jN,xP,jf,jo,qc,vV,ks_nil,zAf,zBs,zAq,jg,zH,zQ,evB,evI,evL,zy,evC,zD,wS,evA,qZ,wl,kY,jF,joinL,sizesOk,zh8,yF,ki,zgH,zks,c22,hs,h0,h2,zAo];have hl200:l.length<=200:=by
  have:¬ (200:Int)<l.length:=of_decide_eq_false h2;omega
 obtain ⟨n,hn⟩:∃ n,l.length=n+1:=by
  refine ⟨l.length - 1,?_⟩;have:¬ ((l.length:Int)=0):=by simpa using h0
  omega
 have hwn:IntKind.i64.wrap ((l.length:Int) - 1)=(n:Int):=by rw [w64 (by omega) (by omega)];omega
 refine zb6 (st:=fun i=>[acc 1 3 (ja (fwr i)),.int .i64 (i:Int)]) (m:=n) (fun i hi=>?_) ?_ (by omega)
 ·have h1:=zfm hi;have h4:=zlp (i:=i) (by omega)
  have h5:jI (ja (fwr i)++[V.int .i64 (i:Int)]).length 8=true:=Sx.roomA_of (by simp [ja,za1];omega) (by simp [ja,za1];omega)
  rw [zqY,<- zmR];simp only [lp6_2];simp only [kZ,yS,qb,qa,jf,jo,zH,zQ,evB,evI,evL,zy,evC,zD,jD,qq,ku,biI,zp,yF,hwn,h1,h4,h5,zod,zgt,zAo]
 ·have h1:=zj0 (zAR n);have h5:jI ([]++[V.int .i64 (n:Int)]).length 8=true:=Sx.roomA_of (by simp) (by simp)
  have h6:jI ([]++[V.int .i64 (n:Int)]++ja (fwr n)).length 8=true:=Sx.roomA_of (by simp [ja,za1];omega) (by simp [ja,za1];omega)
  have hF:clr (acc 1 3 (ja (fwr n)))=qx true (fwr n):=zoe ..;have hA:V.sl 1 (V.int .i64 (n:Int)::ja (fwr n)) .no=qx false (alr n):=rfl;have hfl:(fwr n).length * 8<=140737488355328:=by rw [za1];omega
  have hal:(alr n).length * 8<=140737488355328:=by simp only [alr,zAT,za1];omega
  simp only [lp6_2];simp only [wz,ev_esc,qa,jf,jo,zH,zQ,evB,evI,evL,evC,zD,jD,qq,ku,biI,yF,hwn,h1,zAo];refine zrD ?_;refine (yS ?_).trans ?_
  ·exact h5
  refine (yS ?_).trans ?_
  ·show jI ([]++[V.int .i64 (n:Int)]++vL (acc 1 3 (ja (fwr n)))).length 8=true;rw [zgt];exact h6
  simp only [xP,evI,zy,evC];have hnF:∀ r∈fwr n,0<=r:=fun r hr=>(fwr_mem.1 hr).1;refine zmS (ok:=fun i=>ya l (fwr n) (za9 ((x.map (·.2)).getD i [])).length) (st:=fun i=>[.int .i64 (i:Int)]) (n:=min x.length 12) (good:=[.bool true]) (bad:=[.bool true]) (fun i hi hok=>?_) (fun i hi hok=>?_) (fun _=>?_) (by omega) ?_
  ·have hil:i<x.length:=by omega
   obtain ⟨p,hp⟩:∃ p,x[i]?=some p:=⟨x[i],by simp [hil]⟩
   have hgd:(x.map (·.2)).getD i []=p.2:=by simp [List.getD,hp]
   rw [hgd] at hok;have hpt:=htx p (zAe hp);have i1:=zfm hil;have i1b:ltz (i:Int) 12=true:=ltz_t (by omega)
   have i3:=zkt hp;have i4:=zlp (i:=i) (by omega)
   have c13:=kf (zqO hgl p.1 p.2);obtain ⟨t,ht⟩:∃ t,t=za9 p.2:=⟨_,rfl⟩;obtain ⟨nb,hnb⟩:∃ nb,nb=(p.1 && p.2.isEmpty):=⟨_,rfl⟩;rw [<- ht,<- hnb] at c13;rw [<- ht] at hok;have htb:∀ b∈t,b<256:=by rw [ht];exact zku hpt.2
   have hokA:ya l (alr n) t.length=true:=(zkw hn).trans hok;have c24:=kf (zoL (nl:=nl) (al:=true) (tl:=nb) (l:=l) (a:=fwr n) (t:=t) ⟨hc,hl2,hfl,htb⟩);have d24:=kf (zoL (nl:=nl) (al:=false) (tl:=nb) (l:=l) (a:=alr n) (t:=t) ⟨hc,hl2,hal,htb⟩);have c23:=kf (zoK (nl:=nl) (al:=true) (tl:=nb) (l:=l) (a:=fwr n) (t:=t) ⟨hc,hl2,hfl,htb⟩)
   have d23:=kf (zoK (nl:=nl) (al:=false) (tl:=nb) (l:=l) (a:=alr n) (t:=t) ⟨hc,hl2,hal,htb⟩);simp only [zez,zeR,hok,hokA,if_true] at c24 d24 c23 d23;rw [<- hA] at d24 d23;have lm:=znv (l:=l) (n:=n) (t:=t);have om:=znw (l:=l) (n:=n) (t:=t);obtain ⟨A,hA1⟩:∃ A,A=zc9 l (fwr n) t:=⟨_,rfl⟩;obtain ⟨B,hB1⟩:∃ B,B=zc9 l (alr n) t:=⟨_,rfl⟩;obtain ⟨K,hK1⟩:∃ K,K=zaG l (fwr n) t:=⟨_,rfl⟩
   obtain ⟨M,hM1⟩:∃ M,M=zaG l (alr n) t:=⟨_,rfl⟩;rw [<- hA1] at c24 lm;rw [<- hB1] at d24 lm;rw [<- hK1] at c23 om;rw [<- hM1] at d23 om;simp only [lp6_1];simp only [kZ,zaU,ev_unt,q9,jN,jf,jo,qc,wN,ks_nil,zAf,jg,zfl,zH,zQ,evB,evI,evL,evC,zD,wS,evA,qZ,qq,ku,zfn,joinL,sizesOk,zjd,i1,i1b,i3,c13,c24,d24,c23,d23,hF,zgt,zh1,kIfc,q6,ki,zAo,zBZ];rw [wz (by rfl)]
   have p1:(lez 0 A && !(B == A))=false:=zoP fun h=>by rw [lm.1 (lez_i.1 h)];exact beq_self_eq_true _
   have p2:((ltz A 0 && !(B == -1)) && !(B == (n:Int)))=false:=zoP fun h=>by
    simp only [zAF,zAp,beq_eq_false_iff_ne] at h;rcases lm.2 (ltz_i.1 h.1) with e|e
    ·exact absurd e h.2
    ·rw [e];exact beq_self_eq_true _
   have p3:ltz (M.1:Int) (K.1:Int)=false:=zed (by omega)
   have p4:(((M.1:Int) == (K.1:Int) && lez 0 K.2) && !(M.2 == K.2))=false:=zoP fun h=>by
    simp only [zAF,beq_iff_eq] at h;rw [om.2.1 (by omega) (lez_i.1 h.2)];exact beq_self_eq_true _
   have p5:(ltz (K.1:Int) (M.1:Int) && !(M.2 == (n:Int)))=false:=zoP fun h=>by
    have:=ltz_i.1 h;rw [om.2.2 (by omega)];exact beq_self_eq_true _
   refine (wz ?_).trans ?_
   ·show (((((lez 0 A && !(B == A)) || ((ltz A 0 && !(B == -1)) && !(B == IntKind.i64.wrap (((vL (qS nl l)).length:Int) - 1)))) || ltz (M.1:Int) (K.1:Int)) || (((M.1:Int) == (K.1:Int) && lez 0 K.2) && !(M.2 == K.2))) || (ltz (K.1:Int) (M.1:Int) && !(M.2 == IntKind.i64.wrap (((vL (qS nl l)).length:Int) - 1))))=false
    rw [yF,zAo,hwn,p1,p2,p3,p4,p5];rfl
   ·simp only [qb,jf,jo,evI,zy,evC,qq,biI,i4]
  ·have hil:i<x.length:=by omega
   obtain ⟨p,hp⟩:∃ p,x[i]?=some p:=⟨x[i],by simp [hil]⟩
   have hgd:(x.map (·.2)).getD i []=p.2:=by simp [List.getD,hp]
   rw [hgd] at hok;have hpt:=htx p (zAe hp);have i1:=zfm hil;have i1b:ltz (i:Int) 12=true:=ltz_t (by omega)
   have i3:=zkt hp;have i4:=zlp (i:=i) (by omega)
   have c13:=kf (zqO hgl p.1 p.2);obtain ⟨t,ht⟩:∃ t,t=za9 p.2:=⟨_,rfl⟩;obtain ⟨nb,hnb⟩:∃ nb,nb=(p.1 && p.2.isEmpty):=⟨_,rfl⟩;rw [<- ht,<- hnb] at c13;rw [<- ht] at hok;have htb:∀ b∈t,b<256:=by rw [ht];exact zku hpt.2
   have hokA:ya l (alr n) t.length=false:=(zkw hn).trans hok;have c24:=kf (zoL (nl:=nl) (al:=true) (tl:=nb) (l:=l) (a:=fwr n) (t:=t) ⟨hc,hl2,hfl,htb⟩);have d24:=kf (zoL (nl:=nl) (al:=false) (tl:=nb) (l:=l) (a:=alr n) (t:=t) ⟨hc,hl2,hal,htb⟩);have c23:=kf (zoK (nl:=nl) (al:=true) (tl:=nb) (l:=l) (a:=fwr n) (t:=t) ⟨hc,hl2,hfl,htb⟩)
   have d23:=kf (zoK (nl:=nl) (al:=false) (tl:=nb) (l:=l) (a:=alr n) (t:=t) ⟨hc,hl2,hal,htb⟩);simp only [zez,zeR,hok,hokA,zAD,if_false] at c24 d24 c23 d23;rw [<- hA] at d24 d23;simp only [lp6_1];simp only [kZ,zaU,ev_unt,q9,jN,jf,jo,qc,wN,ks_nil,zAf,jg,zfl,zH,zQ,evB,evI,evL,evC,zD,wS,evA,qZ,qq,ku,zfn,joinL,sizesOk,zjd,i1,i1b,i3,c13,c24,d24,c23,d23,hF,zgt,zh1,kErA,q6,ki,zAo,zBZ]
   rw [kZ (by rfl),kZ (by rfl),kZ (by rfl)]
   simp only [qb,ev_esc,qa,q9,jN,jf,jo,vV,ks_nil,zAf,jg,zH,zQ,zy,evC,zD,wS,qZ,jD,joinL,sizesOk,zk,c12]
  ·have i1:(ltz ((min x.length 12:Nat):Int) (x.length:Int) && ltz ((min x.length 12:Nat):Int) 12)=false:=by
    rcases zAh x.length 12 with h|h
    ·rw [show ltz ((min x.length 12:Nat):Int) (x.length:Int)=false from zed (by omega)];rfl
    ·rw [show ltz ((min x.length 12:Nat):Int) 12=false from zed (by omega),Bool.and_false]
   simp only [lp6_1];simp only [wz,qb,ev_esc,qa,q9,jN,jf,jo,vV,ks_nil,zAf,jg,zH,zQ,evB,evI,evL,zy,evC,zD,wS,qZ,jD,qq,ku,joinL,sizesOk,zjd,i1,c12,zAo]
  ·cases zc7 (fun i=>ya l (fwr n) (za9 ((x.map (·.2)).getD i [])).length) (min x.length 12)<;>rfl
end Go.Proofs.YtlnijcffanjieaaGreatDoor
namespace Go.Proofs.YtlnijcffanjieaaGreatDoor
set_option maxRecDepth 100000
open Go Go.Vm
theorem zp3 {g:Gh} {xs:List V} {cs:Array Value} (h:RC g xs cs.toList):RelV g (.agg xs) (.agg cs):=by
 refine .agg (by rw [RC.length h,zBG]) (fun j x hx=>?_) fun j x v hx hv=>?_
 ·obtain ⟨v,_,hg⟩:=h.get j x hx;exact hg.1
 ·obtain ⟨v',hv',hg⟩:=h.get j x hx;rw [zBb,hv] at hv';cases hv';exact hg.2.1
theorem zkx {g:Gh}:∀ {xs:List V} {cs:List Value},RC g xs cs->tops xs=0
 | [],[],_=>rfl
 | x::xs,v::cs,h=>by simp [tops,h.1.2.2.1,zkx h.2]
 | [],_::_,h=>h.elim
 | _::_,[],h=>h.elim
theorem c89:Tryz.prog.cellsOf 89=21:=by kernel_rfl
theorem c4':Tryz.prog.cellsOf 4=1:=by kernel_rfl
theorem c52:Tryz.prog.cellsOf 52=1:=by kernel_rfl
theorem c36:Tryz.prog.cellsOf 36=1:=by kernel_rfl
theorem c54:Tryz.prog.cellsOf 54=3:=by kernel_rfl
theorem b89:1<=Tryz.prog.bytesOf 89:=of_decide_eq_true (by kernel_rfl)
theorem b3:Tryz.prog.bytesOf 3=8:=by kernel_rfl
theorem zrE (cs:List V):yq Tryz.prog 89 cs=.agg cs:=by
 have:xE Tryz.prog 89=true:=by kernel_rfl
 simp only [yq,this,if_true]
theorem mk3 (x:V):yq Tryz.prog 3 [x]=x:=by
 have:xE Tryz.prog 3=false:=by kernel_rfl
 simp only [yq,this,zAD,if_false];rfl
theorem zp4 {n:Nat} {xs:List V} (h:qR Tryz.prog n 4 xs):∃ b,xs=[.bool b]:=by
 cases n with
 | zero=>exact h.elim
 | succ n =>
  simp only [qR,Tryz.underlying4] at h;exact h
theorem zoQ {n:Nat} {xs:List V} (h:qR Tryz.prog n 89 xs):∃ c,xs=qf c/\GdC c:=by
 cases n with
 | zero=>exact h.elim
 | succ n =>
  simp only [qR,Tryz.underlying89,c89] at h;obtain ⟨hl,h⟩:=h;have f0:=h ⟨ "Head",27,0,false,"","",0⟩ (by simp)
  have f1:=h ⟨ "HasTrail",4,10,false,"","",104⟩ (by simp)
  have f2:=h ⟨ "Trail",27,11,false,"","",112⟩ (by simp)
  clear h;simp only [c27,c4'] at f0 f1 f2;rw [zBc] at f0;obtain ⟨A,hA,gA⟩:=typedE n _ f0;obtain ⟨b,hb⟩:=zp4 f1;obtain ⟨B,hB,gB⟩:=typedE n _ f2;rw [qt,V.agg.injEq] at hA hB;have e1:(xs.drop 11).take 10=xs.drop 11:=zA6 (by simp [hl])
  have d1:xs.drop 10=(xs.drop 10).take 1++(xs.drop 10).drop 1:=(zA3 1 _).symm;refine ⟨⟨A,b,B⟩,?_,gA,gB⟩;simp only [qf];rw [hA,hB,e1];rw [hb,List.drop_drop] at d1;rw [show V.bool b::xs.drop 11=[V.bool b]++xs.drop 11 from rfl,<- d1,zA3]
theorem zoR {n:Nat} {v:V} (h:qR Tryz.prog n 52 [v]):∃ nl l,v=qS nl l/\l.length<=maxLen/\l.length<2 ^ 60/\∀ c∈l,GdC c:=by
 cases n with
 | zero=>exact h.elim
 | succ n =>
  simp only [qR,Tryz.underlying52,c89] at h;rcases h with h|⟨ys,h,⟨hl,hb⟩,hy⟩
  ·simp only [zAu,zBO] at h;exact ⟨true,[],by rw [h];rfl,by simp,by simp,by simp⟩
  ·simp only [zAu,zBO] at h;obtain ⟨l,h1,h2⟩:=zcd (h:=kM) (Q:=GdC) ys fun y hyy=>by
    obtain ⟨cs,g1,g2⟩:=hy y hyy;rw [zrE] at g2;obtain ⟨c,rfl,hg⟩:=zoQ g1;exact ⟨c,g2.symm,hg⟩
   subst h1;rw [zAo] at hl hb;have h8:=b89;have hr:reachBytes<2 ^ 60:=by decide
   have:=Nat.le_mul_of_pos_right l.length h8;exact ⟨false,l,h,hl,by omega,h2⟩
theorem zoS {n:Nat} {v:V} (h:qR Tryz.prog n 36 [v]):∃ nl l,v=qx nl l/\l.length<=maxLen/\l.length * 8<=140737488355328:=by
 cases n with
 | zero=>exact h.elim
 | succ n =>
  simp only [qR,Tryz.underlying36,c3',b3] at h;rcases h with h|⟨ys,h,⟨hl,hb⟩,hy⟩
  ·simp only [zAu,zBO] at h;exact ⟨true,[],by rw [h];rfl,by simp,by simp⟩
  ·simp only [zAu,zBO] at h;obtain ⟨l,h1,h2⟩:=zcd (h:=V.int .i64) (Q:=fun _=>True) ys fun y hyy=>by
    obtain ⟨cs,g1,g2⟩:=hy y hyy;obtain ⟨z,rfl⟩:=zeC g1;rw [mk3] at g2;exact ⟨z,g2.symm,trivial⟩
   subst h1;rw [zAo] at hl hb;have hr:reachBytes<=140737488355328:=by decide
   exact ⟨false,l,h,hl,by omega⟩
theorem zoT {n:Nat} {xs:List V} (h:qR Tryz.prog n 54 xs):∃ nl l al a xn x,xs=[qS nl l,qx al a,zjc xn x]/\(l.length<=maxLen/\l.length<2 ^ 60/\∀ c∈l,GdC c)/\(a.length<=maxLen/\a.length * 8<=140737488355328)/\x.length<=maxLen/\∀ p∈x,zlz p:=by
 cases n with
 | zero=>exact h.elim
 | succ n =>
  simp only [qR,Tryz.underlying54,c54] at h;obtain ⟨hl,h⟩:=h;have f0:=h ⟨ "L",52,0,false,"","",0⟩ (by simp)
  have f1:=h ⟨ "Active",36,1,false,"","",24⟩ (by simp)
  have f2:=h ⟨ "Texts",28,2,false,"","",48⟩ (by simp)
  clear h;simp only [c52,c36,c28] at f0 f1 f2
  match xs,hl with
  | [u,v,w],_ =>
   obtain ⟨nl,l,rfl,k1⟩:=zoR f0;obtain ⟨al,a,rfl,k2⟩:=zoS f1;obtain ⟨xn,x,rfl,k3⟩:=zoJ f2;exact ⟨nl,l,al,a,xn,x,rfl,k1,k2,k3⟩
def S0G:List TypeId:=[3,4,5,9,22,24,25,27,28,34,36,52,54,89]
theorem closed0G:S0G.all (zdb Tryz.prog S0G)=true:=by kernel_rfl
end Go.Proofs.YtlnijcffanjieaaGreatDoor
namespace Go.Proofs.YtlnijcffanjieaaGreatDoor
set_option maxRecDepth 100000
open Go Go.Vm
theorem zrF (n:Nat) (xs:List V) (h:qR Tryz.prog n 54 xs):∃ k,∀ m,k<=m->callA Tryz.prog gl2 m 6 [.agg xs] ⟨[],[]⟩=some (.ret (.bool true),⟨[],[]⟩):=by
 obtain ⟨nl,l,al,a,xn,x,rfl,⟨h1,h2,h3⟩,⟨h4,h5⟩,h6,h7⟩:=zoT h;exact Sx.Ev.run (xs:=[.agg _]) (ev6 (nl:=nl) (al:=al) (a:=a) (xn:=xn) h1 h2 h3 h6 h7) ⟨[],[]⟩
end Go.Proofs.YtlnijcffanjieaaGreatDoor
