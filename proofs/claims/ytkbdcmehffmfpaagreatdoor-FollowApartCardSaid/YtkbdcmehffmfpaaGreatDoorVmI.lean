/- Seat 5: FollowTrails' law, out of its tree; Seat 5: how great expressions are, which of them may be: plain; Seat 5: every position of a core has something behind it; positions are counted: plain; and what follows from it. Conditions: none but those that each theorem names. -/
import Derived.Test.YtkbdcmehffmfpaaGreatDoorVmE
import Derived.Test.YtkbdcmehffmfpaaGreatDoorVmH
namespace Go.Proofs.YtkbdcmehffmfpaaGreatDoor
set_option maxRecDepth 10000
open Go Go.Vm Go.Vm.Sx
variable {gl:Gl} [NoU gl]
theorem par25 {x:V}:ParOk Tryz.prog [25] [.d x] 0:=by
 refine ⟨fun e=>?_,trivial⟩
 rw [Tryz.underlying25];simp
def nv (l:List Int):V:=lv 1 true (l.map (.int .i64))
def rvs (l:List (List Int)):V:=lv 1 true (l.map nv)
def svs (l:List (Int×Int×Int×Int)):V:=lv 4 true (l.map setV)
structure Fo where
 s:List (Int×Int×Int×Int)
 r:List Int
 f:List (List Int)
 n:List (List Int)
def foC (F:Fo):List V:=[svs F.s,nv F.r,rvs F.f,rvs F.n]
def foV (F:Fo):V:=.agg (foC F)
theorem k_nv (l:List Int):kOk (.sl 1) (nv l)=true:=k_lv ..
theorem k_rvs (l:List (List Int)):kOk (.sl 1) (rvs l)=true:=k_lv ..
theorem k_svs (l:List (Int×Int×Int×Int)):kOk (.sl 4) (svs l)=true:=k_lv ..
theorem vL_nv (l:List Int):vL (nv l)=l.map (.int .i64):=vL_lv ..
theorem vL_rvs (l:List (List Int)):vL (rvs l)=l.map nv:=vL_lv ..
theorem vL_svs (l:List (Int×Int×Int×Int)):vL (svs l)=l.map setV:=vL_lv ..
theorem clr_nv (l:List Int):clr (nv l)=nv l:=clr_lv ..
theorem clr_rvs (l:List (List Int)):clr (rvs l)=rvs l:=clr_lv ..
theorem clr_svs (l:List (Int×Int×Int×Int)):clr (svs l)=svs l:=clr_lv ..
theorem top_nv (l:List Int):(nv l).top=0:=by unfold nv;rw [top_lv];exact tops_mp (fun _=>rfl) _
theorem top_rvs (l:List (List Int)):(rvs l).top=0:=by unfold rvs;rw [top_lv];exact tops_mp top_nv _
theorem top_svs (l:List (Int×Int×Int×Int)):(svs l).top=0:=by unfold svs;rw [top_lv];exact tops_mp (fun _=>rfl) _
theorem top_fo (F:Fo):(foV F).top=0:=by simp [foV,foC,V.top,tops,top_svs,top_nv,top_rvs]
theorem nth_mp {α:Type} {h:α→V} {l:List α} {i:Nat} {a:α} (ha:l[i]?=some a):nth (l.map h) i=some (h a):=by rw [nth_eq,List.getElem?_map,ha];rfl
structure FoOk (F:Fo):Prop where
 s:F.s.length≤maxLen
 r:F.r.length≤maxLen
 f:F.f.length≤maxLen∧∀ l∈F.f,l.length≤maxLen
 n:F.n.length≤maxLen∧∀ l∈F.n,l.length≤maxLen
structure BV (A:List V) (e:V):Prop where
 a:∃ a b c d,A=[a,b,c,d]∧kOk (.sl 4) a=true∧kOk (.sl 1) b=true∧kOk (.sl 1) c=true∧kOk (.sl 1) d=true∧clr a=a∧clr b=b∧clr c=c∧clr d=d
 e:e=.nili∨∃ t v,e=.ifc t v
end Go.Proofs.YtkbdcmehffmfpaaGreatDoor
namespace Go.Proofs.YtkbdcmehffmfpaaGreatDoor
open Go Go.Vm Go.Vm.Sx
mutual
def nodes:E→Nat
 | .mk _ _ _ _ _ _ _ _ _ _ args=>1+nodesF args
def nodesF:List E→Nat
 | []=>0
 | a::l=>nodes a+nodesF l
end
mutual
def nset:E→Nat
 | .mk op _ _ _ _ _ _ _ _ _ args=>(if op == 2 then 1 else 0)+nsetF args
def nsetF:List E→Nat
 | []=>0
 | a::l=>nset a+nsetF l
end
mutual
def good:E→Int→Bool
 | .mk op pl s0 s1 s2 s3 text mn mx nl args,d=>decide (d≤4096) && (leanB (.mk op pl s0 s1 s2 s3 text mn mx nl args) && (kindB (.mk op pl s0 s1 s2 s3 text mn mx nl args) && goodF args (d+1)))
def goodF:List E→Int→Bool
 | [],_=>true
 | a::l,d=>good a d && goodF l d
end
mutual
theorem nset_le:∀ e,nset e≤nodes e
 | .mk op _ _ _ _ _ _ _ _ _ args=>by
  have:=nsetF_le args
  simp only [nset,nodes];split<;>omega
theorem nsetF_le:∀ l,nsetF l≤nodesF l
 | []=>by simp [nsetF]
 | a::l=>by have:=nset_le a;have:=nsetF_le l;simp only [nsetF,nodesF];omega
end
def Bd (d:Int):Int:=1048576 * (5003 - d)
mutual
theorem size_bd:∀ (e:E) (d:Int),Wf e→0≤d→d≤5001→1≤sizeM e d∧sizeM e d≤Bd d
 | .mk _ _ _ _ _ _ _ _ _ _ args,d,hw,h0,h1=>by
  simp only [sizeM]
  cases hd:ltz 5000 d with
  | true=>simp only [if_true,Bd];omega
  | false =>
   have hd':d≤5000:=by
    rcases Int.lt_or_le 5000 d with h|h
    ·rw [ltz_t h] at hd;cases hd
    ·exact h
   simp only [Bool.false_eq_true,if_false]
   rw [w64 (x:=d+1) (by omega) (by omega)]
   have:=sizeF_bd args (d+1) 1 hw.2.2 (by omega) (by omega) (by omega) (by simp only [Bd];omega)
   refine ⟨by omega,?_⟩
   have:=this.2
   simp only [Bd] at this ⊢
   omega
theorem sizeF_bd:∀ (l:List E) (d n:Int),Wfs l→0≤d→d≤5001→1≤n→n≤Bd (d - 1)→n≤sizeF d n l∧sizeF d n l≤Bd (d - 1)
 | [],d,n,_,h0,h1,hn,hb=>by simp only [sizeF];omega
 | a::l,d,n,hw,h0,h1,hn,hb=>by
  obtain ⟨a1,a2⟩:=size_bd a d hw.1 h0 h1
  simp only [sizeF]
  cases hc:ltz n 1048576 with
  | false=>simp only [Bool.false_eq_true,if_false];omega
  | true =>
   have hc':=ltz_i.1 hc
   simp only [if_true]
   simp only [Bd] at a2 hb
   rw [w64 (by omega) (by omega)]
   have:=sizeF_bd l d (n+sizeM a d) hw.2 h0 h1 (by omega) (by simp only [Bd];omega)
   exact ⟨by omega,this.2⟩
end
mutual
theorem size_nodes:∀ (e:E) (d:Int),Wf e→0≤d→d≤5001→sizeM e d≤20000→(nodes e:Int)≤sizeM e d
 | .mk _ _ _ _ _ _ _ _ _ _ args,d,hw,h0,h1,hs=>by
  simp only [sizeM] at hs ⊢
  cases hd:ltz 5000 d with
  | true=>rw [hd] at hs;simp only [if_true] at hs;omega
  | false =>
   rw [hd] at hs
   have hd':d≤5000:=by
    rcases Int.lt_or_le 5000 d with h|h
    ·rw [ltz_t h] at hd;cases hd
    ·exact h
   simp only [Bool.false_eq_true,if_false] at hs ⊢
   rw [w64 (x:=d+1) (by omega) (by omega)] at hs ⊢
   have g1:=sizeF_nodes args (d+1) 1 hw.2.2 (by omega) (by omega) (by omega) (by simp only [Bd];omega) hs
   simp only [nodes];omega
theorem sizeF_nodes:∀ (l:List E) (d n:Int),Wfs l→0≤d→d≤5001→1≤n→n≤Bd (d - 1)→sizeF d n l≤20000→n+(nodesF l:Int)≤sizeF d n l
 | [],d,n,hw,h0,h1,hn,hb,hs=>by simp only [sizeF,nodesF] at hs ⊢;omega
 | a::l,d,n,hw,h0,h1,hn,hb,hs=>by
  obtain ⟨a1,a2⟩:=size_bd a d hw.1 h0 h1
  simp only [sizeF] at hs ⊢
  cases hc:ltz n 1048576 with
  | false =>
   rw [hc] at hs
   simp only [Bool.false_eq_true,if_false] at hs
   rw [ltz_t (by omega)] at hc;cases hc
  | true =>
   have hc':=ltz_i.1 hc
   rw [hc] at hs
   simp only [if_true] at hs ⊢
   simp only [Bd] at a2 hb
   rw [w64 (by omega) (by omega)] at hs ⊢
   have hb':n+sizeM a d≤Bd (d - 1):=by simp only [Bd];omega
   have:=(sizeF_bd l d (n+sizeM a d) hw.2 h0 h1 (by omega) hb').1
   have g1:=sizeF_nodes l d (n+sizeM a d) hw.2 h0 h1 (by omega) hb' hs
   have f1:=size_nodes a d hw.1 h0 h1 (by omega)
   simp only [nodesF];omega
end
mutual
theorem parts_good:∀ (e:E) (d n s:Int),0≤d→d≤4097→0≤n→n+(nodes e:Int)≤65536→0≤s→s+(nodes e:Int)≤65536→(partsM e d n s).1=good e d∧(good e d=true→(partsM e d n s).2.1=n+nodes e∧(partsM e d n s).2.2=s+nset e)
 | .mk op pl s0 s1 s2 s3 text mn mx nl args,d,n,s,h0,h1,h2,h3,h4,h5=>by
  simp only [nodes] at h3 h5
  simp only [partsM,good]
  rw [w64 (x:=n+1) (by omega) (by omega),ltz_f (x:=65536) (by omega),Bool.false_or]
  cases hd:ltz 4096 d with
  | true =>
   have:=ltz_i.1 hd
   simp only [if_true]
   rw [decide_eq_false (by omega)]
   simp
  | false =>
   have hd':d≤4096:=by
    rcases Int.lt_or_le 4096 d with h|h
    ·rw [ltz_t h] at hd;cases hd
    ·exact h
   rw [decide_eq_true hd',Bool.true_and]
   simp only [Bool.false_eq_true,if_false]
   cases hl:leanB (.mk op pl s0 s1 s2 s3 text mn mx nl args) with
   | false=>simp
   | true =>
   cases hk:kindB (.mk op pl s0 s1 s2 s3 text mn mx nl args) with
   | false=>simp
   | true =>
   simp only [if_true,Bool.true_and]
   rw [w64 (x:=d+1) (by omega) (by omega),w64 (x:=s+1) (by omega) (by omega)]
   cases ho:op == 2 with
   | true =>
    simp only [if_true]
    obtain ⟨g1,g2⟩:=partsF_good args (d+1) (n+1) (s+1) (by omega) (by omega) (by omega) (by omega) (by omega) (by omega)
    refine ⟨g1,fun hg=>?_⟩
    obtain ⟨g3,g4⟩:=g2 hg
    rw [g3,g4]
    simp only [nodes,nset,ho,if_true]
    omega
   | false =>
    simp only [Bool.false_eq_true,if_false]
    obtain ⟨g1,g2⟩:=partsF_good args (d+1) (n+1) s (by omega) (by omega) (by omega) (by omega) (by omega) (by omega)
    refine ⟨g1,fun hg=>?_⟩
    obtain ⟨g3,g4⟩:=g2 hg
    rw [g3,g4]
    simp only [nodes,nset,ho,Bool.false_eq_true,if_false]
    omega
theorem partsF_good:∀ (l:List E) (d n s:Int),0≤d→d≤4097→0≤n→n+(nodesF l:Int)≤65536→0≤s→s+(nodesF l:Int)≤65536→(partsF d l n s).1=goodF l d∧(goodF l d=true→(partsF d l n s).2.1=n+nodesF l∧(partsF d l n s).2.2=s+nsetF l)
 | [],d,n,s,_,_,_,_,_,_=>by simp [partsF,goodF,nodesF,nsetF]
 | a::l,d,n,s,h0,h1,h2,h3,h4,h5=>by
  simp only [nodesF] at h3 h5
  obtain ⟨g1,g2⟩:=parts_good a d n s h0 h1 h2 (by omega) h4 (by omega)
  simp only [partsF,goodF]
  cases hg:good a d with
  | false =>
   rw [hg] at g1
   simp [g1]
  | true =>
   rw [hg] at g1
   obtain ⟨g3,g4⟩:=g2 hg
   have:=nset_le a
   simp only [g1,if_true,Bool.true_and,g3,g4]
   obtain ⟨f1,f2⟩:=partsF_good l d (n+nodes a) (s+nset a) h0 h1 (by omega) (by omega) (by omega) (by omega)
   refine ⟨f1,fun hh=>?_⟩
   obtain ⟨f3,f4⟩:=f2 hh
   rw [f3,f4]
   simp only [nodesF,nsetF]
   omega
end
mutual
def gd:E→Bool
 | .mk op pl s0 s1 s2 s3 text mn mx nl args=>leanB (.mk op pl s0 s1 s2 s3 text mn mx nl args) && (kindB (.mk op pl s0 s1 s2 s3 text mn mx nl args) && gdF args)
def gdF:List E→Bool
 | []=>true
 | a::l=>gd a && gdF l
end
mutual
theorem good_gd:∀ (e:E) (d:Int),d+nodes e≤4097→good e d=gd e
 | .mk op pl s0 s1 s2 s3 text mn mx nl args,d,h=>by
  simp only [nodes] at h
  simp only [good,gd]
  rw [decide_eq_true (by omega),Bool.true_and,goodF_gd args (d+1) (by omega)]
theorem goodF_gd:∀ (l:List E) (d:Int),d+nodesF l≤4097→goodF l d=gdF l
 | [],_,_=>rfl
 | a::l,d,h=>by
  simp only [nodesF] at h
  simp only [goodF,gdF]
  rw [good_gd a d (by omega),goodF_gd l d (by omega)]
end
theorem chk_gd {e:E} (h:nodes e≤4000):chkP e=gd e:=by
 obtain ⟨h1,_⟩:=parts_good e 1 0 0 (by omega) (by omega) (by omega) (by omega) (by omega) (by omega)
 rw [chkP,h1,good_gd e 1 (by omega)]
theorem siz_gd {e:E} (h:nodes e≤4000):sizP e=if gd e then (if 1001<(nset e:Int) then 1001 else (nset e:Int)) else 0:=by
 obtain ⟨h1,h2⟩:=parts_good e 1 0 0 (by omega) (by omega) (by omega) (by omega) (by omega) (by omega)
 have hg:=good_gd e 1 (by omega)
 rw [sizP,h1,hg]
 cases h3:gd e with
 | false=>rfl
 | true =>
  rw [(h2 (by rw [hg,h3])).2]
  simp only [cond_true,if_true,Int.zero_add]
  by_cases h4:1001<(nset e:Int)
  ·rw [if_pos h4,ltz_t h4];rfl
  ·rw [if_neg h4,ltz_f (by omega)];rfl
theorem zero_not {e:E} (h:zeroB e=true):gd e=false:=by
 obtain ⟨op,pl,s0,s1,s2,s3,text,mn,mx,nl,args⟩:=e
 simp only [zeroB,Bool.and_eq_true,beq_iff_eq] at h
 obtain ⟨⟨⟨⟨⟨⟨rfl,_⟩,_⟩,_⟩,_⟩,_⟩,_⟩:=h
 simp [gd,kindB]
theorem small_nodes:∀ (l:List Cr) (n:Int),(∀ c∈l,WfC c)→0≤n→n+11000000000 * (l.length:Int)≤9000000000000000000→smallF n l≤800→n≤smallF n l∧∀ c∈l,nodes c.1≤800∧nodes c.2.2≤800
 | [],n,_,_,_,h=>by simp only [smallF] at h ⊢;exact ⟨by omega,fun c hc=>by cases hc⟩
 | c::l,n,hw,h0,hb,h=>by
  obtain ⟨w1,w2⟩:=hw c (List.mem_cons_self ..)
  obtain ⟨a1,a2⟩:=size_bd c.1 0 w1 (by omega) (by omega)
  obtain ⟨b1,b2⟩:=size_bd c.2.2 0 w2 (by omega) (by omega)
  simp only [Bd] at a2 b2
  simp only [List.length_cons] at hb
  simp only [smallF] at h ⊢
  rw [w64 (x:=n+sizeM c.1 0) (by omega) (by omega),w64 (by omega) (by omega)] at h ⊢
  obtain ⟨g1,g2⟩:=small_nodes l (n+sizeM c.1 0+sizeM c.2.2 0) (fun c hc=>hw c (List.mem_cons_of_mem _ hc)) (by omega) (by push_cast at hb ⊢;omega) h
  have f1:=size_nodes c.1 0 w1 (by omega) (by omega) (by omega)
  have f2:=size_nodes c.2.2 0 w2 (by omega) (by omega) (by omega)
  refine ⟨by omega,fun c' hc=>?_⟩
  rcases List.mem_cons.1 hc with rfl|hc
  ·exact ⟨by omega,by omega⟩
  ·exact g2 c' hc
end Go.Proofs.YtkbdcmehffmfpaaGreatDoor
namespace Go.Proofs.YtkbdcmehffmfpaaGreatDoor
set_option maxRecDepth 10000
open Go Go.Vm Go.Vm.Sx
def rw5 (ns:List (Nat→Bool)) (x:Nat):Nat→Bool:=ns.getD x noP
theorem rw5_set {ns:List (Nat→Bool)} {k x:Nat} {p:Nat→Bool} (hx:x<ns.length):rw5 (ns.set k p) x=if k=x then p else rw5 ns x:=by
 unfold rw5
 rw [List.getD_eq_getElem?_getD,List.getD_eq_getElem?_getD,List.getElem?_set]
 by_cases h:k=x
 ·subst h;simp [hx]
 ·simp [h]
theorem fol_get {q:Nat→Bool} {x:Nat}:∀ {ks:List Nat} {ns:List (Nat→Bool)},x<ns.length→∀ y,rw5 (fol q ks ns) x y=(rw5 ns x y || (decide (x∈ks) && q y))
 | [],ns,_,y=>by simp [fol]
 | k::ks,ns,hx,y=>by
  rw [fol,fol_get (by rw [List.length_set];exact hx),rw5_set hx]
  by_cases h:k=x
  ·subst h
   simp only [if_true,joinP,List.mem_cons,true_or,decide_true,Bool.true_and]
   show (rw5 ns k y || q y || (decide (k∈ks) && q y))=(rw5 ns k y || q y)
   cases rw5 ns k y<;>cases q y<;>simp
  ·have:decide (x∈k::ks)=decide (x∈ks):=by simp [Ne.symm h]
   rw [if_neg h,this]
def Rich (ns:List (Nat→Bool)) (x:Nat):Prop:=∃ y,y<1216∧rw5 ns x y=true
structure Grow (ns ns':List (Nat→Bool)):Prop where
 len:ns.length≤ns'.length
 row:∀ x,x<ns.length→∀ y,rw5 ns x y=true→rw5 ns' x y=true
theorem Grow.refl {ns:List (Nat→Bool)}:Grow ns ns:=⟨Nat.le_refl _,fun _ _ _ h=>h⟩
theorem Grow.trans {a b c:List (Nat→Bool)} (h:Grow a b) (k:Grow b c):Grow a c:=⟨Nat.le_trans h.len k.len,fun x hx y hy=>k.row x (Nat.lt_of_lt_of_le hx h.len) y (h.row x hx y hy)⟩
theorem Grow.rich {a b:List (Nat→Bool)} (h:Grow a b) {x:Nat} (hx:x<a.length) (hr:Rich a x):Rich b x:=by
 obtain ⟨y,h1,h2⟩:=hr
 exact ⟨y,h1,h.row x hx y h2⟩
theorem fol_grow {q:Nat→Bool} {ks:List Nat} {ns:List (Nat→Bool)}:Grow ns (fol q ks ns):=⟨by rw [fol_len];exact Nat.le_refl _,fun x hx y hy=>by rw [fol_get hx,hy];rfl⟩
theorem app_grow {ns:List (Nat→Bool)} {p:Nat→Bool}:Grow ns (ns++[p]):=⟨by simp,fun x hx y hy=>by
 unfold rw5 at hy ⊢
 rw [List.getD_eq_getElem?_getD] at hy ⊢
 rw [List.getElem?_append_left hx];exact hy⟩
structure Inv (n0:Nat) (P:Part) (ns:List (Nat→Bool)):Prop where
 nn:P.null=true∨∃ y,y<1216∧P.first y=true
 lv:∀ x,n0≤x→x<ns.length→P.last x=true∨Rich ns x
theorem fol_rich {q:Nat→Bool} {p:Nat→Bool} {ns:List (Nat→Bool)} {x:Nat} (hx:x<ns.length) (hx2:x<1216) (hp:p x=true) (hq:∃ y,y<1216∧q y=true):Rich (fol q (preN p 19) ns) x:=by
 obtain ⟨y,h1,h2⟩:=hq
 refine ⟨y,h1,?_⟩
 rw [fol_get hx,h2]
 have:x∈preN p 19:=mem_preN.2 ⟨by omega,hp⟩
 simp [this]
theorem joined_grow {op:Int} {k:Nat} {a b:Part} {ns:List (Nat→Bool)}:Grow ns (joinedM op k a b ns).2:=by
 unfold joinedM
 split
 ·exact Grow.refl
 ·split
  ·exact Grow.refl
  ·simp only
   exact fol_grow
theorem joined_inv {op:Int} {k:Nat} {n0:Nat} {a b:Part} {ns1 ns:List (Nat→Bool)} (hk:0<k) (ha:Inv n0 a ns1) (hb:Inv ns1.length b ns) (hg:Grow ns1 ns) (hl:ns.length≤1200):Inv n0 (joinedM op k a b ns).1 (joinedM op k a b ns).2:=by
 unfold joinedM
 rw [if_neg (by omega)]
 split
 ·refine ⟨?_,fun x h0 hx=>?_⟩
  ·rcases ha.nn with h|⟨y,h1,h2⟩
   ·left;simp [h]
   ·right;exact ⟨y,h1,by simp [joinP,h2]⟩
  ·by_cases hx1:x<ns1.length
   ·rcases ha.lv x h0 hx1 with h|h
    ·left;simp [joinP,h]
    ·right;exact hg.rich hx1 h
   ·rcases hb.lv x (by omega) hx with h|h
    ·left;simp [joinP,h]
    ·right;exact h
 ·refine ⟨?_,fun x h0 hx=>?_⟩
  ·simp only
   rcases ha.nn with h|⟨y,h1,h2⟩
   ·rcases hb.nn with h'|⟨y,h1,h2⟩
    ·left;simp [h,h']
    ·right;exact ⟨y,h1,by simp [h,joinP,h2]⟩
   ·right
    refine ⟨y,h1,?_⟩
    split
    ·simp [joinP,h2]
    ·exact h2
  ·simp only [fol_len] at hx ⊢
   by_cases hx1:x<ns1.length
   ·rcases ha.lv x h0 hx1 with h|h
    ·rcases hb.nn with h'|h'
     ·left;simp [h',joinP,h]
     ·right;exact fol_rich hx (by omega) h h'
    ·right;exact fol_grow.rich hx (hg.rich hx1 h)
   ·rcases hb.lv x (by omega) hx with h|h
    ·left
     split
     ·simp [joinP,h]
     ·exact h
    ·right;exact fol_grow.rich hx h
variable {r:Int}
theorem leaf_inv {op:Int} {q:Int×Int×Int×Int} {m:Mk} (hok:m.Ok) (hop:op=1∨op=2) (hl:m.sets.length≤1200):Inv m.next.length (leafM op q r m).1 (leafM op q r m).2.next∧Grow m.next (leafM op q r m).2.next∧(leafM op q r m).2.sets.length=m.sets.length+(if op == 2 then 1 else 0)∧(leafM op q r m).2.Ok:=by
 refine ⟨?_,?_,?_,(leafM_ok hok).1⟩
 ·unfold leafM
  split
  ·exact ⟨.inl rfl,fun x h0 hx=>by simp only at hx;omega⟩
  ·refine ⟨.inr ⟨m.sets.length,by omega,by simp [addP,noP]⟩,fun x h0 hx=>.inl ?_⟩
   simp only [List.length_append,List.length_singleton] at hx
   have:x=m.sets.length:=by rw [← hok.n];omega
   simp [addP,noP,this]
 ·unfold leafM
  split
  ·exact Grow.refl
  ·exact app_grow
 ·unfold leafM
  rcases hop with rfl|rfl
  ·simp
  ·simp
theorem fin7_inv {op mn mx:Int} {n0:Nat} {x:Part×Mk} (h:Inv n0 x.1 x.2.next) (hok:x.2.Ok):Inv n0 (fin7 op mn mx x).1 (fin7 op mn mx x).2.next∧Grow x.2.next (fin7 op mn mx x).2.next∧(fin7 op mn mx x).2.Ok:=by
 unfold fin7
 split
 ·unfold repM
  simp only
  split
  ·refine ⟨⟨?_,fun y h0 hy=>?_⟩,fol_grow,⟨hok.r,by simp only [fol_len];exact hok.n⟩⟩
   ·rcases h.nn with h1|h1
    ·left;simp [h1]
    ·right;exact h1
   ·rw [fol_len] at hy
    rcases h.lv y h0 hy with h1|h1
    ·left;exact h1
    ·right;exact fol_grow.rich hy h1
  ·refine ⟨⟨?_,h.lv⟩,Grow.refl,⟨hok.r,hok.n⟩⟩
   rcases h.nn with h1|h1
   ·left;simp [h1]
   ·right;exact h1
 ·exact ⟨h,Grow.refl,hok⟩
mutual
theorem wkE_inv:∀ (e:E) (m:Mk),gd e=true→m.Ok→m.sets.length+nset e≤1200→Inv m.next.length (wkE r e m).1 (wkE r e m).2.next∧Grow m.next (wkE r e m).2.next∧(wkE r e m).2.sets.length=m.sets.length+nset e∧(wkE r e m).2.Ok
 | .mk op pl s0 s1 s2 s3 tx mn mx nl [],m,hg,hok,hl=>by
  have hop:op=1∨op=2:=by
   simp only [gd,kindB,Bool.and_eq_true] at hg
   by_cases h1:op=1
   ·exact .inl h1
   ·by_cases h2:op=2
    ·exact .inr h2
    ·have:=hg.2.1
     simp [h1,h2] at this
     exfalso
     revert this
     simp [ltz]
  obtain ⟨g1,g2,g3,g4⟩:=leaf_inv (op:=op) (q:=(s0,s1,s2,s3)) (r:=r) hok hop (by omega)
  simp only [wkE]
  refine ⟨g1,g2,?_,g4⟩
  rw [g3]
  simp only [nset,nsetF]
  rfl
 | .mk op pl s0 s1 s2 s3 tx mn mx nl (a::tl),m,hg,hok,hl=>by
  have hop:(op == 2)=false:=by
   simp only [gd,kindB,Bool.and_eq_true] at hg
   cases h2:op == 2 with
   | false=>rfl
   | true =>
    have:=hg.2.1
    have e2:=beq_iff_eq.1 h2
    subst e2
    simp at this
    omega
  have hgF:gdF (a::tl)=true:=by
   simp only [gd,Bool.and_eq_true] at hg
   exact hg.2.2
  have hns:nset (.mk op pl s0 s1 s2 s3 tx mn mx nl (a::tl))=nsetF (a::tl):=by simp only [nset,hop,Bool.false_eq_true,if_false,Nat.zero_add]
  rw [hns] at hl ⊢
  obtain ⟨g1,g2,g3,g4⟩:=wkL_inv (a::tl) op 0 p0 m m.next.length hgF hok (.inl ⟨rfl,rfl,by simp⟩) hl
  rw [wkE_cons]
  obtain ⟨f1,f2,f3⟩:=fin7_inv (op:=op) (mn:=mn) (mx:=mx) g1 g4
  exact ⟨f1,g2.trans f2,by rw [fin7_sets];exact g3,f3⟩
theorem wkL_inv:∀ (es:List E) (op:Int) (k:Nat) (a:Part) (m:Mk) (n0:Nat),gdF es=true→m.Ok→((k=0∧m.next.length=n0∧es≠[])∨(0<k∧Inv n0 a m.next))→m.sets.length+nsetF es≤1200 →
  Inv n0 (wkL r op k a es m).1 (wkL r op k a es m).2.next∧Grow m.next (wkL r op k a es m).2.next∧(wkL r op k a es m).2.sets.length=m.sets.length+nsetF es∧(wkL r op k a es m).2.Ok
 | [],op,k,a,m,n0,hg,hok,hi,hl=>by
  rw [wkL_nil]
  rcases hi with ⟨_,_,h⟩|⟨_,h⟩
  ·exact absurd rfl h
  ·exact ⟨h,Grow.refl,by simp [nsetF],hok⟩
 | e::es,op,k,a,m,n0,hg,hok,hi,hl=>by
  simp only [gdF,Bool.and_eq_true] at hg
  simp only [nsetF] at hl
  obtain ⟨g1,g2,g3,g4⟩:=wkE_inv e m hg.1 hok (by omega)
  rw [wkL_cons]
  obtain ⟨x,hx⟩:∃ x,x=wkE r e m:=⟨_,rfl⟩
  rw [← hx] at g1 g2 g3 g4 ⊢
  have hjl:(joinedM op k a x.1 x.2.next).2.length=x.2.next.length:=joinedM_len
  have hok2:Mk.Ok { x.2 with next:=(joinedM op k a x.1 x.2.next).2 }:=⟨g4.r,by simp only [hjl];exact g4.n⟩
  have hinv:Inv n0 (joinedM op k a x.1 x.2.next).1 (joinedM op k a x.1 x.2.next).2:=by
   rcases hi with ⟨rfl,h,_⟩|⟨hk,h⟩
   ·subst h
    simpa [joinedM] using g1
   ·exact joined_inv hk h g1 g2 (by rw [g4.n];omega)
  obtain ⟨f1,f2,f3,f4⟩:=wkL_inv es op (k+1) (joinedM op k a x.1 x.2.next).1 { x.2 with next:=(joinedM op k a x.1 x.2.next).2 } n0 hg.2 hok2 (.inr ⟨by omega,hinv⟩) (by simp only;omega)
  refine ⟨f1,(g2.trans joined_grow).trans f2,?_,f4⟩
  rw [f3]
  simp only [nsetF]
  omega
end
def nsetR:List E→Nat
 | []=>0
 | e::es=>nset e+nsetR es
theorem rules_inv {n:Nat}:∀ (es:List E) (r:Nat) (m:Mk),(∀ e∈es,gd e=true)→m.Ok→m.sets.length+nsetR es≤1200→n+r+es.length≤1216→(∀ x,x<m.next.length→Rich m.next x) →
  (rulesM n r es m).2.sets.length=m.sets.length+nsetR es∧(∀ x,x<(rulesM n r es m).2.next.length→Rich (rulesM n r es m).2.next x)∧(rulesM n r es m).2.Ok
 | [],r,m,hg,hok,hl,hn,hr=>⟨by simp [rulesM,nsetR],hr,hok⟩
 | e::es,r,m,hg,hok,hl,hn,hr=>by
  simp only [nsetR] at hl
  simp only [List.length_cons] at hn
  obtain ⟨g1,g2,g3,g4⟩:=wkE_inv (r:=r) e m (hg e (List.mem_cons_self ..)) hok (by omega)
  have hok2:(ruleM n r e m).2.Ok:=by
   simp only [ruleM]
   exact ⟨g4.r,by simp only [fol_len];exact g4.n⟩
  have hs:(ruleM n r e m).2.sets.length=m.sets.length+nset e:=by rw [ruleM_sets];exact g3
  have hrich:∀ x,x<(ruleM n r e m).2.next.length→Rich (ruleM n r e m).2.next x:=fun x hx=>by
   simp only [ruleM,fol_len] at hx ⊢
   have hend:∃ y,y<1216∧addP noP (n+r) y=true:=⟨n+r,by omega,by simp [addP]⟩
   have hx2:x<1216:=by rw [g4.n,g3] at hx;omega
   by_cases hx0:x<m.next.length
   ·exact fol_grow.rich hx (g2.rich hx0 (hr x hx0))
   ·rcases g1.lv x (by omega) hx with h|h
    ·exact fol_rich hx hx2 h hend
    ·exact fol_grow.rich hx h
  obtain ⟨f1,f2,f3⟩:=rules_inv (n:=n) es (r+1) (ruleM n r e m).2 (fun e he=>hg e (List.mem_cons_of_mem _ he)) hok2 (by rw [hs];omega) (by omega) hrich
  simp only [rulesM]
  exact ⟨by rw [f1,hs,nsetR];omega,f2,f3⟩
theorem rich_ne {ns:List (Nat→Bool)} (h:∀ x,x<ns.length→Rich ns x):∀ p∈ns,preN p 19≠[]:=by
 intro p hp e
 obtain ⟨x,hx,rfl⟩:=List.getElem_of_mem hp
 obtain ⟨y,h1,h2⟩:=h x hx
 have:y∈preN ns[x] 19:=mem_preN.2 ⟨by omega,by
  unfold rw5 at h2
  rw [List.getD_eq_getElem?_getD,List.getElem?_eq_getElem hx] at h2
  exact h2⟩
 rw [e] at this
 cases this
end Go.Proofs.YtkbdcmehffmfpaaGreatDoor
namespace Go.Proofs.YtkbdcmehffmfpaaGreatDoor
set_option maxRecDepth 100000
open Go Go.Vm
variable {gl:Gl}
def fC (F N:List V):List V:=[.snil,.snil,ownL 1 29 F,ownL 1 29 N]
structure BI (H:Hp) (F N:List V) (m:Mk):Prop where
 r:H.get 0=some (.cells zF 32)
 f:H.get 2=some (.cells (fC F N) 32)
 mkr:∃ i,MK 0 H 1 m i
 len:3≤H.blks.length
def Kc (H H':Hp):Prop:=∀ d cs ty,d≠1→H.get d=some (.cells cs ty)→H'.get d=some (.cells cs ty)
theorem Kc.trans {A B C:Hp} (h:Kc A B) (k:Kc B C):Kc A C:=fun d cs ty h1 h2=>k d cs ty h1 (h d cs ty h1 h2)
theorem kc_frm {H H':Hp} {c:V} {i:Option Nat} {xs:List (List V)} (hu:UL H 19 60 c i xs) (hf:Frm H H' (fun d=>d=1∨i=some d)):Kc H H':=fun d cs ty hd hg=>hf.some hg fun hc=>by
 rcases hc with rfl|hc
 ·exact hd rfl
 ·exact UL_ndH hu hg hc
variable {H:Hp} {F N:List V} {m:Mk}
theorem BI.made (h:BI H F N m) {H':Hp} {m':Mk} {i':Option Nat} (hk:Kc H H') (hl:H.blks.length≤H'.blks.length) (hm:MK 0 H' 1 m' i'):BI H' F N m' :=
 ⟨hk _ _ _ (by decide) h.r,hk _ _ _ (by decide) h.f,⟨i',hm⟩,Nat.le_trans h.len hl⟩
theorem BI.push (h:BI H F N m) (x:Blk):BI (H.push x) F N m:=by
 have hl:=h.len
 obtain ⟨i,c,k1,k2,k3⟩:=h.mkr
 refine ⟨(push_lt (by omega)).trans h.r,(push_lt (by omega)).trans h.f,⟨i,c,(push_lt (by omega)).trans k1,k2.frame fun j hj=>push_lt (by subst hj;exact k2.lt),k3⟩,by rw [len_push];omega⟩
theorem kc_push (x:Blk):Kc H (H.push x):=fun _d _cs _ty _ hg=>(push_lt (get_lt hg)).trans hg
theorem BI.setc (h:BI H F N m) {b:Nat} {cs cs':List V} {ty ty':TypeId} (hb:H.get b=some (.cells cs ty)) (h3:3≤b):BI (H.set b (.cells cs' ty')) F N m:=by
 obtain ⟨i,c,k1,k2,k3⟩:=h.mkr
 refine ⟨(set_ne (by omega)).trans h.r,(set_ne (by omega)).trans h.f,⟨i,c,(set_ne (by omega)).trans k1,k2.frame fun j hj=>set_ne fun e=>?_,k3⟩,by rw [len_set];exact h.len⟩
 subst e
 exact UL_ndH k2 hb hj
theorem BI.setF {F' N':List V} (h:BI H F N m):BI (H.set 2 (.cells (fC F' N') 32)) F' N' m:=by
 obtain ⟨i,c,k1,k2,k3⟩:=h.mkr
 refine ⟨(set_ne (by decide)).trans h.r,set_eq h.f,⟨i,c,(set_ne (by decide)).trans k1,k2.frame fun j hj=>set_ne fun e=>?_,k3⟩,by rw [len_set];exact h.len⟩
 subst e
 exact UL_ndH k2 h.f hj
theorem edge_sub {H:Hp} {b:Nat} {v:V} {e:Nat×Nat} (h:e∈H.edges):e∈(H.edge b v).edges:=by
 unfold Hp.edge
 split
 ·exact h
 ·exact List.mem_cons_of_mem _ h
theorem BI.edge (h:BI H F N m) (b:Nat) (v:V):BI (H.edge b v) F N m:=by
 obtain ⟨i,c,k1,k2,k3⟩:=h.mkr
 exact ⟨get_edge.trans h.r,get_edge.trans h.f,⟨i,c,get_edge.trans k1,k2.frame fun j hj=>get_edge,fun j hj hn=>⟨(k3 j hj hn).1,edge_sub (k3 j hj hn).2⟩⟩,by rw [len_edge];exact h.len⟩
theorem set_set2 {H:Hp} {b:Nat} {x y:Blk}:(H.set b x).set b y=H.set b y:=by simp [Hp.set,List.set_set]
theorem stGen {t n:TypeId} {H:Hp} {b:Nat} {v cs:List V} {ty:TypeId} {env:List V} {lk:List (Nat×Nat)} {df:List (V×List V)} (hs:szOf Tryz.prog t=some n) (hg:H.get b=some (.cells cs ty)) (hv:v.length=n) (hc:v.map clr=v) (ht:tops v=0) (hl:cs.length=n) (hu:cs.all (fun c=>!(locked c))=true) :
  storX Tryz.prog t H lk df (some (.agg v,env)) (some (.ptr b 0))=some (.skip,⟨env,H.set b (.cells v ty),lk,df⟩):=by
 rw [storX_ptr (v:=.agg v) hs hg rfl (by simp [V.laid,hv]) (by omega) (mayA_all hu (by omega)),edge0 (by simp [V.top,ht])]
 simp only [V.laid,hc]
 rw [stc_all (by rw [hl,hv])]
theorem ldGen {t n:TypeId} {H:Hp} {b:Nat} {cs:List V} {ty:TypeId} {g:Nat→Nat→Option V} (ha:aggT Tryz.prog t=some true) (hs:szOf Tryz.prog t=some n) (hg:H.get b=some (.cells cs ty)) (hl:cs.length=n):loadA Tryz.prog H g t (.ptr b 0)=some (.agg cs):=by
 rw [load_agg ha hs hg (by omega),List.drop_zero,List.take_of_length_le (by omega)]
theorem r30:RowT Tryz.prog 30 29 1 24:=⟨by kernel_rfl,by kernel_rfl,by kernel_rfl,by decide,by kernel_rfl,by kernel_rfl,by kernel_rfl⟩
theorem ag30:aggT Tryz.prog 30=some false:=by kernel_rfl
theorem fo47_0:fieldOff Tryz.prog 47 0=some 0:=by kernel_rfl
theorem fo47_1:fieldOff Tryz.prog 47 1=some 10:=by kernel_rfl
theorem fo47_2:fieldOff Tryz.prog 47 2=some 11:=by kernel_rfl
theorem fo32_0:fieldOff Tryz.prog 32 0=some 0:=by kernel_rfl
theorem fo32_1:fieldOff Tryz.prog 32 1=some 1:=by kernel_rfl
theorem fo32_2:fieldOff Tryz.prog 32 2=some 2:=by kernel_rfl
theorem fo32_3:fieldOff Tryz.prog 32 3=some 3:=by kernel_rfl
theorem ldC {b:Nat} {c:Cr} {g:Nat→Nat→Option V} (hg:H.get b=some (.cells (crC c) 47)) :
  loadA Tryz.prog H g 45 (.ptr b 0)=some (.agg (ecells c.1))∧loadA Tryz.prog H g 4 (.ptr b 10)=some (.bool c.2.1)∧loadA Tryz.prog H g 45 (.ptr b 11)=some (.agg (ecells c.2.2)):=by
 obtain ⟨h,t,tr⟩:=c
 have h10:=ecells_len h
 have t10:=ecells_len tr
 have e1:(crC (h,t,tr)).take 10=ecells h:=by
  rw [crC,List.append_assoc,← h10,List.take_left]
 have e2:(crC (h,t,tr)).drop 11=ecells tr:=by
  have:(ecells h++[V.bool t]).length=11:=by simp [h10]
  rw [crC,← this,List.drop_left]
 have e3:(crC (h,t,tr))[10]?=some (.bool t):=by
  rw [crC,List.append_assoc,List.getElem?_append_right (by simp only;omega),h10];rfl
 refine ⟨?_,load_one ag4 hg (by rw [nth_eq,e3]),?_⟩
 ·rw [load_agg ag45 sz45 hg (by rw [crC_len];decide),List.drop_zero,e1]
 ·rw [load_agg ag45 sz45 hg (by rw [crC_len];decide),e2,List.take_of_length_le (by omega)]
theorem bld45 {x:Operand} {env:List V} {h t:E} (hx:peek env x=some (.sl 10 [.agg (ecells h),.agg (ecells t)] .no)):buildA Tryz.prog 45 #[(0,.const (.int .i64 5)),(6,x)] env=some (.agg (ecells (.mk 5 0 0 0 0 0 [] 0 0 false [h,t]))):=by
 have hp:(match Tryz.prog.underlying 45 with|some (.struct fs)=>placesA Tryz.prog fs|_=>none)=some [(0,1),(1,1),(2,4),(6,1),(7,1),(8,1),(9,1)]:=by kernel_rfl
 have h5:peek env (.const (.int .i64 5))=some (.int .i64 5):=rfl
 unfold buildA
 rw [z45]
 cases hu:Tryz.prog.underlying 45 with
 | none=>rw [hu] at hp;cases hp
 | some d =>
  rw [hu] at hp
  cases d<;>simp only at hp<;>try (cases hp;done)
  simp only [hp]
  simp [okC,fillA,h5,hx,nth,ecells,V.cells,Vm.storeCells,argV,encs,enc_cells]
theorem as_facts (hb:BI H F N m) (cz v:List V) (ty ty':TypeId):BI ((H.push (.cells cz ty)).set H.blks.length (.cells v ty')) F N m∧Kc H ((H.push (.cells cz ty)).set H.blks.length (.cells v ty'))∧((H.push (.cells cz ty)).set H.blks.length (.cells v ty')).get H.blks.length=some (.cells v ty')∧((H.push (.cells cz ty)).set H.blks.length (.cells v ty')).blks.length=H.blks.length+1:=by
 have hg:(H.push (.cells cz ty)).get H.blks.length=some (.cells cz ty):=get_new
 refine ⟨(hb.push _).setc hg hb.len,fun d cs t hd hd2=>?_,set_eq hg,by rw [len_set,len_push]⟩
 have:=get_lt hd2
 rw [set_ne (by omega),push_lt this,hd2]
theorem st_facts (hb:BI H F N m) {b:Nat} {cs v:List V} {ty:TypeId} (hg:H.get b=some (.cells cs ty)) (h3:3≤b):BI (H.set b (.cells v ty)) F N m∧(∀ d x,d≠b→H.get d=some x→(H.set b (.cells v ty)).get d=some x)∧(H.set b (.cells v ty)).get b=some (.cells v ty)∧(H.set b (.cells v ty)).blks.length=H.blks.length :=
 ⟨hb.setc hg h3,fun _d _x hd hx=>(set_ne hd).trans hx,set_eq hg,len_set⟩
end Go.Proofs.YtkbdcmehffmfpaaGreatDoor
namespace Go.Proofs.YtkbdcmehffmfpaaGreatDoor
set_option maxRecDepth 100000
open Go Go.Vm
variable {gl:Gl}
theorem list_ulp (hg:GW gl) {n:Nat} (hn:70≤n) {H:Hp} {b off ver:Nat} {pre post:List V} {p:Nat→Bool} (hb:H.get b=some (.ul ver 19 (pre++pv 19 p++post) 60)) (ho:pre.length=off) :
  callA Tryz.prog gl (n+1) 21 [.ulp b ver off] H=some (.ret (clr (ownL 1 3 (preL p 19))),H):=by
 obtain ⟨bs,es⟩:=H
 have hb0:Hp.get ⟨bs,[]⟩ b=some (.ul ver 19 (pre++pv 19 p++post) 60):=hb
 have hfin:finishH bs.length es 0 ⟨bs,[]⟩=⟨bs,es⟩:=by
  have:=finishH_clean (bs:=bs) (ls:=[]) (es:=es) (t:=0) (Nat.zero_le _)
  rwa [List.append_nil] at this
 generalize hL:preL p 19=L
 suffices hmain:(go ⟨Tryz.prog,gl,callA Tryz.prog gl n,uqw⟩ n (Fx Tryz.prog Tryz.f21.results.toList fun w H1=>w=clr (ownL 1 3 L)∧H1=⟨bs,[]⟩) [.c (Tryz.f21.body.getD .skip)] .normal ⟨[.ulp b ver off]++List.replicate 28 (.tup []),⟨bs,[]⟩,[],[]⟩) by
  obtain ⟨w,H1,h0,h1,h2⟩:=go_intro' (gl:=gl) (f:=21) (bs:=bs) (es:=es) (args:=[.ulp b ver off]) (n:=n) (hg.hk _ _ (by decide)) (fun H=>hg.hk2 _ _ _ _) Tryz.func21 rfl (by rw [hg.uq];exact hmain)
  rw [h0,h1,h2]
  have:(clr (ownL 1 3 L)).top=0:=by
   rw [← hL]
   exact top_own_pre 19
  rw [this]
  exact congrArg (fun x=>some (Out.ret _,x)) hfin
 simp only [Tryz.f21,Option.getD_some,go_seq]
 refine go_reg' (tk:=[]) (by kernel_rfl) ?_
 simp only [go_os,go_os_nil,go_seq,op_assign,take_const,ofVal,Option.map_some,tkQ_some,opQ_val,putA,List.set_cons_zero,List.set_cons_succ,List.replicate,List.cons_append,List.nil_append]
 refine go_reg' (tk:=[]) (by kernel_rfl) ?_
 simp only [go_os,go_os_nil,go_seq,op_assign,take_const,ofVal,Option.map_some,tkQ_some,opQ_val,putA,List.set_cons_zero,List.set_cons_succ]
 refine go_reg' (tk:=[]) (by kernel_rfl) ?_
 simp only [go_os,go_os_nil,go_block,op_move0,peek,ofVal,nth_cons0,rdQ_some,opQ_val,putA,List.set_cons_zero,List.set_cons_succ,clr_ulp]
 refine go_loop (fun m s=>∃ i env,m+i=19∧s=⟨env,⟨bs,[]⟩,[],[]⟩∧env.length=29∧nth env 3=some (ownL 1 3 (preL p i))∧nth env 6=some (.ulp b ver off)∧nth env 7=some (.int .i64 (i:Nat))) 19 (by omega) ⟨0,_,rfl,rfl,rfl,rfl,rfl,rfl⟩ ?_
 rintro m s ⟨i,env,hmi,rfl,hlen,h3,h6,h7⟩
 simp only [go_seq]
 refine go_reg' (tk:=[]) (by kernel_rfl) ?_
 simp only [go_os,go_os_nil,go_seq,go_cond',op_binOp,peek,ofVal,h7,rdQ_some,opQ_val,putA,nth_set,hlen,Nat.reduceLT,if_true,clr_int,clr_bool,bin_lss,condQ_b]
 by_cases hi:i<19
 ·refine .inl ⟨by simp;omega,?_⟩
  simp only [go_skip,go_seq,go_block]
  refine go_draw' (tk:=[]) (by kernel_rfl) (by kernel_rfl) ?_
  have hcell:nth (pre++pv 19 p++post) (off+i)=some (.int .u64 (word p i:Nat)):=by
   rw [nth_eq,← ho,get_mid pv_len hi,pv_get hi]
  have hld:loadA Tryz.prog ⟨bs,[]⟩ gl.g 39 (.ulp b ver (off+i))=some (.int .u64 (word p i:Nat)):=load_ulp1 agg39 hb0 hcell
  simp only [go_on,go_on_nil,go_block,ldChk,agg39,true_and,op_move0,op_nilCheck,op_indexAddr,op_load0,op_assign,take_tmp,peek,h6,h7,rdQ_some,opQ_val,putA,nth_set,List.length_set,hlen,Nat.reduceEqDiff,Nat.reduceLT,if_true,if_false,clr_ulp,clr_int,takeV_int,tkQ_some,Option.map_some,Option.bind_some,derefA,idxV,iaddr60u hi,hld]
  refine go_loop (fun m s=>∃ w acc env,(bitsL w).length=m∧w<2 ^ 64∧acc++((bitsL w).map fun j=>.int .i64 ((64 * i+j:Nat):Int))=preL p (i+1)∧s=⟨env,⟨bs,[]⟩,[],[]⟩∧env.length=29∧nth env 3=some (ownL 1 3 acc)∧nth env 4=some (.int .i64 (i:Nat))∧nth env 5=some (.int .u64 (w:Nat))∧nth env 6=some (.ulp b ver off)∧nth env 7=some (.int .i64 (i:Nat))) (bitsL (word p i)).length (by have:=bitsL_len (w:=word p i);omega) ⟨word p i,preL p i,_,rfl,word_lt,rfl,rfl,?_,?_,?_,?_,?_,?_⟩ ?_
  ·simp [hlen]
  ·simp [nth_set,h3]
  ·simp [nth_set,hlen]
  ·simp [nth_set,hlen]
  ·simp [nth_set,h6]
  ·simp [nth_set,h7]
  clear h3 h6 h7 hlen
  rintro m s ⟨w,acc,env,hm,hw,hacc,rfl,hlen,h3,h4,h5,h6,h7⟩
  simp only [go_seq]
  refine go_reg' (tk:=[]) (by kernel_rfl) ?_
  simp only [go_os,go_os_nil,go_cond',op_move0,op_binOp,peek,ofVal,h5,rdQ_some,opQ_val,putA,nth_set,List.length_set,hlen,Nat.reduceEqDiff,Nat.reduceLT,if_true,if_false,clr_int,clr_bool,bin_neq,condQ_b]
  by_cases hw0:w=0
  ·subst hw0
   rw [bitsL_zero,List.map_nil,List.append_nil] at hacc
   subst hacc
   refine .inr ⟨by decide,?_⟩
   simp only [go_exit,go_c_exit,go_nil,thn_exit,go_eb_exit,Nat.beq_refl,if_true,go_eb]
   refine go_reg' (tk:=[]) (by kernel_rfl) ?_
   simp only [go_os,go_os_nil,op_move0,op_binOp,peek,ofVal,h7,rdQ_some,opQ_val,putA,nth_set,List.length_set,hlen,Nat.reduceEqDiff,Nat.reduceLT,if_true,if_false,clr_int,bin_addk (show i<2 ^ 60 by omega),go_nil,thn_normal]
   refine ⟨18 - i,by omega,i+1,_,by omega,rfl,?_,?_,?_,?_⟩
   ·simp [hlen]
   ·simp [nth_set,h3]
   ·simp [nth_set,h6]
   ·simp [nth_set,hlen]
  ·refine .inl ⟨by simp;omega,?_⟩
   obtain ⟨k,mm,hwk⟩:=low_form w hw0
   have htz:=fun (H:Hp)=>tz_run hg (n:=n - 1) (H:=H) (k:=k) (m:=mm) (by rw [← hwk];exact hw)
   rw [← hwk,show n - 1+1=n by omega] at htz
   simp only [go_skip,go_seq,go_block]
   refine go_reg' (tk:=[19]) (by kernel_rfl) ?_
   have hcall:Cx.callF ⟨Tryz.prog,gl.g,callA Tryz.prog gl n,uqw⟩ 39 [.int .u64 (w:Nat)] ⟨bs,[]⟩=some (.val (.int .i64 (k:Nat)),⟨bs,[]⟩):=callF_run Tryz.func39 rfl (htz _)
   have hk:k<64:=low_lt (by rw [← hwk];exact hw)
   have haccl:acc.length+1≤64 * (i+1):=by
    have h1:=congrArg List.length hacc
    have h2:=preL_len (p:=p) (i+1)
    have h3:(bitsL w).length≠0:=by
     rw [hwk,bitsL_low (by rw [← hwk];exact hw)];simp
    simp only [List.length_append,List.length_map] at h1
    omega
   have happ:=append_own r29 (H:=⟨bs,[]⟩) (xs:=acc) (ys:=[V.int .i64 ((64 * i+k:Nat):Int)]) (o:=.no) (by simp) (roomA_of (by simp;omega) (by simp;omega))
   have hbs:=r29.bsl (v:=.int .i64 ((64 * i+k:Nat):Int)) rfl rfl
   have hmul:∀ (u v:Operand),binV Tryz.prog .mul 3 u v (some (.int .i64 64)) (some (.int .i64 (i:Nat)))=some (.int .i64 ((64 * i:Nat):Int)):=fun u v=>bin_mulI (a:=64) (by omega)
   have hne3:nth (((env.set 13 (V.int .u64 (w:Nat))).set 14 (V.bool ((w:Int) != 0)))) 3=some (ownL 1 3 acc):=by simp [nth_set,h3]
   simp only [go_os,op_move1,op_move1t,take_own hne3,op_binOp,op_call,peeks,fV_eq,ne_eq,not_false_eq_true,op_bsl1,op_append (cx:=⟨Tryz.prog,gl.g,callA Tryz.prog gl n,uqw⟩) (show uqT Tryz.prog uqw 29=false by kernel_rfl),peek,ofVal,h4,h5,rdQ_some,tkQ_some,opQ_val,putA,nth_set,List.length_set,hlen,Nat.reduceEqDiff,Nat.reduceLT,if_true,if_false,clr_int,clr_sl,callG_some,List.map_cons,List.map_nil,callQ,hcall,hmul,bin_addI (show 64 * i+k<2 ^ 60 by omega),hbs]
   rw [take_own (n:=1) (e:=3) (xs:=acc) (by simp [nth_set,hlen])]
   simp only [appQ,Option.bind_some,happ,opQ_val,putA,go_os,go_os_nil,go_eb,op_assign]
   rw [take_own (n:=1) (e:=3) (xs:=acc++[V.int .i64 ((64 * i+k:Nat):Int)]) (by simp [nth_set,hlen])]
   simp only [tkQ_some,opQ_val,putA]
   refine go_reg' (tk:=[]) (by kernel_rfl) ?_
   have hw1:w - 1<2 ^ 64:=by omega
   simp only [go_os,go_os_nil,op_move0,op_binOp,op_assign,take_tmp,peek,ofVal,h5,rdQ_some,tkQ_some,opQ_val,putA,nth_set,List.length_set,hlen,Nat.reduceEqDiff,Nat.reduceLT,if_true,if_false,clr_int,takeV_int,bin_dec64 hw0 hw,bin_and64 hw hw1,go_nil,thn_normal]
   have hbl:bitsL w=k::bitsL (w &&& (w - 1)):=by
    rw [hwk];exact bitsL_low (by rw [← hwk];exact hw)
   refine ⟨(bitsL (w &&& (w - 1))).length,by rw [← hm,hbl];simp,w &&& (w - 1),acc++[V.int .i64 ((64 * i+k:Nat):Int)],_,rfl,Nat.lt_of_le_of_lt Nat.and_le_left hw,?_,rfl,?_,?_,?_,?_,?_,?_⟩
   ·rw [← hacc,hbl];simp
   ·simp [hlen]
   ·simp [nth_set,hlen]
   ·simp [nth_set,h4]
   ·simp [nth_set,hlen]
   ·simp [nth_set,h6]
   ·simp [nth_set,h7]
 ·obtain rfl:i=19:=by omega
  refine .inr ⟨by decide,?_⟩
  rw [hL] at h3
  simp only [go_exit,go_c_exit,go_nil,thn_exit,go_eb_exit,Nat.beq_refl,if_true,go_seq]
  refine go_reg' (tk:=[]) (by kernel_rfl) ?_
  have hcc:clr (clr (ownL 1 3 L))=clr (ownL 1 3 L):=by cases L<;>rfl
  have htk:∀ e:List V,nth e 28=some (clr (ownL 1 3 L))→take e (.tmp 28)=some (clr (ownL 1 3 L),e):=fun e he=>by
   rw [take_tmp,he];cases L<;>rfl
  simp only [go_os,go_os_nil,op_move0,op_assign,peek,h3,rdQ_some,opQ_val,putA,nth_set,hlen,Nat.reduceEqDiff,Nat.reduceLT,if_true,if_false]
  rw [htk _ (by simp [nth_set,hlen])]
  simp only [tkQ_some,opQ_val,putA,go_ret,go_nil,Fx]
  refine ⟨trivial,[clr (ownL 1 3 L)],?_,rfl,trivial⟩
  simp [resultsA,nth_set,hlen]
end Go.Proofs.YtkbdcmehffmfpaaGreatDoor
namespace Go.Proofs.YtkbdcmehffmfpaaGreatDoor
set_option maxRecDepth 100000
open Go Go.Vm
variable {gl:Gl}
theorem z3:zeroA Tryz.prog 3=some (.int .i64 0):=by kernel_rfl
theorem sz3:szOf Tryz.prog 3=some 1:=by kernel_rfl
theorem info3:∃ i,Tryz.prog.info? 3=some i∧i.bytes=8:=by
 have h:=r29.i
 cases hi:Tryz.prog.info? 3 with
 | none=>rw [hi] at h;cases h
 | some i =>
  rw [hi] at h
  simp only [Option.bind_some] at h
  cases hz:i.zero with
  | none=>rw [hz] at h;cases h
  | some z =>
   rw [hz] at h
   simp only [Option.map_some,Option.some.injEq,Prod.mk.injEq] at h
   exact ⟨i,rfl,h.2⟩
theorem flatV_nat:∀ (l:List Nat),(flatV (l.map natV)).map clr=l.map natV
 | []=>rfl
 | a::l=>by
  simp only [List.map_cons,flatV,List.map_append,flatV_nat l]
  rfl
theorem rep_flat:∀ (k:Nat) (z:V),(List.replicate k [z]).flatten=List.replicate k z
 | 0,_=>rfl
 | k+1,z=>by simp [List.replicate_succ,rep_flat k z]
def sTail:Nat→Code→Code
 | 0,c=>c
 | n+1,.seq _ b=>sTail n b
 | _+1,c=>c
structure EB (nl:Bool) (l:List Cr) (k:Nat) (env:List V):Prop where
 len:env.length=110
 e2:nth env 2=some (.ptr 0 0)
 e3:nth env 3=some .nili
 e4:nth env 4=some (.int .i64 (k:Int))
 e6:nth env 6=some (.ptr 1 0)
 e7:nth env 7=some (.ptr 2 0)
 e31:nth env 31=some (coresV nl l)
 e32:nth env 32=some (.int .i64 (l.length:Int))
def RowsAt (H:Hp) (ns:List (Nat→Bool)) (N:List V):Prop:=N.length=ns.length∧∀ (j:Nat) (p:Nat→Bool),ns[j]?=some p→∃ b,N[j]?=some (.sr b 0 (preN p 19).length)∧H.get b=some (.cells ((preN p 19).map natV) 3)
theorem rows_go (hg:GW gl) {n:Nat} (hn:4000≤n) {nl:Bool} {l:List Cr} {k:Nat} {env:List V} {H:Hp} {m:Mk} {F:List (List Nat)} (he:EB nl l k env) (hb:BI H (F.map rowV) [] m) (hok:m.Ok) (hM:m.sets.length≤1200) (hne:∀ p∈m.next,preN p 19≠[]) :
  go ⟨Tryz.prog,gl,callA Tryz.prog gl n,uqw⟩ n (Fx Tryz.prog Tryz.f7.results.toList fun w H1=>∃ N,w=.tup [.agg [clr (ownL 4 41 m.setsV),clr (ownL 1 3 m.rulesV),clr (ownL 1 29 (F.map rowV)),clr (ownL 1 29 N)],.nili]∧RowsAt H1 m.next N) [.c (sTail 7 (Tryz.f7.body.getD .skip))] .normal ⟨env,H,[],[]⟩:=by
 have hlen:=he.len
 obtain ⟨im,cu,u1,u2,u3⟩:=hb.mkr
 have hcu:clr cu=cu∧lenA Tryz.prog H 56 cu=some (m.next.length:Int):=by
  cases im with
  | none =>
   obtain ⟨rfl,h⟩:=u2
   have:m.next=[]:=by simpa using h
   exact ⟨rfl,by rw [lenA_snil r56.u,this];rfl⟩
  | some j=>obtain ⟨v,rfl,_⟩:=u2;exact ⟨rfl,by rw [lenA_ulr r56.u,List.length_map]⟩
 have hld:loadA Tryz.prog H gl.g 56 (.ptr 1 2)=some cu:=load_one ag56 u1 rfl
 simp only [Tryz.f7,Option.getD_some,sTail,go_seq]
 refine go_reg' (tk:=[]) (by kernel_rfl) ?_
 simp only [go_os,go_os_nil,go_block,op_move0,op_load0,op_nilCheck,op_fieldAddr2,op_len,Nat.reduceEqDiff,peek,ofVal,rdQ_some,opQ_val,putA,clr_ptr,Option.bind_some,Option.map_some,derefA,faddrO_some,faddrV,Nat.zero_add,if_true,nth_set,List.length_set,Nat.reduceLT,if_true,if_false,he.e6,hlen,fo58_2,hld,hcu.1,hcu.2]
 have hnl:m.next.length≤1200:=by rw [hok.n];exact hM
 refine go_env (fun env=>EB nl l k env∧nth env 75=some (.int .i64 (m.next.length:Int))∧nth env 76=some (.int .i64 ((0:Nat):Int))) ⟨⟨by simp [hlen],by simp [nth_set,he.e2],by simp [nth_set,he.e3],by simp [nth_set,he.e4],by simp [nth_set,he.e6],by simp [nth_set,he.e7],by simp [nth_set,he.e31],by simp [nth_set,he.e32]⟩,by simp [nth_set,hlen],by simp [nth_set,hlen]⟩ fun env he'=>?_
 clear u1 u2 u3 hld hcu cu im he hlen
 refine go_loop (fun j s=>∃ q env H N,j+q=m.next.length∧s=⟨env,H,[],[]⟩∧EB nl l k env∧nth env 75=some (.int .i64 (m.next.length:Int))∧nth env 76=some (.int .i64 ((q:Nat):Int))∧BI H (F.map rowV) N m∧RowsAt H (m.next.take q) N) m.next.length (by omega) ⟨0,env,H,[],rfl,rfl,he'.1,he'.2.1,he'.2.2,hb,rfl,fun j p hp=>by simp at hp⟩ ?_
 clear he' hb env H
 rintro j s ⟨q,env,H,N,hjq,rfl,he,e75,e76,hb,hN⟩
 have hlen:=he.len
 simp only [go_seq]
 refine go_reg' (tk:=[]) (by kernel_rfl) ?_
 simp only [go_os,go_os_nil,go_seq,go_skip,go_block,op_binOp,peek,rdQ_some,opQ_val,putA,clr_int,clr_bool,go_cond',condQ_b,if_true,nth_set,Nat.reduceLT,if_true,e75,e76,hlen,bin_lss]
 by_cases hq:q<m.next.length
 ·refine .inl ⟨by simpa using hq,?_⟩
  obtain ⟨p,hp⟩:∃ p,m.next[q]?=some p:=⟨_,List.getElem?_eq_getElem hq⟩
  have hpg:m.next.getD q (fun _=>false)=p:=by rw [List.getD_eq_getElem?_getD,hp];rfl
  have hpm:p∈m.next:=List.mem_of_getElem? hp
  obtain ⟨im,cu,u1,u2,u3⟩:=hb.mkr
  obtain ⟨jj,rfl⟩:∃ jj,im=some jj:=by
   cases im with
   | none =>
    have h:m.next=[]:=by simpa using u2.2
    rw [h] at hq
    simp at hq
   | some jj=>exact ⟨jj,rfl⟩
  obtain ⟨v,rfl,hj⟩:=u2
  obtain ⟨pr,po,w1,w2,w3⟩:=flat_row hq
  rw [w2,hpg] at hj
  have hls:Cx.callF ⟨Tryz.prog,gl.g,callA Tryz.prog gl n,uqw⟩ 21 [.ulp jj v (q * 19)] H=some (.val (rowV (preN p 19)),H):=by
   have h:=list_ulp hg (n:=n - 1) (by omega) (H:=H) hj w1
   rw [show n - 1+1=n by omega,preL_eq] at h
   exact callF_run Tryz.func21 rfl h
  obtain ⟨xs,hxs⟩:∃ xs,xs=(preN p 19).map natV:=⟨_,rfl⟩
  have hxne:xs≠[]:=by
   intro e
   rw [hxs] at e
   exact hne p hpm (by simpa using e)
  have hxl:xs.length=(preN p 19).length:=by rw [hxs,List.length_map]
  have hxl2:xs.length≤1216:=by
   rw [hxl]
   have:=preL_len (p:=p) 19
   rw [preL_eq,List.length_map] at this
   omega
  obtain ⟨row,hrow⟩:∃ row,row=V.sl 1 xs .no:=⟨_,rfl⟩
  have hrv:rowV (preN p 19)=row:=by
   rw [hrow,hxs]
   have:(preN p 19).map natV≠[]:=by rw [← hxs];exact hxne
   unfold rowV
   cases h:(preN p 19).map natV with
   | nil=>exact absurd h this
   | cons a b=>rfl
  rw [hrv] at hls
  have htk:∀ env t,takeV env t (some row)=some (row,env):=fun _ _=>by rw [hrow];rfl
  have hclr:clr row=row:=by rw [hrow];rfl
  have hlr:∀ H,lenA Tryz.prog H 29 row=some (xs.length:Int):=fun H=>by rw [hrow];simp [lenA,r29.u]
  have hld:loadA Tryz.prog H gl.g 56 (.ptr 1 2)=some (.ulr jj v (m.next.map (pv 19)).length):=load_one ag56 u1 rfl
  have hia:indexAddrA Tryz.prog 56 (.ulr jj v (m.next.map (pv 19)).length) (q:Int)=some (.ulp jj v (q * 19)):=by
   rw [iaddr_ulr r56.u r56.s (by rw [List.length_map];omega),Int.toNat_natCast]
  refine go_reg' (tk:=[]) (by kernel_rfl) ?_
  simp only [go_os,go_os_nil,go_seq,op_move0,op_assign,Nat.reduceEqDiff,peek,take_tmp,takeV_int,rdQ_some,tkQ_some,opQ_val,putA,clr_int,if_true,nth_set,List.length_set,Nat.reduceLT,if_true,if_false,e76,hlen]
  refine go_reg' (tk:=[]) (by kernel_rfl) ?_
  simp only [go_os,go_os_nil,go_seq,op_move0,op_load0,op_assign,op_nilCheck,op_fieldAddr2,op_indexAddr,op_call,Nat.reduceEqDiff,peeks,fV_eq,peek,take_tmp,rdQ_some,tkQ_some,opQ_val,putA,clr_int,clr_ptr,clr_ulr,clr_ulp,Option.bind_some,Option.map_some,derefA,faddrO_some,faddrV,idxV,callG_some,callQ,List.map_cons,List.map_nil,Nat.zero_add,if_true,nth_set,List.length_set,Nat.reduceLT,if_true,if_false,he.e6,hlen,fo58_2,hld,hia,hls,htk]
  refine go_env (fun env=>EB nl l k env∧nth env 75=some (.int .i64 (m.next.length:Int))∧nth env 76=some (.int .i64 ((q:Nat):Int))∧nth env 14=some row) ⟨⟨by simp [hlen],by simp [nth_set,he.e2],by simp [nth_set,he.e3],by simp [nth_set,he.e4],by simp [nth_set,he.e6],by simp [nth_set,he.e7],by simp [nth_set,he.e31],by simp [nth_set,he.e32]⟩,by simp [nth_set,e75],by simp [nth_set,e76],by simp [nth_set,hlen]⟩ fun env he'=>?_
  obtain ⟨he,e75,e76,e14⟩:=he'
  have hlen:=he.len
  refine go_reg' (tk:=[]) (by kernel_rfl) ?_
  simp only [go_os,op_move0,op_len,peek,rdQ_some,opQ_val,putA,Option.bind_some,Option.map_some,if_true,nth_set,Nat.reduceLT,if_true,e14,hlen,hclr,hlr]
  obtain ⟨inf,hin1,hin2⟩:=info3
  have hxk:xs.length≠0:=fun e=>hxne (List.eq_nil_of_length_eq_zero e)
  rw [op_make (k:=xs.length) r29.u sz3 z3 hin1 (by decide) rfl rfl (by simp [peek,nth_set,hlen,clr]) (by simp [peek,nth_set,hlen,clr]) (by rw [hin2];exact roomA_of (by omega) (by omega)) hxk]
  have hxt:tops xs=0:=by rw [hxs];exact tops_mp (fun _=>rfl) _
  obtain ⟨cz,hcz⟩:∃ cz,cz=(List.replicate xs.length (V.int .i64 0).cells).flatten:=⟨_,rfl⟩
  have hcz2:cz=List.replicate xs.length (.int .i64 0):=by rw [hcz];exact rep_flat _ _
  have hczl:cz.length=xs.length:=by rw [hcz2,List.length_replicate]
  have hczu:cz.all (fun c=>!(locked c))=true:=by rw [hcz2];simp [locked]
  rw [← hcz]
  obtain ⟨b1,k1,g1,n1⟩:=as_facts hb cz xs 3 3
  obtain ⟨K,hK⟩:∃ K,K=H.blks.length:=⟨_,rfl⟩
  have hK3:3≤K:=by rw [hK];exact hb.len
  have hgK:(H.push (.cells cz 3)).get K=some (.cells cz 3):=by rw [hK];exact get_new
  rw [← hK] at b1 k1 g1 n1 ⊢
  have htsr:∀ env t,takeV env t (some (.sr K 0 xs.length))=some (.sr K 0 xs.length,env):=fun _ _=>rfl
  have hcsr:clr (.sr K 0 xs.length)=.sr K 0 xs.length:=rfl
  simp only [go_os,go_os_nil,go_seq,op_assign,Nat.reduceEqDiff,take_tmp,tkQ_some,opQ_val,putA,if_true,nth_set,List.length_set,Nat.reduceLT,if_true,if_false,hlen,htsr]
  refine go_env (fun env=>EB nl l k env∧nth env 75=some (.int .i64 (m.next.length:Int))∧nth env 76=some (.int .i64 ((q:Nat):Int))∧nth env 14=some row∧nth env 15=some (.sr K 0 xs.length)) ⟨⟨by simp [hlen],by simp [nth_set,he.e2],by simp [nth_set,he.e3],by simp [nth_set,he.e4],by simp [nth_set,he.e6],by simp [nth_set,he.e7],by simp [nth_set,he.e31],by simp [nth_set,he.e32]⟩,by simp [nth_set,e75],by simp [nth_set,e76],by simp [nth_set,e14],by simp [nth_set,hlen]⟩ fun env he'=>?_
  obtain ⟨he,e75,e76,e14,e15⟩:=he'
  have hlen:=he.len
  refine go_reg' (tk:=[]) (by kernel_rfl) ?_
  simp only [go_os,go_os_nil,op_move0,Nat.reduceEqDiff,peek,rdQ_some,opQ_val,putA,if_true,nth_set,Nat.reduceLT,if_true,if_false,e14,e15,hlen,hclr,hcsr]
  rw [op_copy_sr (ys:=xs) (o:=.no) (b:=K) (off:=0) (len:=xs.length) (cs:=cz) (ty:=3) r29.u sz3 (by simp [peek,nth_set,hlen,clr]) (by simp [peek,nth_set,hlen,hrow,clr]) hgK rfl (by rw [hxs];exact flatV_nat _) (by omega) (mayA_all hczu (by omega))]
  rw [stc_all hczl,edge0 (by simp [V.top,hxt])]
  generalize hH1:(H.push (Blk.cells cz 3)).set K (Blk.cells xs 3)=H1 at b1 k1 g1 n1 ⊢
  simp only [opQ_val,putA]
  obtain ⟨bF,hbF⟩:∃ bF,bF=fC (F.map rowV) N:=⟨_,rfl⟩
  have f1:=b1.f
  rw [← hbF] at f1
  have hlod:∀ env,lodT Tryz.prog 30 env H1 [] [] (some (.ptr 2 3))=some (.val (ownL 1 29 N),⟨env,H1.set 2 (.cells (bF.set 3 (lkL 1 N)) 32),lckM 2 3 N,[]⟩):=fun env=>lodT_own ag30 f1 (by rw [hbF];rfl)
  obtain ⟨HL,hHL⟩:∃ HL,HL=H1.set 2 (.cells (bF.set 3 (lkL 1 N)) 32):=⟨_,rfl⟩
  rw [← hHL] at hlod
  have gL2:HL.get 2=some (.cells (bF.set 3 (lkL 1 N)) 32):=by rw [hHL,set_eq f1]
  have hbl:3<bF.length:=by rw [hbF];simp [fC]
  have hNl:N.length=q:=by rw [hN.1,List.length_take];omega
  have hbsl:=r30.bsl (v:=.sr K 0 xs.length) rfl rfl
  have happ:∀ H,appendA Tryz.prog H 30 (ownL 1 29 N) (.sl 1 [.sr K 0 xs.length] .no)=some (ownL 1 29 (N++[.sr K 0 xs.length])):=fun H=>append_own r30 (by simp) (roomA_of (by simp;omega) (by simp;omega))
  have hst:∀ env,storX Tryz.prog 30 HL (lckM 2 3 N) [] (some (ownL 1 29 (N++[.sr K 0 xs.length]),env)) (some (.ptr 2 3))=some (.skip,⟨env,(HL.set 2 (.cells (bF.set 3 (ownL 1 29 (N++[.sr K 0 xs.length]))) 32)).edge 2 (ownL 1 29 (N++[.sr K 0 xs.length])),lckM 2 3 N,[]⟩):=fun env=>by
   rw [storX_ptr r30.st gL2 okC_own (by rw [laid_own];rfl) (by rw [List.length_set];omega) (mayA_own hbl)]
   simp only [laid_own,Vm.storeCells,List.set_set]
  refine go_reg' (tk:=[93]) (by kernel_rfl) ?_
  simp only [go_os,go_os_nil,go_eb,op_move1,op_loadt1,op_store_x,op_fieldAddr2,op_bsl1,ne_eq,Nat.reduceEqDiff,not_false_eq_true,peek,take_tmp,takeV_own,rdQ_some,opQ_val,opQ_skip,putA,clr_ptr,clr_sl,Option.bind_some,faddrO_some,faddrV,Nat.zero_add,if_true,nth_set,List.length_set,Nat.reduceLT,if_true,if_false,he.e7,e15,hlen,fo32_3,hlod,hcsr,hbsl,appQ,happ,hst,op_append (cx:=⟨Tryz.prog,gl.g,callA Tryz.prog gl n,uqw⟩) (show uqT Tryz.prog uqw 30=false by kernel_rfl)]
  refine go_reg' (tk:=[]) (by kernel_rfl) ?_
  simp only [go_os,go_os_nil,op_move0,op_binOp,Nat.reduceEqDiff,peek,ofVal,rdQ_some,opQ_val,putA,clr_int,if_true,nth_set,List.length_set,Nat.reduceLT,if_true,if_false,e76,hlen,bin_addk (show q<2 ^ 60 by omega)]
  simp only [go_nil,thn_normal]
  have hfc:bF.set 3 (ownL 1 29 (N++[.sr K 0 xs.length]))=fC (F.map rowV) (N++[.sr K 0 xs.length]):=by rw [hbF];rfl
  have hb2:=(b1.setF (F':=F.map rowV) (N':=N++[.sr K 0 xs.length])).edge 2 (ownL 1 29 (N++[.sr K 0 xs.length]))
  rw [hHL,set_set2,hfc]
  refine ⟨j - 1,by omega,q+1,_,_,N++[.sr K 0 xs.length],by omega,rfl,⟨by simp [hlen],by simp [nth_set,he.e2],by simp [nth_set,he.e3],by simp [nth_set,he.e4],by simp [nth_set,he.e6],by simp [nth_set,he.e7],by simp [nth_set,he.e31],by simp [nth_set,he.e32]⟩,by simp [nth_set,e75],by simp [nth_set,hlen],hb2,by simp [hNl];omega,fun i p' hp'=>?_⟩
  have hiq:i<q+1:=by
   have:=(List.getElem?_eq_some_iff.1 hp').1
   rw [List.length_take] at this
   omega
  rw [List.getElem?_take,if_pos hiq] at hp'
  have hkeep:∀ d x,d≠2→H1.get d=some x→((H1.set 2 (.cells (fC (F.map rowV) (N++[.sr K 0 xs.length])) 32)).edge 2 (ownL 1 29 (N++[.sr K 0 xs.length]))).get d=some x:=fun d x hd hx=>(edge_ne hd).trans hx
  by_cases hi:i<q
  ·obtain ⟨b,e1,e2⟩:=hN.2 i p' (by rw [List.getElem?_take,if_pos hi];exact hp')
   have hb2':b≠2:=by
    intro e
    subst e
    have hff:=hb.f
    rw [e2] at hff
    injection hff with h1
    injection h1 with h2 h3
    cases h3
   have hb1':b≠1:=by
    intro e
    subst e
    obtain ⟨_,_,y1,_⟩:=hb.mkr
    rw [e2] at y1
    injection y1 with h1
    injection h1 with h2 h3
    cases h3
   exact ⟨b,by rw [List.getElem?_append_left (by omega)];exact e1,hkeep b _ hb2' (k1 _ _ _ hb1' e2)⟩
  ·obtain rfl:i=q:=by omega
   rw [hp] at hp'
   cases hp'
   refine ⟨K,?_,hkeep K _ (by omega) (by rw [← hxs];exact g1)⟩
   rw [List.getElem?_append_right (by omega),hNl,Nat.sub_self,← hxl]
   rfl
 ·obtain rfl:q=m.next.length:=by omega
  refine .inr ⟨by simp,?_⟩
  rw [List.take_length] at hN
  obtain ⟨im,cu,u1,u2,u3⟩:=hb.mkr
  have hld1:∀ H',(∀ x,H.get 1=some x→H'.get 1=some x)→loadA Tryz.prog H' gl.g 28 (.ptr 1 0)=some (ownL 4 41 m.setsV):=fun H' h=>load_one ag28 (h _ u1) rfl
  have hld2:∀ H',(∀ x,H.get 1=some x→H'.get 1=some x)→loadA Tryz.prog H' gl.g 29 (.ptr 1 1)=some (ownL 1 3 m.rulesV):=fun H' h=>load_one ag29 (h _ u1) rfl
  obtain ⟨X1,hX1⟩:∃ X1,X1=clr (ownL 4 41 m.setsV):=⟨_,rfl⟩
  obtain ⟨X2,hX2⟩:∃ X2,X2=clr (ownL 1 3 m.rulesV):=⟨_,rfl⟩
  have hprop:∀ n e (xs:List V),tops xs=0→clr (clr (ownL n e xs))=clr (ownL n e xs)∧(∀ env t,takeV env t (some (clr (ownL n e xs)))=some (clr (ownL n e xs),env))∧(clr (ownL n e xs)).laid=[clr (ownL n e xs)]∧okC (clr (ownL n e xs))=true∧(clr (ownL n e xs)).top=0∧locked (clr (ownL n e xs))=false:=fun n e xs ht=>by
   refine ⟨clr_own2,fun _ _=>takeV_ownc,?_,?_,by rw [top_clr];exact top_own ht,?_⟩<;>cases xs<;>rfl
  obtain ⟨x1a,x1b,x1c,x1d,x1e,x1f⟩:=hprop 4 41 m.setsV (tops_mp (fun _=>rfl) _)
  obtain ⟨x2a,x2b,x2c,x2d,x2e,x2f⟩:=hprop 1 3 m.rulesV (tops_mp (fun _=>rfl) _)
  rw [← hX1] at x1a x1b x1c x1d x1e x1f
  rw [← hX2] at x2a x2b x2c x2d x2e x2f
  have f2:=hb.f
  have hst1:∀ env,storX Tryz.prog 28 H [] [] (some (X1,env)) (some (.ptr 2 0))=some (.skip,⟨env,H.set 2 (.cells [X1,.snil,ownL 1 29 (F.map rowV),ownL 1 29 N] 32),[],[]⟩):=fun env=>by
   rw [storX_ptr sz28 f2 x1d (by rw [x1c];rfl) (by simp [fC]) rfl,edge0 (by rw [x1e];omega)]
   simp only [x1c,Vm.storeCells,fC,List.set_cons_zero]
  have hst2:∀ env,storX Tryz.prog 29 (H.set 2 (.cells [X1,.snil,ownL 1 29 (F.map rowV),ownL 1 29 N] 32)) [] [] (some (X2,env)) (some (.ptr 2 1))=some (.skip,⟨env,H.set 2 (.cells [X1,X2,ownL 1 29 (F.map rowV),ownL 1 29 N] 32),[],[]⟩):=fun env=>by
   rw [storX_ptr sz29 (set_eq f2) x2d (by rw [x2c];rfl) (by simp) rfl,edge0 (by rw [x2e];omega),set_set2]
   simp only [x2c,Vm.storeCells,List.set_cons_zero,List.set_cons_succ]
  simp only [go_exit,go_c_exit,go_eb_exit,go_nil,thn_exit,go_seq,Nat.beq_refl,if_true]
  refine go_drawJ [7] [(false,false),(false,false),(false,false),(false,false),(false,false),(false,false),(false,false),(true,false),(false,false),(false,true),(false,false),(false,true)] (tk:=[]) (by kernel_rfl) (by kernel_rfl) ?_
  simp only [go_seq,op_move0,op_load0,op_store_x,op_nilCheck,op_fieldAddr2,Nat.reduceEqDiff,peek,take_tmp,rdQ_some,putA,clr_ptr,Option.bind_some,Option.map_some,derefA,faddrO_some,faddrV,true_and,Nat.zero_add,Nat.add_zero,ldChk,if_true,nth_set,List.length_set,Nat.reduceLT,if_true,if_false,oj_cons,oj_nil,ojV_val,ojV_skip,pendA_f,pendA_t,ag28,ag29,he.e6,he.e7,hlen,fo58_0,fo58_1,fo32_0,fo32_1,hld1 H (fun _ h=>h),hld2 H (fun _ h=>h),← hX1,← hX2,x1b,x2b,hst1,hst2]
  refine ⟨fun _=>pend_load (p:=.ptr 1 1) (by simp [peek,nth_set,hlen,clr]) (hld2 _ fun _ h=>(set_ne (by decide)).trans h) hX2.symm,fun _=>pend_load (p:=.ptr 1 1) (by simp [peek,nth_set,hlen,clr]) (hld2 _ fun _ h=>(set_ne (by decide)).trans h) hX2.symm,?_⟩
  obtain ⟨H2,hH2⟩:∃ H2,H2=H.set 2 (.cells [X1,X2,ownL 1 29 (F.map rowV),ownL 1 29 N] 32):=⟨_,rfl⟩
  have g2:H2.get 2=some (.cells [X1,X2,ownL 1 29 (F.map rowV),ownL 1 29 N] 32):=by rw [hH2,set_eq f2]
  have g0:H2.get 0=some (.cells zF 32):=by rw [hH2,set_ne (by decide)];exact hb.r
  rw [← hH2]
  obtain ⟨VA,hVA⟩:∃ VA,VA=V.agg [X1,X2,ownL 1 29 (F.map rowV),ownL 1 29 N]:=⟨_,rfl⟩
  have hld3:loadA Tryz.prog H2 gl.g 32 (.ptr 2 0)=some VA:=by rw [hVA];exact ldGen ag32 sz32 g2 rfl
  have hcA:clr VA=VA:=by rw [hVA];rfl
  have htA:∀ env t,takeV env t (some VA)=some (VA,env):=fun _ _=>by rw [hVA];rfl
  have hlA:VA.laid=[X1,X2,clr (ownL 1 29 (F.map rowV)),clr (ownL 1 29 N)]:=by
   rw [hVA]
   simp only [V.laid,List.map_cons,List.map_nil,x1a,x2a]
  have hst3:∀ env,storX Tryz.prog 32 H2 [] [] (some (VA,env)) (some (.ptr 0 0))=some (.skip,⟨env,(H2.set 0 (.cells [X1,X2,clr (ownL 1 29 (F.map rowV)),clr (ownL 1 29 N)] 32)).edge 0 VA,[],[]⟩):=fun env=>by
   rw [storX_ptr sz32 g0 (by rw [hVA];rfl) (by rw [hlA];rfl) (by simp [zF]) rfl,hlA]
   rfl
  refine go_reg' (tk:=[]) (by kernel_rfl) ?_
  simp only [go_os,go_os_nil,op_load0,op_store_x,op_assign,Nat.reduceEqDiff,peek,take_tmp,take_const,ofVal,rdQ_some,tkQ_some,opQ_val,opQ_skip,putA,clr_ptr,Option.bind_some,Option.map_some,if_true,nth_set,List.length_set,Nat.reduceLT,if_true,if_false,he.e7,he.e2,hlen,hld3,hcA,htA,hst3]
  simp only [go_ret,go_nil,Fx]
  refine ⟨trivial,[.agg [X1,X2,clr (ownL 1 29 (F.map rowV)),clr (ownL 1 29 N)],.nili],?_,N,?_,hN.1,fun i p hp=>?_⟩
  ·have hr:loadA Tryz.prog ((H2.set 0 (.cells [X1,X2,clr (ownL 1 29 (F.map rowV)),clr (ownL 1 29 N)] 32)).edge 0 VA) (fun _ _=>none) 32 (.ptr 0 0)=some (.agg [X1,X2,clr (ownL 1 29 (F.map rowV)),clr (ownL 1 29 N)]):=ldGen ag32 sz32 (by rw [get_edge,set_eq g0]) rfl
   simp only [resultsA,nth_set,List.length_set,hlen,Nat.reduceEqDiff,Nat.reduceLT,if_true,if_false,he.e2]
   rw [hr]
   rfl
  ·rfl
  ·obtain ⟨b,e1,e2⟩:=hN.2 i p hp
   have h0:b≠0:=fun e=>by
    subst e
    have:=hb.r
    rw [e2] at this
    injection this with h1
    injection h1 with h2 h3
    cases h3
   have h2:b≠2:=fun e=>by
    subst e
    have:=hb.f
    rw [e2] at this
    injection this with h1
    injection h1 with h2 h3
    cases h3
   exact ⟨b,e1,by rw [get_edge,set_ne h0,hH2,set_ne h2];exact e2⟩
end Go.Proofs.YtkbdcmehffmfpaaGreatDoor
namespace Go.Proofs.YtkbdcmehffmfpaaGreatDoor
set_option maxRecDepth 100000
open Go Go.Vm
variable {gl:Gl}
theorem build_run (hg:GW gl) {n:Nat} {nl:Bool} {l:List Cr} {k:Nat} (hm:gl.hk 16 [coresV nl l]=some (.tup [.int .i64 (k:Int),.bool true])) (hk:k≤1000) (hl:l.length≤200)
  (hM:(rulesM k 0 (l.map crE) m0).2.sets.length≤1200) (hne:∀ p∈(rulesM k 0 (l.map crE) m0).2.next,preN p 19≠[]) (hw:∀ c∈l,wE (crE c)+4000≤n∧wE (crE c)+2≤2 ^ 31) (hn:4000≤n) :
  ∃ H' N,callA Tryz.prog gl (n+1) 7 [coresV nl l] ⟨[],[]⟩=some (.ret (.tup [.agg [clr (ownL 4 41 (rulesM k 0 (l.map crE) m0).2.setsV),clr (ownL 1 3 (rulesM k 0 (l.map crE) m0).2.rulesV),clr (ownL 1 29 ((rulesM k 0 (l.map crE) m0).1.map rowV)),clr (ownL 1 29 N)],.nili]),H')∧RowsAt H' (rulesM k 0 (l.map crE) m0).2.next N:=by
 obtain ⟨FT,MT,hT⟩:∃ FT MT,rulesM k 0 (l.map crE) m0=(FT,MT):=⟨_,_,rfl⟩
 rw [hT] at hM hne ⊢
 simp only at hM hne ⊢
 suffices hmain:(go ⟨Tryz.prog,gl,callA Tryz.prog gl n,uqw⟩ n (Fx Tryz.prog Tryz.f7.results.toList fun w H1=>∃ N,w=.tup [.agg [clr (ownL 4 41 MT.setsV),clr (ownL 1 3 MT.rulesV),clr (ownL 1 29 (FT.map rowV)),clr (ownL 1 29 N)],.nili]∧RowsAt H1 MT.next N) [.c (Tryz.f7.body.getD .skip)] .normal ⟨[coresV nl l]++List.replicate 109 (.tup []),⟨[],[]⟩,[],[]⟩) by
  obtain ⟨w,H1,h0,N,rfl,hN⟩:=go_intro' (gl:=gl) (f:=7) (bs:=[]) (es:=[]) (args:=[coresV nl l]) (n:=n) (hg.hk _ _ (by decide)) (fun H=>hg.hk2 _ _ _ _) Tryz.func7 rfl (by rw [hg.uq];exact hmain)
  refine ⟨_,N,h0,hN.1,fun j p hp=>?_⟩
  obtain ⟨b,h1,h2⟩:=hN.2 j p hp
  refine ⟨b,h1,?_⟩
  have hb:b+1≤(V.tup [.agg [clr (ownL 4 41 MT.setsV),clr (ownL 1 3 MT.rulesV),clr (ownL 1 29 (FT.map rowV)),clr (ownL 1 29 N)],.nili]).top:=by
   have hNt:b+1≤tops N:=top_le_tops (x:=.sr b 0 (preN p 19).length) (List.mem_of_getElem? h1)
   have hN2:(clr (ownL 1 29 N)).top=tops N:=by
    rw [top_clr]
    cases N<;>rfl
   simp only [V.top,tops,hN2]
   omega
  unfold finishH
  have hbl:Nat.ble (V.tup [.agg [clr (ownL 4 41 MT.setsV),clr (ownL 1 3 MT.rulesV),clr (ownL 1 29 (FT.map rowV)),clr (ownL 1 29 N)],.nili]).top ([]:List Blk).length=false:=by
   cases hx:Nat.ble (V.tup [.agg [clr (ownL 4 41 MT.setsV),clr (ownL 1 3 MT.rulesV),clr (ownL 1 29 (FT.map rowV)),clr (ownL 1 29 N)],.nili]).top ([]:List Blk).length with
   | false=>rfl
   | true=>have:=Nat.le_of_ble_eq_true hx;simp only [List.length_nil] at this;omega
  rw [hbl]
  exact h2
 have hcall:Cx.callF ⟨Tryz.prog,gl.g,callA Tryz.prog gl n,uqw⟩ 16 [coresV nl l] ⟨[.cells zF 32],[]⟩=some (.val (.tup [.int .i64 (k:Int),.bool true]),⟨[.cells zF 32],[]⟩):=by
  have:=callA_hk (P:=Tryz.prog) (n:=n - 1) (H:=⟨[.cells zF 32],[]⟩) hm
  rw [show n - 1+1=n by omega] at this
  exact callF_run Tryz.func16 rfl this
 have hz:okC (V.agg zF)=true:=rfl
 have hz3:okC (V.agg [.snil,.snil,.snil])=true:=rfl
 simp only [Tryz.f7,Option.getD_some,go_seq]
 refine go_reg' (tk:=[]) (by kernel_rfl) ?_
 simp only [go_os,go_os_nil,go_seq,op_alloc_z,op_assign,take_const,ofVal,tkQ_some,opQ_val,putA,Option.map_some,push_mk,List.length_nil,List.cons_append,List.nil_append,List.set_cons_zero,List.set_cons_succ,z32,alcQ_some hz,V.cells,List.replicate,List.length_nil]
 refine go_reg' (tk:=[]) (by kernel_rfl) ?_
 simp only [go_os,go_os_nil,go_seq,op_move0,op_assign,op_call,peeks,fV_eq,peek,take_tmp,takeV_int,takeV_bool,rdQ_some,tkQ_some,opQ_val,putA,clr_int,clr_bool,Option.bind_some,Option.map_some,callG_some,callQ,List.map_cons,List.map_nil,nth_cons0,nth_cons,List.set_cons_zero,List.set_cons_succ,clr_cores,hcall,op_extract,clr_tup]
 refine go_reg' (tk:=[]) (by kernel_rfl) ?_
 simp only [go_os,go_os_nil,go_seq,go_skip,op_move0,op_unOp,peek,rdQ_some,opQ_val,putA,clr_bool,Option.bind_some,go_cond',condQ_b,nth_cons0,nth_cons,List.set_cons_zero,List.set_cons_succ,unA]
 refine .inr ⟨rfl,?_⟩
 refine go_reg' (tk:=[]) (by kernel_rfl) ?_
 simp only [go_os,go_os_nil,go_seq,go_skip,op_move0,op_binOp,peek,ofVal,rdQ_some,opQ_val,putA,clr_int,clr_bool,go_cond',condQ_b,nth_cons0,nth_cons,List.set_cons_zero,List.set_cons_succ,bin_gtr]
 refine .inr ⟨by simpa using by omega,?_⟩
 refine go_reg' (tk:=[]) (by kernel_rfl) ?_
 simp only [go_os,go_os_nil,go_seq,op_box,op_build,op_assign,take_tmp,takeV_agg,takeV_ptr,rdQ_some,tkQ_some,opQ_val,putA,clr_snil,List.map_cons,List.map_nil,push_mk,List.length_cons,List.length_nil,Nat.zero_add,List.cons_append,List.nil_append,nth_cons0,nth_cons,List.set_cons_zero,List.set_cons_succ,bld58,boxQ_some hz3,V.laid]
 refine go_reg' (tk:=[]) (by kernel_rfl) ?_
 simp only [go_os,go_os_nil,go_seq,op_alloc_z,opQ_val,putA,push_mk,List.length_cons,List.length_nil,Nat.zero_add,Nat.reduceAdd,List.cons_append,List.nil_append,List.set_cons_zero,List.set_cons_succ,z32,alcQ_some hz,V.cells]
 refine go_reg' (tk:=[]) (by kernel_rfl) ?_
 simp only [go_os,go_os_nil,go_block,op_move0,op_len,peek,ofVal,rdQ_some,opQ_val,putA,Option.bind_some,Option.map_some,nth_cons0,nth_cons,List.set_cons_zero,List.set_cons_succ,clr_cores,len_cores]
 generalize hH0:Hp.mk [Blk.cells zF 32,Blk.cells [V.snil,V.snil,V.snil] 58,Blk.cells zF 32] []=H0
 have hb0:BI H0 [] [] m0:=by
  subst hH0
  exact ⟨rfl,rfl,⟨none,.snil,rfl,⟨rfl,rfl⟩,fun j hj=>by cases hj⟩,by simp⟩
 refine go_env (fun env=>EB nl l k env∧nth env 33=some (.int .i64 ((0:Nat):Int))) ⟨⟨rfl,rfl,rfl,rfl,rfl,rfl,rfl,rfl⟩,rfl⟩ fun env he=>?_
 refine go_loop (fun j s=>∃ r env H m F,j+r=l.length∧s=⟨env,H,[],[]⟩∧EB nl l k env∧nth env 33=some (.int .i64 ((r:Nat):Int))∧BI H (F.map rowV) [] m∧m.Ok∧F.length=r∧∃ F',rulesM k r ((l.drop r).map crE) m=(F',MT)∧F++F'=FT) l.length (by omega) ⟨0,env,H0,m0,[],rfl,rfl,he.1,he.2,hb0,⟨rfl,rfl⟩,rfl,FT,hT,rfl⟩ ?_
 clear he hb0 hH0 env H0
 rintro j s ⟨r,env,H,m,F,hjr,rfl,he,e33,hb,hok,hFr,F',hR,hF⟩
 have hlen:=he.len
 simp only [go_seq]
 refine go_reg' (tk:=[]) (by kernel_rfl) ?_
 simp only [go_os,go_os_nil,go_seq,go_skip,go_block,op_binOp,peek,rdQ_some,opQ_val,putA,clr_int,clr_bool,go_cond',condQ_b,if_true,nth_set,Nat.reduceLT,if_true,he.e32,e33,hlen,bin_lss]
 by_cases hr:r<l.length
 ·refine .inl ⟨by simpa using hr,?_⟩
  obtain ⟨c,hc⟩:∃ c,l[r]?=some c:=⟨_,List.getElem?_eq_getElem hr⟩
  have hcl:c∈l:=List.mem_of_getElem? hc
  have hdr:l.drop r=c::l.drop (r+1):=by
   obtain ⟨h1,h2⟩:=List.getElem?_eq_some_iff.1 hc
   rw [List.drop_eq_getElem_cons h1,h2]
  rw [hdr] at hR
  simp only [List.map_cons,rulesM,Prod.mk.injEq] at hR
  obtain ⟨hF',hR⟩:=hR
  have hz47:okC (V.agg (crC (.mk 0 0 0 0 0 0 [] 0 0 true [],false,.mk 0 0 0 0 0 0 [] 0 0 true [])))=true:=rfl
  refine go_reg' (tk:=[]) (by kernel_rfl) ?_
  simp only [go_os,go_os_nil,go_seq,op_move0,op_load0,op_alloc_z,op_store_x,op_assign,op_indexAddr,Nat.reduceEqDiff,peek,take_tmp,takeV_int,takeV_agg,rdQ_some,tkQ_some,opQ_val,putA,clr_int,clr_agg,clr_ptr,clr_vp,Option.bind_some,Option.map_some,idxV,if_true,nth_set,List.length_set,Nat.reduceLT,if_true,if_false,he.e31,e33,hlen,clr_cores,idx_cores hc,ld_core,z47,alcQ_some hz47,V.cells]
  rw [stGen (t:=47) sz47 get_new (crC_len c) (crC_clr c) (crC_tops c) (crC_len _) (crC_unl _)]
  obtain ⟨b1,k1,g1,n1⟩:=as_facts hb (crC (.mk 0 0 0 0 0 0 [] 0 0 true [],false,.mk 0 0 0 0 0 0 [] 0 0 true [])) (crC c) 47 47
  obtain ⟨K,hK⟩:∃ K,K=H.blks.length:=⟨_,rfl⟩
  have hK3:3≤K:=by rw [hK];exact hb.len
  rw [← hK] at b1 k1 g1 n1 ⊢
  generalize hH1:(H.push (Blk.cells (crC (.mk 0 0 0 0 0 0 [] 0 0 true [],false,.mk 0 0 0 0 0 0 [] 0 0 true [])) 47)).set K (Blk.cells (crC c) 47)=H1 at b1 k1 g1 n1 ⊢
  simp only [opQ_skip,putA]
  refine go_env (fun env=>EB nl l k env∧nth env 33=some (.int .i64 ((r:Nat):Int))∧nth env 8=some (.int .i64 ((r:Nat):Int))∧nth env 9=some (.ptr K 0)) ⟨⟨by simp [hlen],by simp [nth_set,he.e2],by simp [nth_set,he.e3],by simp [nth_set,he.e4],by simp [nth_set,he.e6],by simp [nth_set,he.e7],by simp [nth_set,he.e31],by simp [nth_set,he.e32]⟩,by simp [nth_set,e33],by simp [nth_set,hlen],by simp [nth_set,hlen]⟩ fun env he'=>?_
  clear he e33 hlen
  obtain ⟨he,e33,e8,e9⟩:=he'
  have hlen:=he.len
  obtain ⟨l1,l2,l3⟩:=ldC (g:=gl.g) g1
  have hz45:okC (V.agg (ecells (.mk 0 0 0 0 0 0 [] 0 0 true [])))=true:=rfl
  refine go_reg' (tk:=[]) (by kernel_rfl) ?_
  simp only [go_os,go_os_nil,go_seq,op_load0,op_alloc_z,op_store_x,op_fieldAddr2,Nat.reduceEqDiff,peek,take_tmp,takeV_agg,rdQ_some,opQ_val,putA,clr_agg,clr_ptr,Option.bind_some,Option.map_some,faddrO_some,faddrV,Nat.add_zero,if_true,nth_set,List.length_set,Nat.reduceLT,if_true,if_false,e9,hlen,fo47_0,l1,z45,alcQ_some hz45,V.cells]
  rw [stGen (t:=45) sz45 get_new (ecells_len _) (ecells_clr _) (ecells_tops _) (ecells_len _) (ecells_unl _)]
  obtain ⟨b2,k2,g2,n2⟩:=as_facts b1 (ecells (.mk 0 0 0 0 0 0 [] 0 0 true [])) (ecells c.1) 45 45
  generalize hH2:(H1.push (Blk.cells (ecells (.mk 0 0 0 0 0 0 [] 0 0 true [])) 45)).set H1.blks.length (Blk.cells (ecells c.1) 45)=H2 at b2 k2 g2 n2 ⊢
  have g12:=k2 _ _ _ (by omega) g1
  rw [n1] at g2 n2 ⊢
  simp only [opQ_skip,putA]
  obtain ⟨l1,l2,l3⟩:=ldC (g:=gl.g) g12
  refine go_reg' (tk:=[]) (by kernel_rfl) ?_
  simp only [go_os,go_os_nil,go_seq,go_skip,op_load0,op_fieldAddr2,Nat.reduceEqDiff,peek,rdQ_some,opQ_val,putA,clr_bool,clr_ptr,Option.bind_some,Option.map_some,faddrO_some,faddrV,Nat.zero_add,go_cond',condQ_b,if_true,nth_set,List.length_set,Nat.reduceLT,if_true,if_false,e9,hlen,fo47_1,l2]
  have hz45b:(V.agg (ecells (.mk 0 0 0 0 0 0 [] 0 0 true []))).cells.length=10:=rfl
  rcases hct:c.2.1 with _|_
  refine .inr ⟨rfl,?_⟩
  have hce:crE c=c.1:=by simp [crE,hct]
  rw [← hce] at g2
  refine go_gen (fun s=>∃ env H3,s=⟨env,H3,[],[]⟩∧EB nl l k env∧nth env 33=some (.int .i64 ((r:Nat):Int))∧nth env 8=some (.int .i64 ((r:Nat):Int))∧nth env 10=some (.ptr (K+1) 0)∧BI H3 (F.map rowV) [] m∧H3.get (K+1)=some (.cells (ecells (crE c)) 45)) ⟨_,_,rfl,⟨by simp [hlen],by simp [nth_set,he.e2],by simp [nth_set,he.e3],by simp [nth_set,he.e4],by simp [nth_set,he.e6],by simp [nth_set,he.e7],by simp [nth_set,he.e31],by simp [nth_set,he.e32]⟩,by simp [nth_set,e33],by simp [nth_set,e8],by simp [nth_set,hlen],b2,g2⟩ ?_
  rotate_left
  refine .inl ⟨rfl,?_⟩
  have hce:crE c=.mk 5 0 0 0 0 0 [] 0 0 false [c.1,c.2.2]:=by simp [crE,hct]
  refine go_reg' (tk:=[]) (by kernel_rfl) ?_
  simp only [go_os,op_load0,op_fieldAddr2,Nat.reduceEqDiff,peek,rdQ_some,opQ_val,putA,clr_agg,clr_ptr,Option.bind_some,Option.map_some,faddrO_some,faddrV,Nat.zero_add,Nat.add_zero,if_true,nth_set,List.length_set,Nat.reduceLT,if_true,if_false,e9,hlen,fo47_0,fo47_2,l1,l3]
  rw [op_bsl2 (v:=.agg (ecells c.1)) (u:=.agg (ecells c.2.2)) u43 sz45 z45 (by decide) hz45b hz45 (by simp [peek,nth_set,hlen,clr]) (by simp [peek,nth_set,hlen,clr]) rfl rfl (ecells_len _) (ecells_len _)]
  simp only [go_os,op_build,opQ_val,putA]
  rw [bld45 (h:=c.1) (t:=c.2.2) (by simp [peek,nth_set,hlen,clr])]
  simp only [go_os,go_os_nil,go_seq,op_store_x,Nat.reduceEqDiff,peek,take_tmp,takeV_agg,rdQ_some,opQ_val,putA,clr_ptr,if_true,nth_set,List.length_set,Nat.reduceLT,if_true,if_false,hlen]
  rw [stGen (t:=45) sz45 g2 (ecells_len _) (ecells_clr _) (ecells_tops _) (ecells_len _) (ecells_unl _)]
  obtain ⟨b3,k3,g3,n3⟩:=st_facts b2 (v:=ecells (.mk 5 0 0 0 0 0 [] 0 0 false [c.1,c.2.2])) g2 (by omega)
  simp only [opQ_skip,putA]
  rw [← hce] at g3 b3 ⊢
  refine go_gen (fun s=>∃ env H3,s=⟨env,H3,[],[]⟩∧EB nl l k env∧nth env 33=some (.int .i64 ((r:Nat):Int))∧nth env 8=some (.int .i64 ((r:Nat):Int))∧nth env 10=some (.ptr (K+1) 0)∧BI H3 (F.map rowV) [] m∧H3.get (K+1)=some (.cells (ecells (crE c)) 45)) ⟨_,_,rfl,⟨by simp [hlen],by simp [nth_set,he.e2],by simp [nth_set,he.e3],by simp [nth_set,he.e4],by simp [nth_set,he.e6],by simp [nth_set,he.e7],by simp [nth_set,he.e31],by simp [nth_set,he.e32]⟩,by simp [nth_set,e33],by simp [nth_set,e8],by simp [nth_set,hlen],b3,g3⟩ ?_
  all_goals
   rintro s ⟨env,H3,rfl,he,e33,e8,e10,b3,g3⟩
   have hlen:=he.len
   obtain ⟨i3,k3⟩:=b3.mkr
   obtain ⟨P,M1,hP⟩:∃ P M1,wkE (r:Int) (crE c) m=(P,M1):=⟨_,_,rfl⟩
   have hMs:M1.sets.length≤1200:=by
    have h1:=rulesM_grow (n:=k) (r:=r+1) (es:=(l.drop (r+1)).map crE) (m:=(ruleM k r (crE c) m).2)
    rw [hR,ruleM_sets,hP] at h1
    exact Nat.le_trans h1 hM
   obtain ⟨hwc1,hwc2⟩:=hw c hcl
   obtain ⟨H4,i4,c4,k4,n4,f4,ok4,p4⟩:=walk_run hg (n:=n - 1) k3 (Nat.zero_le _) hP hok hMs (by omega) hwc2
   rw [show n - 1+1=n by omega,enc_cells] at c4
   have hc4:Cx.callF ⟨Tryz.prog,gl.g,callA Tryz.prog gl n,uqw⟩ 17 _ H3=_:=callF_run Tryz.func17 rfl c4
   have kc4:Kc H3 H4:=by obtain ⟨_,_,u,_⟩:=k3;exact kc_frm u f4
   have b4:=b3.made kc4 f4.len k4
   refine go_reg' (tk:=[]) (by kernel_rfl) ?_
   simp only [go_os,go_os_nil,go_seq,op_move0,op_load0,op_alloc_z,op_store_x,op_call,Nat.reduceEqDiff,peeks,fV_eq,peek,take_tmp,takeV_agg,rdQ_some,opQ_val,putA,clr_int,clr_agg,clr_ptr,Option.bind_some,Option.map_some,callG_some,callQ,List.map_cons,List.map_nil,if_true,nth_set,List.length_set,Nat.reduceLT,if_true,if_false,he.e6,e10,e8,hlen,ldGen ag45 sz45 g3 (ecells_len _),hc4,z62,alcQ_some (show okC (V.agg (partC ⟨false,noP,noP⟩))=true from rfl),V.cells]
   rw [stPg get_new]
   obtain ⟨b5,k5,g5,n5⟩:=as_facts b4 (partC ⟨false,noP,noP⟩) (partC P) 62 62
   obtain ⟨K4,hK4⟩:∃ K4,K4=H4.blks.length:=⟨_,rfl⟩
   have hK43:3≤K4:=by rw [hK4];exact b4.len
   rw [← hK4] at b5 k5 g5 n5 ⊢
   generalize hH5:(H4.push (Blk.cells (partC ⟨false,noP,noP⟩) 62)).set K4 (Blk.cells (partC P) 62)=H5 at b5 k5 g5 n5 ⊢
   simp only [opQ_skip,putA]
   refine go_reg' (tk:=[]) (by kernel_rfl) ?_
   simp only [go_os,go_os_nil,go_seq,op_alloc_z,opQ_val,putA,z60,alcQ_some (show okC (V.agg (pv 19 noP))=true from rfl),V.cells,n5]
   refine go_env (fun env=>EB nl l k env∧nth env 33=some (.int .i64 ((r:Nat):Int))∧nth env 8=some (.int .i64 ((r:Nat):Int))∧nth env 11=some (.ptr K4 0)∧nth env 12=some (.ptr (K4+1) 0)) ⟨⟨by simp [hlen],by simp [nth_set,he.e2],by simp [nth_set,he.e3],by simp [nth_set,he.e4],by simp [nth_set,he.e6],by simp [nth_set,he.e7],by simp [nth_set,he.e31],by simp [nth_set,he.e32]⟩,by simp [nth_set,e33],by simp [nth_set,e8],by simp [nth_set,hlen],by simp [nth_set,hlen]⟩ fun env he'=>?_
   obtain ⟨he,e33,e8,e11,e12⟩:=he'
   have hlen:=he.len
   have b6:=b5.push (.cells (pv 19 noP) 60)
   have g6:=(kc_push (H:=H5) (.cells (pv 19 noP) 60)) K4 _ _ (by omega) g5
   have g6b:(H5.push (.cells (pv 19 noP) 60)).get (K4+1)=some (.cells (pv 19 noP) 60):=by rw [← n5];exact get_new
   generalize hH6:H5.push (Blk.cells (pv 19 noP) 60)=H6 at b6 g6 g6b ⊢
   obtain ⟨bs6,es6⟩:=H6
   have hend:k+r<1216:=by omega
   have c7:=add_run hg (n:=n - 1) (bs:=bs6) (es:=es6) (b:=K4+1) (off:=0) (pre:=[]) (post:=[]) (p:=noP) (ty:=60) (k:=k+r) (by rw [List.nil_append,List.append_nil];exact g6b) rfl hend
   rw [show n - 1+1=n by omega,List.nil_append,List.append_nil] at c7
   have hc7:Cx.callF ⟨Tryz.prog,gl.g,callA Tryz.prog gl n,uqw⟩ 18 _ ⟨bs6,es6⟩=_:=callF_run Tryz.func18 rfl c7
   obtain ⟨b7,k7,g7b,n7⟩:=st_facts b6 (v:=pv 19 (addP noP (k+r))) g6b (by omega)
   have g7:=k7 _ _ (by omega) g6
   simp only [Hp.set] at b7 k7 g7b n7 g7
   have hadd:∀ u w,binV Tryz.prog .add 3 u w (some (.int .i64 (k:Int))) (some (.int .i64 (r:Int)))=some (.int .i64 ((k+r:Nat):Int)):=fun u w=>bin_addI (by omega)
   refine go_reg' (tk:=[]) (by kernel_rfl) ?_
   simp only [go_os,go_os_nil,go_seq,op_move0,op_binOp,op_call,Nat.reduceEqDiff,peeks,fV_eq,peek,rdQ_some,opQ_val,putA,clr_int,clr_ptr,callG_some,callQ,List.map_cons,List.map_nil,if_true,nth_set,List.length_set,Nat.reduceLT,if_true,if_false,e12,he.e4,e8,hlen,hadd,hc7]
   generalize hbs7:bs6.set (K4+1) (Blk.cells (pv 19 (addP noP (k+r))) 60)=bs7 at b7 k7 g7b n7 g7 ⊢
   obtain ⟨i7,cu,u1,u2,u3⟩:=b7.mkr
   have c8:=follows_run hg (n:=n - 1) (by omega) (es:=es6) (bm:=1) (bl:=K4) (ol:=20) (bf:=K4+1) (ob:=0) (ns:=M1.next) (p:=P.last) (q:=addP noP (k+r)) (pre:=.bool P.null::pv 19 P.first) (post:=[]) (pre':=[]) (post':=[]) (ty:=62) (ty':=60) u1 u2 (by rw [← partC_l];exact g7) (by simp [pv_len]) (by rw [List.nil_append,List.append_nil];exact g7b) rfl p4.2
   rw [show n - 1+1=n by omega] at c8
   have hc8:Cx.callF ⟨Tryz.prog,gl.g,callA Tryz.prog gl n,uqw⟩ 19 _ ⟨bs7,es6⟩=_:=callF_run Tryz.func19 rfl c8
   have hm2:(ruleM k r (crE c) m).2={ M1 with next:=fol (addP noP (k+r)) (preN P.last 19) M1.next }:=by simp only [ruleM,hP]
   have hf2:(ruleM k r (crE c) m).1=preN (if P.null then joinP P.first (addP noP (k+r)) else P.first) 19:=by simp only [ruleM,hP]
   have kc8:Kc ⟨bs7,es6⟩ ⟨setU bs7 i7 (fol (addP noP (k+r)) (preN P.last 19) M1.next),es6⟩:=kc_frm u2 setU_frm
   have b8:=b7.made kc8 (by show bs7.length≤(setU bs7 i7 _).length;rw [setU_len];exact Nat.le_refl _) (MK.setU (es:=es6) ⟨cu,u1,u2,u3⟩ fol_len)
   rw [← hm2] at b8
   have g8:=kc8 _ _ _ (by omega) g7
   have g8b:=kc8 _ _ _ (by omega) g7b
   have ok8:(ruleM k r (crE c) m).2.Ok:=by rw [hm2];exact ⟨ok4.r,by simp only [fol_len];exact ok4.n⟩
   refine go_reg' (tk:=[]) (by kernel_rfl) ?_
   simp only [go_os,go_os_nil,go_seq,op_move0,op_fieldAddr2,op_call,Nat.reduceEqDiff,peeks,fV_eq,peek,rdQ_some,opQ_val,putA,clr_ptr,Option.bind_some,faddrO_some,faddrV,callG_some,callQ,List.map_cons,List.map_nil,Nat.zero_add,if_true,nth_set,List.length_set,Nat.reduceLT,if_true,if_false,he.e6,e11,e12,hlen,fo62_2,hc8]
   generalize hbs8:setU bs7 i7 (fol (addP noP (k+r)) (preN P.last 19) M1.next)=bs8 at b8 g8 g8b ⊢
   have hl8:loadA Tryz.prog ⟨bs8,es6⟩ gl.g 4 (.ptr K4 0)=some (.bool P.null):=load_one ag4 g8 rfl
   refine go_reg' (tk:=[]) (by kernel_rfl) ?_
   simp only [go_os,go_os_nil,go_skip,op_load0,op_fieldAddr2,Nat.reduceEqDiff,peek,rdQ_some,opQ_val,putA,clr_bool,clr_ptr,Option.bind_some,Option.map_some,faddrO_some,faddrV,Nat.add_zero,go_cond',condQ_b,if_true,nth_set,List.length_set,Nat.reduceLT,if_true,if_false,e11,hlen,fo62_0,hl8]
   rcases hpn:P.null with _|_
   refine .inr ⟨rfl,?_⟩
   refine go_gen (fun s=>∃ env H9,s=⟨env,H9,[],[]⟩∧EB nl l k env∧nth env 33=some (.int .i64 ((r:Nat):Int))∧nth env 11=some (.ptr K4 0)∧BI H9 (F.map rowV) [] (ruleM k r (crE c) m).2∧∃ fp,(ruleM k r (crE c) m).1=preN fp 19∧H9.get K4=some (.cells (partC ⟨P.null,fp,P.last⟩) 62)) ⟨_,_,rfl,⟨by simp [hlen],by simp [nth_set,he.e2],by simp [nth_set,he.e3],by simp [nth_set,he.e4],by simp [nth_set,he.e6],by simp [nth_set,he.e7],by simp [nth_set,he.e31],by simp [nth_set,he.e32]⟩,by simp [nth_set,e33],by simp [nth_set,e11],b8,P.first,by rw [hf2,hpn];rfl,g8⟩ ?_
   rotate_left
   refine .inl ⟨rfl,?_⟩
   have c9:=join_run hg (n:=n - 1) (by omega) (bs:=bs8) (es:=es6) (b:=K4) (off:=1) (b':=K4+1) (off':=0) (pre:=[.bool P.null]) (post:=pv 19 P.last) (pre':=[]) (post':=[]) (p:=P.first) (q:=addP noP (k+r)) (ty:=62) (ty':=60) (by rw [← partC_f];exact g8) rfl (by rw [List.nil_append,List.append_nil];exact g8b) rfl (by omega)
   rw [show n - 1+1=n by omega] at c9
   have hc9:Cx.callF ⟨Tryz.prog,gl.g,callA Tryz.prog gl n,uqw⟩ 20 _ ⟨bs8,es6⟩=_:=callF_run Tryz.func20 rfl c9
   obtain ⟨b9,k9,g9,n9⟩:=st_facts b8 (v:=partC ⟨P.null,joinP P.first (addP noP (k+r)),P.last⟩) g8 (by omega)
   simp only [Hp.set] at b9 g9
   refine go_reg' (tk:=[]) (by kernel_rfl) ?_
   simp only [go_os,go_os_nil,op_fieldAddr2,op_call,Nat.reduceEqDiff,peeks,fV_eq,peek,rdQ_some,opQ_val,putA,clr_ptr,Option.bind_some,faddrO_some,faddrV,callG_some,callQ,List.map_cons,List.map_nil,Nat.zero_add,List.cons_append,List.nil_append,if_true,nth_set,List.length_set,Nat.reduceLT,if_true,if_false,e11,e12,hlen,fo62_1,hc9]
   refine go_gen (fun s=>∃ env H9,s=⟨env,H9,[],[]⟩∧EB nl l k env∧nth env 33=some (.int .i64 ((r:Nat):Int))∧nth env 11=some (.ptr K4 0)∧BI H9 (F.map rowV) [] (ruleM k r (crE c) m).2∧∃ fp,(ruleM k r (crE c) m).1=preN fp 19∧H9.get K4=some (.cells (partC ⟨P.null,fp,P.last⟩) 62)) ⟨_,_,rfl,⟨by simp [hlen],by simp [nth_set,he.e2],by simp [nth_set,he.e3],by simp [nth_set,he.e4],by simp [nth_set,he.e6],by simp [nth_set,he.e7],by simp [nth_set,he.e31],by simp [nth_set,he.e32]⟩,by simp [nth_set,e33],by simp [nth_set,e11],b9,joinP P.first (addP noP (k+r)),by rw [hf2,hpn];rfl,g9⟩ ?_
   all_goals
    rintro s ⟨env,H9,rfl,he,e33,e11,b9,fp,hfp,g9⟩
    have hlen:=he.len
    obtain ⟨bF,hF9⟩:∃ bF,bF=fC (F.map rowV) []:=⟨_,rfl⟩
    have f9:=b9.f
    rw [← hF9] at f9
    have hlod:∀ env,lodT Tryz.prog 30 env H9 [] [] (some (.ptr 2 2))=some (.val (ownL 1 29 (F.map rowV)),⟨env,H9.set 2 (.cells (bF.set 2 (lkL 1 (F.map rowV))) 32),lckM 2 2 (F.map rowV),[]⟩):=fun env=>lodT_own ag30 f9 (by rw [hF9];rfl)
    obtain ⟨HL,hHL⟩:∃ HL,HL=H9.set 2 (.cells (bF.set 2 (lkL 1 (F.map rowV))) 32):=⟨_,rfl⟩
    rw [← hHL] at hlod
    obtain ⟨LK,hLK⟩:∃ LK,LK=lckM 2 2 (F.map rowV):=⟨_,rfl⟩
    rw [← hLK] at hlod
    have gL:HL.get K4=some (.cells (partC ⟨P.null,fp,P.last⟩) 62):=by rw [hHL,set_ne (by omega)];exact g9
    have gL2:HL.get 2=some (.cells (bF.set 2 (lkL 1 (F.map rowV))) 32):=by rw [hHL,set_eq f9]
    have hrow:clr (ownL 1 3 (preL fp 19))=rowV (ruleM k r (crE c) m).1:=by rw [hfp,preL_eq];rfl
    have hls:∀ H,H.get K4=some (.cells (partC ⟨P.null,fp,P.last⟩) 62)→Cx.callF ⟨Tryz.prog,gl.g,callA Tryz.prog gl n,uqw⟩ 21 [.ptr K4 1] H=some (.val (rowV (ruleM k r (crE c) m).1),H):=fun H hH=>by
     have h:=list_run hg (n:=n - 1) (by omega) (H:=H) (b:=K4) (off:=1) (pre:=[.bool P.null]) (post:=pv 19 P.last) (p:=fp) (ty:=62) (by rw [← partC_f ⟨P.null,fp,P.last⟩];exact hH) rfl
     rw [show n - 1+1=n by omega,hrow] at h
     exact callF_run Tryz.func21 rfl h
    obtain ⟨row,hrw⟩:∃ row,row=rowV (ruleM k r (crE c) m).1:=⟨_,rfl⟩
    rw [← hrw] at hls
    have hclr:clr row=row:=by rw [hrw];exact clr_own2
    have hrk:okC row=true∧row.cells.length=1∧row.top=0:=by
     rw [hrw]
     have:tops ((ruleM k r (crE c) m).1.map natV)=0:=tops_mp (fun _=>rfl) _
     unfold rowV
     cases h:(ruleM k r (crE c) m).1.map natV with
     | nil=>exact ⟨rfl,rfl,rfl⟩
     | cons x xs =>
      rw [h] at this
      exact ⟨rfl,rfl,this⟩
    have hbsl:=r30.bsl (v:=row) hrk.1 hrk.2.1
    have happ:∀ H,appendA Tryz.prog H 30 (ownL 1 29 (F.map rowV)) (.sl 1 [row] .no)=some (ownL 1 29 (F.map rowV++[row])):=fun H=>append_own r30 (by simp) (roomA_of (by rw [List.length_map];simp;omega) (by rw [List.length_map];simp;omega))
    have hst:∀ env,storX Tryz.prog 30 HL LK [] (some (ownL 1 29 (F.map rowV++[row]),env)) (some (.ptr 2 2))=some (.skip,⟨env,HL.set 2 (.cells (bF.set 2 (ownL 1 29 (F.map rowV++[row]))) 32),LK,[]⟩):=fun env=>by
     have hbl:2<bF.length:=by rw [hF9];simp [fC]
     have ht0:(ownL 1 29 (F.map rowV++[row])).top=0:=top_own (tops_app (tops_mp (fun x=>by
      unfold rowV
      rw [top_clr]
      exact top_own (tops_mp (fun _=>rfl) _)) _) (by simp [tops,hrk.2.2]))
     rw [storX_ptr r30.st gL2 okC_own (by rw [laid_own];rfl) (by rw [List.length_set];omega) (by rw [hLK];exact mayA_own hbl),edge0 (by rw [ht0];omega)]
     simp only [laid_own,Vm.storeCells,List.set_set]
    refine go_drawR (tk:=[64]) (by kernel_rfl) ?_
    apply Exists.intro
    apply And.intro
    refine opsD_free (m:=0) (v:=.ptr 2 2) (by kernel_rfl) rfl (by simp only [op_fieldAddr2,peek,rdQ_some,clr_ptr,Option.bind_some,faddrO_some,faddrV,Nat.zero_add,he.e7,fo32_2];rfl) (by kernel_rfl) (by kernel_rfl) (by kernel_rfl) ?_
    dsimp only [putA]
    refine opsD_heap (m:=1) (v:=ownL 1 29 (F.map rowV)) (cs':=[⟨2,HL,LK,[]⟩,⟨0,H9,[],[]⟩]) (by kernel_rfl) rfl (by simp only [op_loadt1,peek,clr_ptr,if_true,nth_set,Nat.reduceLT,if_true,hlen,hlod];rfl) (by kernel_rfl) (by kernel_rfl) (by kernel_rfl) (fun K=>?_) ?_
    rotate_left
    dsimp only [putA]
    refine opsD_free (m:=0) (v:=.ptr K4 1) (by kernel_rfl) rfl (by simp only [op_fieldAddr2,Nat.reduceEqDiff,peek,rdQ_some,clr_ptr,Option.bind_some,faddrO_some,faddrV,Nat.zero_add,if_true,nth_set,List.length_set,Nat.reduceLT,if_true,if_false,e11,hlen,fo62_1];rfl) (by kernel_rfl) (by kernel_rfl) (by kernel_rfl) ?_
    dsimp only [putA]
    refine opsD_heap (m:=4) (v:=row) (cs':=[⟨10,HL,LK,[]⟩,⟨8,H9,[],[]⟩,⟨2,HL,LK,[]⟩,⟨0,H9,[],[]⟩]) (by kernel_rfl) rfl (by simp only [op_call,Nat.reduceEqDiff,peeks,fV_eq,peek,clr_ptr,callG_some,callQ,List.map_cons,List.map_nil,if_true,nth_set,List.length_set,Nat.reduceLT,if_true,if_false,hlen,hls HL gL];rfl) (by kernel_rfl) (by kernel_rfl) (by kernel_rfl) (fun K=>?_) ?_
    rotate_left
    dsimp only [putA]
    refine opsD_free (m:=12) (v:=.sl 1 [row] (.yes 29)) (by kernel_rfl) rfl (by simp only [op_bsl1,Nat.reduceEqDiff,peek,rdQ_some,if_true,nth_set,List.length_set,Nat.reduceLT,if_true,if_false,hlen,hclr,hbsl];rfl) (by kernel_rfl) (by kernel_rfl) (by kernel_rfl) ?_
    dsimp only [putA]
    refine opsD_look (m:=31) (v:=ownL 1 29 (F.map rowV++[row])) (by kernel_rfl) rfl (by simp only [Nat.reduceEqDiff,peek,take_tmp,takeV_own,clr_sl,Option.bind_some,if_true,nth_set,List.length_set,Nat.reduceLT,if_true,if_false,hlen,appQ,happ,op_append (cx:=⟨Tryz.prog,gl.g,callA Tryz.prog gl n,uqw⟩) (show uqT Tryz.prog uqw 30=false by kernel_rfl)];rfl) (by kernel_rfl) (by kernel_rfl) (by kernel_rfl) (by kernel_rfl) ?_
    dsimp only [putA]
    refine opsD_free (m:=63) (v:=.ptr 2 2) (by kernel_rfl) rfl (by simp only [op_fieldAddr2,Nat.reduceEqDiff,peek,rdQ_some,clr_ptr,Option.bind_some,faddrO_some,faddrV,Nat.zero_add,if_true,nth_set,List.length_set,Nat.reduceLT,if_true,if_false,he.e7,hlen,fo32_2];rfl) (by kernel_rfl) (by kernel_rfl) (by kernel_rfl) ?_
    dsimp only [putA]
    refine opsD_store (m:=127) (cs':=[⟨138,HL.set 2 (.cells (bF.set 2 (ownL 1 29 (F.map rowV++[row]))) 32),LK,[]⟩,⟨10,HL,LK,[]⟩,⟨8,H9,[],[]⟩,⟨2,HL,LK,[]⟩,⟨0,H9,[],[]⟩]) (by kernel_rfl) rfl (by simp only [op_store_x,Nat.reduceEqDiff,peek,take_tmp,takeV_own,clr_ptr,if_true,nth_set,List.length_set,Nat.reduceLT,if_true,if_false,hlen,hst];rfl) (by kernel_rfl) (by kernel_rfl) (fun K=>?_) opsD_nil
    ·refine cfgs_last' ?_ ?_ ?_ ?_
     ·kernel_rfl
     ·rfl
     ·intro c hc
      simp only [List.mem_cons,List.not_mem_nil,or_false] at hc
      rcases hc with rfl|rfl|rfl<;>kernel_rfl
     ·kernel_rfl
    rotate_left
    ·refine cfgs_last' ?_ ?_ ?_ ?_
     ·kernel_rfl
     ·rfl
     ·intro c hc
      simp at hc
     ·kernel_rfl
    ·refine cfgs_call' (e:=⟨0,HL,LK,[]⟩) ?_ ?_ ?_ ?_ ?_ ?_ ?_ ?_ ?_ ?_ ?_ ?_ ?_ ?_
     ·kernel_rfl
     ·rfl
     ·rfl
     ·rfl
     ·rfl
     ·rfl
     ·rfl
     ·kernel_rfl
     rotate_left
     ·kernel_rfl
     ·kernel_rfl
     rotate_left
     ·kernel_rfl
     ·exact sameCfg_of
     ·simp only [Cx.runC,recOf]
      simp only [op_call,Nat.reduceEqDiff,peeks,fV_eq,peek,clr_ptr,callG_some,callQ,List.map_cons,List.map_nil,Nat.zero_add,Nat.reduceAdd,if_true,nth_set,List.length_set,Nat.reduceLT,if_true,if_false,hlen,hls H9 g9]
      rfl
     ·simp only [Cx.runC,recOf]
      simp only [op_loadt1,peek,clr_ptr,if_true,nth_set,Nat.reduceLT,if_true,hlen,hlod]
    simp only [putA]
    simp only [go_eb]
    refine go_reg' (tk:=[]) (by kernel_rfl) ?_
    simp only [go_os,go_os_nil,op_move0,op_binOp,Nat.reduceEqDiff,peek,ofVal,rdQ_some,opQ_val,putA,clr_int,if_true,nth_set,List.length_set,Nat.reduceLT,if_true,if_false,e33,hlen,bin_addk (show r<2 ^ 60 by omega)]
    simp only [go_nil,thn_normal]
    refine ⟨j - 1,by omega,r+1,_,_,(ruleM k r (crE c) m).2,F++[(ruleM k r (crE c) m).1],by omega,rfl,⟨by simp [hlen],by simp [nth_set,he.e2],by simp [nth_set,he.e3],by simp [nth_set,he.e4],by simp [nth_set,he.e6],by simp [nth_set,he.e7],by simp [nth_set,he.e31],by simp [nth_set,he.e32]⟩,by simp [nth_set,hlen],?_,ok8,by simp [hFr],_,Prod.ext rfl hR,?_⟩
    ·rw [hHL,set_set2]
     have:=b9.setF (F':=(F++[(ruleM k r (crE c) m).1]).map rowV) (N':=[])
     rw [hF9,hrw]
     simpa [fC] using this
    ·rw [← hF,← hF',List.append_assoc]
     rfl
 ·obtain rfl:r=l.length:=by omega
  refine .inr ⟨by simp,?_⟩
  rw [List.drop_length] at hR
  simp only [List.map_nil,rulesM,Prod.mk.injEq] at hR
  obtain ⟨rfl,rfl⟩:=hR
  rw [List.append_nil] at hF
  subst hF
  simp only [go_exit,go_c_exit]
  exact rows_go hg hn (nl:=nl) (l:=l) (k:=k) (F:=F) (m:=m) ⟨by simp [hlen],by simp [nth_set,he.e2],by simp [nth_set,he.e3],by simp [nth_set,he.e4],by simp [nth_set,he.e6],by simp [nth_set,he.e7],by simp [nth_set,he.e31],by simp [nth_set,he.e32]⟩ hb hok hM hne
end Go.Proofs.YtkbdcmehffmfpaaGreatDoor
