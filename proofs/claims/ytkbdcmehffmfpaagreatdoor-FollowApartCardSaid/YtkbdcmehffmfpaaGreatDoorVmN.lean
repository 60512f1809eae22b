/- Seat 5: Build, known: expressions told apart by their values; hooks; Seat 5: Build's answer, known; Seat 5: an argument that reads as rules with texts is one; and what follows from it. Conditions: none but those that each theorem names. -/
import Derived.Test.YtkbdcmehffmfpaaGreatDoorVmE
import Derived.Test.YtkbdcmehffmfpaaGreatDoorVmF
import Derived.Test.YtkbdcmehffmfpaaGreatDoorVmI
import Derived.Test.YtkbdcmehffmfpaaGreatDoorVmK
import Derived.Test.YtkbdcmehffmfpaaGreatDoorVmM
namespace Go.Proofs.YtkbdcmehffmfpaaGreatDoor
set_option maxRecDepth 10000
open Go Go.Vm Go.Vm.Sx
mutual
def Can:E→Prop
 | .mk _ _ _ _ _ _ _ _ _ nl args=>(nl=true→args=[])∧Cans args
def Cans:List E→Prop
 | []=>True
 | e::l=>Can e∧Cans l
end
theorem argV_inj {nl nl':Bool} {a b:List V} (h1:nl=true→a=[]) (h2:nl'=true→b=[]) (h:argV nl a=argV nl' b):a=b∧nl=nl':=by
 unfold argV at h
 cases nl with
 | true =>
  have:=h1 rfl
  subst this
  cases nl' with
  | true=>exact ⟨(h2 rfl).symm,rfl⟩
  | false=>simp at h
 | false =>
  cases nl' with
  | true =>
   have:=h2 rfl
   subst this
   simp at h
  | false =>
   simp only [Bool.false_and,Bool.false_eq_true,if_false] at h
   injection h with _ h
   exact ⟨h,rfl⟩
mutual
theorem enc_inj:∀ (e e':E),Can e→Can e'→enc e=enc e'→e=e'
 | .mk op pl s0 s1 s2 s3 tx mn mx nl args,.mk op' pl' s0' s1' s2' s3' tx' mn' mx' nl' args',h,h',he=>by
  simp only [enc] at he
  injection he with he
  simp only [List.cons.injEq,V.int.injEq,V.str.injEq,true_and,and_true] at he
  obtain ⟨e1,e2,e3,e4,e5,e6,e7,e8,e9,e10⟩:=he
  obtain ⟨f1,f2⟩:=argV_inj (fun hn=>by rw [h.1 hn];rfl) (fun hn=>by rw [h'.1 hn];rfl) e10
  have:=encs_inj args args' h.2 h'.2 f1
  subst e1 e2 e3 e4 e5 e6 e7 e8 e9 f2 this
  rfl
theorem encs_inj:∀ (l l':List E),Cans l→Cans l'→encs l=encs l'→l=l'
 | [],[],_,_,_=>rfl
 | [],_::_,_,_,h=>by simp [encs] at h
 | _::_,[],_,_,h=>by simp [encs] at h
 | a::l,b::l',h,h',he=>by
  simp only [encs,List.cons.injEq] at he
  rw [enc_inj a b h.1 h'.1 he.1,encs_inj l l' h.2 h'.2 he.2]
end
def CanC (c:Cr):Prop:=Can c.1∧Can c.2.2
theorem crV_inj {c c':Cr} (h:CanC c) (h':CanC c') (he:crV c=crV c'):c=c':=by
 obtain ⟨a,t,b⟩:=c
 obtain ⟨a',t',b'⟩:=c'
 simp only [crV,crC,V.agg.injEq,List.append_assoc] at he
 have hl:(ecells a).length=(ecells a').length:=by rw [ecells_len,ecells_len]
 obtain ⟨e1,e2⟩:=List.append_inj he hl
 simp only [List.cons_append,List.nil_append,List.cons.injEq,V.bool.injEq] at e2
 have h1:=enc_inj a a' h.1 h'.1 (by rw [enc_cells,enc_cells,e1])
 have h2:=enc_inj b b' h.2 h'.2 (by rw [enc_cells,enc_cells,e2.2])
 subst h1 h2
 rw [e2.1]
theorem cores_inj {nl nl':Bool}:∀ {l l':List Cr},(∀ c∈l,CanC c)→(∀ c∈l',CanC c)→coresV nl l=coresV nl' l'→l=l':=by
 intro l l' h h' he
 have hm:l.map crV=l'.map crV:=by
  have e1:=vL_cores nl l
  have e2:=vL_cores nl' l'
  rw [← e1,he,e2]
 clear he
 induction l generalizing l' with
 | nil=>cases l' with
  | nil=>rfl
  | cons a l'=>simp at hm
 | cons a l ih=>cases l' with
  | nil=>simp at hm
  | cons b l' =>
   simp only [List.map_cons,List.cons.injEq] at hm
   rw [crV_inj (h a (List.mem_cons_self ..)) (h' b (List.mem_cons_self ..)) hm.1,ih (fun c hc=>h c (List.mem_cons_of_mem _ hc)) (fun c hc=>h' c (List.mem_cons_of_mem _ hc)) hm.2]
structure GdL (l:List Cr):Prop where
 len:l.length≤maxLen
 wf:∀ c∈l,WfC c
 can:∀ c∈l,CanC c
 nod:200<l.length∨∀ c∈l,nodes c.1≤1800∧nodes c.2.2≤1800
open Classical in
noncomputable def hkBy (F:List Cr→V) (args:List V):Option V :=
 if h:∃ p:Bool×List Cr,GdL p.2∧args=[coresV p.1 p.2] then some (F (Classical.choose h).2) else none
theorem hkBy_eq {F:List Cr→V} {nl:Bool} {l:List Cr} (h:GdL l):hkBy F [coresV nl l]=some (F l):=by
 unfold hkBy
 have hex:∃ p:Bool×List Cr,GdL p.2∧[coresV nl l]=[coresV p.1 p.2]:=⟨(nl,l),h,rfl⟩
 rw [dif_pos hex]
 have hs:=Classical.choose_spec hex
 have e:=List.cons.inj hs.2
 rw [cores_inj hs.1.can h.can e.1.symm]
theorem hkBy_some {F:List Cr→V} {args:List V} {v:V} (h:hkBy F args=some v):∃ nl l,GdL l∧args=[coresV nl l]∧v=F l:=by
 unfold hkBy at h
 split at h
 ·rename_i hex
  have hs:=Classical.choose_spec hex
  exact ⟨_,_,hs.1,hs.2,(Option.some.inj h).symm⟩
 ·cases h
theorem top_bru:∀ v∈bruT,v.top=0:=by
 intro v hv
 obtain ⟨n,_,rfl⟩:=List.mem_map.1 hv
 rfl
theorem top_glw:∀ g off v,glw g off=some v→v.top=0:=by
 intro g off v h'
 unfold glw glT at h'
 split at h'
 ·rename_i vs hvs
  have:=tabA_mem hvs
  simp only [List.mem_singleton,Prod.mk.injEq] at this
  obtain ⟨_,rfl⟩:=this
  rw [nth_eq] at h'
  exact top_bru v (List.mem_of_getElem? h')
 ·unfold glOf at h'
  split at h'<;>simp only [Option.some.injEq,reduceCtorEq] at h'
  subst h';rfl
def gl0:Gl:={ g:=glw,hk:=fun _ _=>none }
instance : NoU gl0:=⟨fun _=>rfl,fun _ _ _ _=>rfl⟩
theorem GL0:GL gl0:=⟨top_glw,fun _ _ _=>rfl⟩
theorem hk0:HkOk Tryz.prog gl0:=⟨fun f args v h=>(by cases h),fun n f args H out H' h=>(by cases h)⟩
def mayV (l:List Cr):V:=.tup [.int .i64 (mayM l).1,.bool (mayM l).2]
noncomputable def glb:Gl:={ g:=glw,uq:=uqw,hk:=fun f args=>if Nat.beq f 16 then hkBy mayV args else none }
theorem hkb:HkOk Tryz.prog glb:=by
 refine ⟨fun f args v h d H g w cargs lc h1 h2 h3=>?_,fun n f args H out H' h=>(by cases h)⟩
 simp only [glb] at h
 split at h
 ·rename_i hf
  obtain rfl:f=16:=Nat.eq_of_beq_eq_true hf
  obtain ⟨nl,l,hg,rfl,rfl⟩:=hkBy_some h
  obtain ⟨k,hk⟩:=Sx.Ev.run (xs:=[coresV nl l]) (ev16 GL0 nl l hg.len hg.wf) ⟨[],[]⟩
  exact hk_pure mixed numOk primOk hk0 (hk k (Nat.le_refl _)) (by simp [tops,top_cores]) rfl h1 h2 h3
 ·cases h
theorem GWb:GW glb where
 uq:=rfl
 hk2:=fun _ _ _ _=>rfl
 tab:=fun o ho=>by
  show glT 290 ks [(3,bruT)] 3 o=nth bruT o
  rfl
 hk:=fun f args h=>by
  show (if Nat.beq f 16 then hkBy mayV args else none)=none
  rw [if_neg]
  intro hf
  have:=Nat.eq_of_beq_eq_true hf
  subst this
  revert h
  decide
end Go.Proofs.YtkbdcmehffmfpaaGreatDoor
namespace Go.Proofs.YtkbdcmehffmfpaaGreatDoor
set_option maxRecDepth 10000
open Go Go.Vm Go.Vm.Sx
def foOf (l:List Cr):Fo :=
 ⟨(rulesM (mayM l).1.toNat 0 (l.map crE) m0).2.sets,(rulesM (mayM l).1.toNat 0 (l.map crE) m0).2.rules,(rulesM (mayM l).1.toNat 0 (l.map crE) m0).1.map (·.map Int.ofNat),(rulesM (mayM l).1.toNat 0 (l.map crE) m0).2.next.map fun p=>(preN p 19).map Int.ofNat⟩
def er0:V:=.ifc 290 (.obj 0)
def er1:V:=.ifc 290 (.obj 1)
def bA (l:List Cr):List V:=bif (mayM l).2 then (if 1000<(mayM l).1 then zF else foC (foOf l)) else zF
def bE (l:List Cr):V:=bif (mayM l).2 then (if 1000<(mayM l).1 then er1 else .nili) else er0
def bV (l:List Cr):V:=.tup [.agg (bA l),bE l]
theorem own_lv {n:Nat} {e:TypeId} {xs:List V}:clr (ownL n e xs)=lv n true xs:=by cases xs<;>rfl
theorem rowV_nv (l:List Nat):rowV l=nv (l.map Int.ofNat):=by
 unfold rowV nv
 rw [own_lv,List.map_map]
 rfl
theorem may_ok:∀ (l:List Cr) (p:Int),(∀ c∈l,nodes c.1≤1800∧nodes c.2.2≤1800)→0≤p→p≤1001→(mayF p l).2=true→(mayF p l).1≤1000→(mayF p l).1=p+(nsetR (l.map crE):Int)∧p≤1000∧∀ e∈l.map crE,gd e=true
 | [],p,_,h0,h1,_,h2=>by
  simp only [mayF] at h2 ⊢
  exact ⟨by simp [nsetR],h2,fun e he=>by cases he⟩
 | c::l,p,h,h0,h1,hok,h2=>by
  obtain ⟨n1,n2⟩:=h c (List.mem_cons_self ..)
  simp only [mayF] at hok h2 ⊢
  cases ho:okC' c with
  | false=>rw [ho] at hok;cases hok
  | true =>
   rw [ho] at hok h2
   simp only [cond_true] at hok h2 ⊢
   have k1:=nset_le c.1
   have k2:=nset_le c.2.2
   have hsz:∀ e:E,nodes e≤4000→0≤sizP e∧sizP e≤1001:=fun e he=>by
    rw [siz_gd he]
    split
    ·split<;>omega
    ·omega
   have hs1:=hsz c.1 (by omega)
   have hs2:=hsz c.2.2 (by omega)
   have hadd:addS p c=if 1001<p+sizP c.1+sizP c.2.2 then 1001 else p+sizP c.1+sizP c.2.2:=by
    unfold addS
    rw [w64 (x:=p+sizP c.1) (by omega) (by omega),w64 (by omega) (by omega)]
    by_cases h4:1001<p+sizP c.1+sizP c.2.2
    ·rw [ltz_t h4,if_pos h4];rfl
    ·rw [ltz_f (by omega),if_neg h4];rfl
   have hb:0≤addS p c∧addS p c≤1001:=by rw [hadd];split<;>omega
   obtain ⟨g1,g2,g3⟩:=may_ok l (addS p c) (fun c hc=>h c (List.mem_cons_of_mem _ hc)) hb.1 hb.2 hok h2
   have h4:¬ (1001<p+sizP c.1+sizP c.2.2):=fun h4=>by rw [hadd,if_pos h4] at g2;omega
   have hadd2:addS p c=p+sizP c.1+sizP c.2.2:=by rw [hadd,if_neg h4]
   rw [hadd2] at g2
   simp only [okC',Bool.and_eq_true] at ho
   obtain ⟨o1,o2⟩:=ho
   rw [chk_gd (by omega)] at o1
   have hsa:=siz_gd (show nodes c.1≤4000 by omega)
   rw [o1] at hsa
   simp only [if_true] at hsa
   have hsa':sizP c.1=nset c.1:=by
    rw [hsa]
    by_cases hx:1001<(nset c.1:Int)
    ·rw [if_pos hx] at hsa;omega
    ·rw [if_neg hx]
   have hcr:gd (crE c)=true∧(nset (crE c):Int)=sizP c.1+sizP c.2.2:=by
    cases hb:c.2.1 with
    | false =>
     rw [hb] at o2
     simp only [cond_false] at o2
     have:crE c=c.1:=by simp [crE,hb]
     have hz:sizP c.2.2=0:=by rw [siz_gd (by omega),zero_not o2];rfl
     rw [this,hz,hsa']
     exact ⟨o1,by omega⟩
    | true =>
     rw [hb] at o2
     simp only [cond_true] at o2
     rw [chk_gd (by omega)] at o2
     have:crE c=.mk 5 0 0 0 0 0 [] 0 0 false [c.1,c.2.2]:=by simp [crE,hb]
     have hsb:=siz_gd (show nodes c.2.2≤4000 by omega)
     rw [o2] at hsb
     simp only [if_true] at hsb
     have hsb':sizP c.2.2=nset c.2.2:=by
      rw [hsb]
      by_cases hx:1001<(nset c.2.2:Int)
      ·rw [if_pos hx] at hsb;omega
      ·rw [if_neg hx]
     have e1:leanB (.mk 5 0 0 0 0 0 [] 0 0 false [c.1,c.2.2])=true:=rfl
     have e2:kindB (.mk 5 0 0 0 0 0 [] 0 0 false [c.1,c.2.2])=true:=rfl
     rw [this,hsa',hsb']
     refine ⟨by simp only [gd,e1,e2,gdF,o1,o2,Bool.and_self],?_⟩
     simp only [nset,nsetF,show ((5:Int) == 2)=false from rfl,Bool.false_eq_true,if_false]
     omega
   refine ⟨?_,by omega,fun e he=>?_⟩
   ·rw [g1,hadd2]
    simp only [List.map_cons,nsetR]
    push_cast
    omega
   ·simp only [List.map_cons,List.mem_cons] at he
    rcases he with rfl|he
    ·exact hcr.1
    ·exact g3 e he
mutual
theorem wE_nodes:∀ e:E,wE e+2≤5 * nodes e
 | .mk _ _ _ _ _ _ _ _ _ _ args=>by
  have:=wLs_nodes args
  simp only [wE,nodes]
  omega
theorem wLs_nodes:∀ l:List E,wLs l≤5 * nodesF l
 | []=>by simp [wLs,nodesF]
 | a::l=>by
  have:=wE_nodes a
  have:=wLs_nodes l
  simp only [wLs,nodesF]
  omega
end
theorem build_known (nl:Bool) (l:List Cr) (h:GdL l):∃ u H',callA Tryz.prog glb 30001 7 [coresV nl l] ⟨[],[]⟩=some (.ret u,H')∧Frz H' u (bV l):=by
 have hm:glb.hk 16 [coresV nl l]=some (mayV l):=hkBy_eq h
 have g0:glb.g 0 0=some er0:=by kernel_rfl
 have g1:glb.g 1 0=some er1:=by kernel_rfl
 obtain ⟨p,ok,hpo⟩:∃ p ok,mayM l=(p,ok):=⟨_,_,rfl⟩
 rw [mayV,hpo] at hm
 simp only at hm
 by_cases hbad:ok=false∨1000<p
 ·refine ⟨_,_,build_err GWb (n:=30000) (by omega) hm g0 g1 rfl rfl ⟨_,_,rfl⟩ ⟨_,_,rfl⟩ hbad,?_⟩
  have:bV l=.tup [.agg zF,if ok then er1 else er0]:=by
   rw [bV,bA,bE,hpo]
   cases ok with
   | false=>rfl
   | true =>
    have:1000<p:=by rcases hbad with h|h;cases h;exact h
    simp only [cond_true,if_pos this,if_true]
  rw [this]
  exact .same (by cases ok<;>rfl)
 ·have hok:ok=true:=by cases ok with
   | false=>exact absurd (.inl rfl) hbad
   | true=>rfl
  subst hok
  have hp:p≤1000:=by
   rcases Int.lt_or_le 1000 p with h|h
   ·exact absurd (.inr h) hbad
   ·exact h
  have hlen:l.length≤200∧mayF 0 l=(p,true):=by
   unfold mayM at hpo
   cases hx:ltz 200 (l.length:Int) with
   | true=>rw [hx] at hpo;simp at hpo
   | false =>
    rw [hx] at hpo
    simp only [cond_false] at hpo
    refine ⟨?_,hpo⟩
    rcases Nat.lt_or_ge 200 l.length with hh|hh
    ·rw [ltz_t (by omega)] at hx;cases hx
    ·exact hh
  have hnod:∀ c∈l,nodes c.1≤1800∧nodes c.2.2≤1800:=by
   rcases h.nod with hh|hh
   ·omega
   ·exact hh
  obtain ⟨m1,_,m3⟩:=may_ok l 0 hnod (by omega) (by omega) (by rw [hlen.2]) (by rw [hlen.2];exact hp)
  rw [hlen.2] at m1
  simp only [Int.zero_add] at m1
  obtain ⟨k,rfl⟩:∃ k:Nat,p=k:=⟨nsetR (l.map crE),m1⟩
  have hkn:k=nsetR (l.map crE):=by omega
  obtain ⟨r1,r2,r3⟩:=rules_inv (n:=k) (l.map crE) 0 m0 m3 ⟨rfl,rfl⟩ (by simp [m0];omega) (by rw [List.length_map];omega) (fun x hx=>by simp [m0] at hx)
  have hnc:∀ c∈l,nodes (crE c)≤3601:=fun c hc=>by
   obtain ⟨a1,a2⟩:=hnod c hc
   unfold crE
   split
   ·simp only [nodes,nodesF];omega
   ·omega
  obtain ⟨H',N,hc,hN⟩:=build_run GWb (n:=30000) (k:=k) hm (by omega) hlen.1 (by rw [r1];simp [m0];omega) (rich_ne r2) (fun c hc=>by have:=wE_nodes (crE c);have:=hnc c hc;omega) (by omega)
  refine ⟨_,H',hc,?_⟩
  have hbv:bV l=.tup [foV (foOf l),.nili]:=by
   rw [bV,bA,bE,hpo]
   simp only [cond_true,if_neg (show ¬ (1000<(k:Int)) by omega)]
   rfl
  have hfo:foOf l=⟨(rulesM k 0 (l.map crE) m0).2.sets,(rulesM k 0 (l.map crE) m0).2.rules,(rulesM k 0 (l.map crE) m0).1.map (·.map Int.ofNat),(rulesM k 0 (l.map crE) m0).2.next.map fun p=>(preN p 19).map Int.ofNat⟩:=by
   rw [foOf,hpo]
   simp only [Int.toNat_natCast]
  rw [hbv,hfo]
  generalize hR:rulesM k 0 (l.map crE) m0=R at *
  obtain ⟨FT,MT⟩:=R
  simp only at hN r2 ⊢
  have hrich:=rich_ne r2
  have e1:clr (ownL 4 41 MT.setsV)=svs MT.sets:=own_lv
  have e2:clr (ownL 1 3 MT.rulesV)=nv MT.rules:=own_lv
  have e3:clr (ownL 1 29 (FT.map rowV))=rvs (FT.map (·.map Int.ofNat)):=by
   rw [own_lv,rvs,List.map_map]
   congr 1
   exact List.map_congr_left fun a _=>rowV_nv a
  rw [e1,e2,e3]
  have hrow:∀ p∈MT.next,nv ((preN p 19).map Int.ofNat)=.sl 1 ((preN p 19).map natV) .no:=fun p hp=>by
   have hne:=hrich p hp
   rw [← rowV_nv]
   unfold rowV
   cases hx:preN p 19 with
   | nil=>exact absurd hx hne
   | cons a b=>rfl
  have e4:Frz H' (clr (ownL 1 29 N)) (rvs (MT.next.map fun p=>(preN p 19).map Int.ofNat)):=by
   rw [own_lv,rvs,List.map_map]
   cases hx:MT.next with
   | nil =>
    have:N=[]:=List.eq_nil_of_length_eq_zero (by rw [hN.1,hx];rfl)
    rw [this]
    exact .same rfl
   | cons a b =>
    have hNn:N≠[]:=fun e=>by have:=hN.1;rw [e,hx] at this;simp at this
    have hl1:lv 1 true N=.sl 1 N .no:=by
     cases N with
     | nil=>exact absurd rfl hNn
     | cons x y=>rfl
    rw [hl1,← hx]
    have hl2:lv 1 true (MT.next.map ((nv ∘ fun p=>(preN p 19).map Int.ofNat)))=.sl 1 (MT.next.map ((nv ∘ fun p=>(preN p 19).map Int.ofNat))) .no:=by rw [hx];rfl
    rw [hl2]
    refine .sl (by rw [List.length_map,hN.1]) (fun j x hj=>?_) (fun j y hj=>?_) (fun j x y hj hy=>?_)
    ·have hjl:j<MT.next.length:=by rw [← hN.1];exact (List.getElem?_eq_some_iff.1 hj).1
     obtain ⟨bb,f1,f2⟩:=hN.2 j _ (List.getElem?_eq_getElem hjl)
     rw [hj] at f1
     cases f1
     exact ⟨rfl,rfl⟩
    ·rw [List.getElem?_map] at hj
     obtain ⟨q,hq,rfl⟩:=Option.map_eq_some_iff.1 hj
     simp only [Function.comp_apply,hrow q (List.mem_of_getElem? hq)]
     exact ⟨rfl,rfl⟩
    ·rw [List.getElem?_map] at hy
     obtain ⟨q,hq,rfl⟩:=Option.map_eq_some_iff.1 hy
     obtain ⟨bb,f1,f2⟩:=hN.2 j q hq
     rw [hj] at f1
     cases f1
     simp only [Function.comp_apply,hrow q (List.mem_of_getElem? hq)]
     have hf:=Frz.sr (H:=H') (b:=bb) (off:=0) (len:=(preN q 19).length) (cs:=(preN q 19).map natV) (t:=3) (by rw [← nth_eq];exact f2) (tops_mp (fun _=>rfl) _) (by simp)
     rwa [List.drop_zero,List.take_of_length_le (by simp)] at hf
  refine .tup rfl fun j x y hx hy=>?_
  match j,hx,hy with
  | 0,hx,hy =>
   cases hx;cases hy
   refine .agg rfl (fun i y hy=>?_) fun i x y hx hy=>?_
   ·have:∀ sz nl (l:List V),(lv sz nl l).one=true:=fun sz nl l=>by
     rcases lv_cases sz nl l with h|⟨_,h⟩<;>rw [h]<;>rfl
    match i,hy with
    | 0,hy=>cases hy;exact this ..
    | 1,hy=>cases hy;exact this ..
    | 2,hy=>cases hy;exact this ..
    | 3,hy=>cases hy;exact this ..
    | i+4,hy=>simp [foC] at hy
   ·match i,hx,hy with
    | 0,hx,hy=>cases hx;cases hy;exact .same (top_svs _)
    | 1,hx,hy=>cases hx;cases hy;exact .same (top_nv _)
    | 2,hx,hy=>cases hx;cases hy;exact .same (top_rvs _)
    | 3,hx,hy=>cases hx;cases hy;exact e4
    | i+4,hx,hy=>simp at hx
  | 1,hx,hy=>cases hx;cases hy;exact .same rfl
  | j+2,hx,hy=>simp at hx
noncomputable def gl1:Gl:={ g:=glw,hk:=fun f args=>if Nat.beq f 6 then (match args with|[]=>some (.bool true)|_=>none) else if Nat.beq f 7 then hkBy bV args else none }
theorem ok1:HooksOk Tryz.prog glw hooks1:=hooks_cons mixed numOk primOk hooks_nil (parse_run 0) rfl rfl
theorem ok2:HooksOk Tryz.prog glw (hooks2++hooks1):=hooks_cons mixed numOk primOk ok1 (read_run 0) rfl rfl
theorem ok3:HooksOk Tryz.prog glw ((6,[],.bool true)::(hooks2++hooks1)):=hooks_cons mixed numOk primOk ok2 (wakes_run 0) rfl rfl
theorem hk1:HkOk Tryz.prog gl1:=by
 refine ⟨fun f args v h d H g w cargs lc h1 h2 h3=>?_,fun n f args H out H' h=>(by cases h)⟩
 simp only [gl1] at h
 split at h
 ·rename_i hf
  obtain rfl:f=6:=Nat.eq_of_beq_eq_true hf
  split at h
  ·cases h
   exact ok3.pure 6 [] (.bool true) rfl d H g w cargs lc h1 h2 h3
  ·cases h
 ·split at h
  ·rename_i hf
   obtain rfl:f=7:=Nat.eq_of_beq_eq_true hf
   obtain ⟨nl,l,hg,rfl,rfl⟩:=hkBy_some h
   obtain ⟨u,H',hc,hz⟩:=build_known nl l hg
   exact hk_frz mixed numOk primOk hkb hc (by simp [tops,top_cores]) hz (fun sz xs e=>by simp [bV]) h1 h2 h3
  ·cases h
instance : NoU gl1:=⟨fun _=>rfl,fun _ _ _ _=>rfl⟩
theorem GL1:GL gl1 where
 top:=top_glw
 no:=fun f hf args=>by
  simp only [List.any_cons,List.any_nil,Bool.or_false,Bool.or_eq_false_iff] at hf
  simp only [gl1,hf.1,hf.2.1,Bool.false_eq_true,if_false]
theorem top_bV (l:List Cr):(bV l).top=0:=by
 have hz:tops zF=0:=rfl
 have hA:tops (bA l)=0:=by
  unfold bA
  cases (mayM l).2 with
  | false=>exact hz
  | true =>
   simp only [cond_true]
   split
   ·exact hz
   ·exact top_fo _
 have hE:(bE l).top=0:=by
  unfold bE
  cases (mayM l).2 with
  | false=>rfl
  | true=>simp only [cond_true];split<;>rfl
 simp [bV,V.top,tops,hA,hE]
end Go.Proofs.YtkbdcmehffmfpaaGreatDoor
namespace Go.Proofs.YtkbdcmehffmfpaaGreatDoor
set_option maxRecDepth 10000
open Go Go.Vm
theorem c45:Tryz.prog.cellsOf 45=10:=by kernel_rfl
theorem c47:Tryz.prog.cellsOf 47=21:=by kernel_rfl
theorem c41:Tryz.prog.cellsOf 41=4:=by kernel_rfl
theorem c39:Tryz.prog.cellsOf 39=1:=by kernel_rfl
theorem c43:Tryz.prog.cellsOf 43=1:=by kernel_rfl
theorem c9:Tryz.prog.cellsOf 9=1:=by kernel_rfl
theorem c3':Tryz.prog.cellsOf 3=1:=by kernel_rfl
theorem c4':Tryz.prog.cellsOf 4=1:=by kernel_rfl
theorem c22:Tryz.prog.cellsOf 22=1:=by kernel_rfl
theorem c23:Tryz.prog.cellsOf 23=1:=by kernel_rfl
theorem c197:Tryz.prog.cellsOf 197=1:=by kernel_rfl
theorem c25:Tryz.prog.cellsOf 25=2:=by kernel_rfl
theorem b47:Tryz.prog.bytesOf 47=216:=by kernel_rfl
theorem mk45 (cs:List V):mkEl Tryz.prog 45 cs=.agg cs:=by
 have:isAggT Tryz.prog 45=true:=by kernel_rfl
 simp only [mkEl,this,if_true]
theorem mk47 (cs:List V):mkEl Tryz.prog 47 cs=.agg cs:=by
 have:isAggT Tryz.prog 47=true:=by kernel_rfl
 simp only [mkEl,this,if_true]
theorem typed3 {n:Nat} {xs:List V} (h:Typed Tryz.prog n 3 xs):∃ z,xs=[.int .i64 z]:=by
 cases n with
 | zero=>exact h.elim
 | succ n =>
  simp only [Typed,Tryz.underlying3] at h
  obtain ⟨z,h,_⟩:=h;exact ⟨z,h⟩
theorem typed4 {n:Nat} {xs:List V} (h:Typed Tryz.prog n 4 xs):∃ b,xs=[.bool b]:=by
 cases n with
 | zero=>exact h.elim
 | succ n =>
  simp only [Typed,Tryz.underlying4] at h
  exact h
theorem typed39 {n:Nat} {xs:List V} (h:Typed Tryz.prog n 39 xs):∃ z,xs=[.int .u64 z]:=by
 cases n with
 | zero=>exact h.elim
 | succ n =>
  simp only [Typed,Tryz.underlying39] at h
  obtain ⟨z,h,_⟩:=h;exact ⟨z,h⟩
theorem typed9 {n:Nat} {xs:List V} (h:Typed Tryz.prog n 9 xs):∃ s,xs=[.str s]∧(∀ b∈s,b<256)∧s.length≤maxLen:=by
 cases n with
 | zero=>exact h.elim
 | succ n =>
  simp only [Typed,Tryz.underlying9] at h
  exact h
theorem typed41 {n:Nat} {xs:List V} (h:Typed Tryz.prog n 41 xs):∃ a b c d,xs=[.int .u64 a,.int .u64 b,.int .u64 c,.int .u64 d]:=by
 cases n with
 | zero=>exact h.elim
 | succ n =>
  simp only [Typed,Tryz.underlying41,c41,c39] at h
  obtain ⟨hl,h⟩:=h
  match xs,hl with
  | [x,y,z,w],_ =>
   obtain ⟨a,ha⟩:=typed39 (h 0 (by omega))
   obtain ⟨b,hb⟩:=typed39 (h 1 (by omega))
   obtain ⟨c,hc⟩:=typed39 (h 2 (by omega))
   obtain ⟨d,hd⟩:=typed39 (h 3 (by omega))
   simp at ha hb hc hd
   exact ⟨a,b,c,d,by rw [ha,hb,hc,hd]⟩
theorem encs_ex:∀ (ys:List V),(∀ y∈ys,∃ e,enc e=y∧Wf e∧Can e)→∃ l,encs l=ys∧Wfs l∧Cans l
 | [],_=>⟨[],rfl,trivial,trivial⟩
 | y::ys,h=>by
  obtain ⟨e,h1,h2,h5⟩:=h y List.mem_cons_self
  obtain ⟨l,h3,h4,h6⟩:=encs_ex ys fun z hz=>h z (List.mem_cons_of_mem _ hz)
  exact ⟨e::l,by simp [encs,h1,h3],⟨h2,h4⟩,h5,h6⟩
theorem list_ex {α:Type} {h:α→V} {Q:α→Prop}:∀ (ys:List V),(∀ y∈ys,∃ a,h a=y∧Q a)→∃ l:List α,l.map h=ys∧∀ a∈l,Q a
 | [],_=>⟨[],rfl,fun _ h=>by simp at h⟩
 | y::ys,hy=>by
  obtain ⟨a,h1,h2⟩:=hy y (List.mem_cons_self ..)
  obtain ⟨l,h3,h4⟩:=list_ex ys fun z hz=>hy z (List.mem_cons_of_mem _ hz)
  refine ⟨a::l,by simp [h1,h3],fun b hb=>?_⟩
  rcases List.mem_cons.1 hb with rfl|hb
  ·exact h2
  ·exact h4 b hb
mutual
theorem typedE:∀ (n:Nat) (xs:List V),Typed Tryz.prog n 45 xs→∃ e,enc e=.agg xs∧Wf e∧Can e
 | 0,_,h=>h.elim
 | n+1,xs,h=>by
  simp only [Typed,Tryz.underlying45,c45] at h
  obtain ⟨hl,h⟩:=h
  have f0:=h ⟨ "Op",3,0,false,"","",0⟩ (by simp)
  have f1:=h ⟨ "At",3,1,false,"","",8⟩ (by simp)
  have f2:=h ⟨ "Set",41,2,false,"","",16⟩ (by simp)
  have f3:=h ⟨ "Text",9,6,false,"","",48⟩ (by simp)
  have f4:=h ⟨ "Min",3,7,false,"","",64⟩ (by simp)
  have f5:=h ⟨ "Max",3,8,false,"","",72⟩ (by simp)
  have f6:=h ⟨ "Args",43,9,false,"","",80⟩ (by simp)
  clear h
  simp only [c3',c41,c9,c43] at f0 f1 f2 f3 f4 f5 f6
  match xs,hl with
  | [x0,x1,x2,x3,x4,x5,x6,x7,x8,x9],_ =>
   simp only [List.drop_succ_cons,List.drop_zero,List.take_succ_cons,List.take_zero] at f0 f1 f2 f3 f4 f5 f6
   obtain ⟨op,h0⟩:=typed3 f0
   obtain ⟨pl,h1⟩:=typed3 f1
   obtain ⟨a,b,c,d,h2⟩:=typed41 f2
   obtain ⟨s,h3,_,hs⟩:=typed9 f3
   obtain ⟨mn,h4⟩:=typed3 f4
   obtain ⟨mx,h5⟩:=typed3 f5
   obtain ⟨nl,l,h6,h7,h8,h9,h10⟩:=typedL n x9 f6
   simp only [List.cons.injEq,and_true] at h0 h1 h2 h3 h4 h5
   obtain ⟨rfl,rfl,rfl,rfl⟩:=h2
   subst h0 h1 h3 h4 h5 h6
   exact ⟨.mk op pl a b c d s mn mx nl l,rfl,⟨hs,h7,h8⟩,h10,h9⟩
theorem typedL:∀ (n:Nat) (v:V),Typed Tryz.prog n 43 [v]→∃ nl l,v=argV nl (encs l)∧l.length≤maxLen∧Wfs l∧Cans l∧(nl=true→l=[])
 | 0,_,h=>h.elim
 | n+1,v,h=>by
  simp only [Typed,Tryz.underlying43,c45] at h
  rcases h with h|⟨ys,h,⟨hl,_⟩,hy⟩
  ·simp only [List.cons.injEq,and_true] at h
   exact ⟨true,[],by rw [h];rfl,by simp,trivial,trivial,fun _=>rfl⟩
  ·simp only [List.cons.injEq,and_true] at h
   obtain ⟨l,h1,h2,h3⟩:=encs_ex ys fun y hyy=>by
    obtain ⟨cs,g1,g2⟩:=hy y hyy
    rw [mk45] at g2
    rw [g2]
    exact typedE n cs g1
   subst h1
   rw [encs_length] at hl
   exact ⟨false,l,by rw [h];rfl,hl,h2,h3,fun h=>by cases h⟩
end
theorem typed47 {n:Nat} {xs:List V} (h:Typed Tryz.prog n 47 xs):∃ c:Cr,crV c=.agg xs∧WfC c∧CanC c:=by
 cases n with
 | zero=>exact h.elim
 | succ n =>
  simp only [Typed,Tryz.underlying47,c47] at h
  obtain ⟨hl,h⟩:=h
  have f0:=h ⟨ "Head",45,0,false,"","",0⟩ (by simp)
  have f1:=h ⟨ "HasTrail",4,10,false,"","",104⟩ (by simp)
  have f2:=h ⟨ "Trail",45,11,false,"","",112⟩ (by simp)
  clear h
  simp only [c45,c4'] at f0 f1 f2
  rw [List.drop_zero] at f0
  obtain ⟨a,ha,wa,ka⟩:=typedE n _ f0
  obtain ⟨t,ht⟩:=typed4 f1
  obtain ⟨b,hb,wb,kb⟩:=typedE n _ f2
  refine ⟨(a,t,b),?_,⟨wa,wb⟩,ka,kb⟩
  rw [enc_cells,V.agg.injEq] at ha hb
  simp only [crV,crC,ha,hb]
  rw [V.agg.injEq,List.append_assoc,← ht]
  have e3:(xs.drop 11).take 10=xs.drop 11:=List.take_of_length_le (by simp;omega)
  have e4:xs.drop 11=(xs.drop 10).drop 1:=by rw [List.drop_drop]
  rw [e3,e4,List.take_append_drop,List.take_append_drop]
theorem typed22 {n:Nat} {v:V} (h:Typed Tryz.prog n 22 [v]):∃ nl l,v=coresV nl l∧l.length≤maxLen∧l.length * 216≤reachBytes∧(∀ c∈l,WfC c)∧∀ c∈l,CanC c:=by
 cases n with
 | zero=>exact h.elim
 | succ n =>
  simp only [Typed,Tryz.underlying22,c47,b47] at h
  rcases h with h|⟨ys,h,⟨hl,hb⟩,hy⟩
  ·simp only [List.cons.injEq,and_true] at h
   exact ⟨true,[],by rw [h];rfl,by simp,by simp,by simp,by simp⟩
  ·simp only [List.cons.injEq,and_true] at h
   obtain ⟨l,h1,h2⟩:=list_ex (h:=crV) (Q:=fun c=>WfC c∧CanC c) ys fun y hyy=>by
    obtain ⟨cs,g1,g2⟩:=hy y hyy
    rw [mk47] at g2
    rw [g2]
    exact typed47 g1
   subst h1
   rw [List.length_map] at hl hb
   refine ⟨false,l,by rw [h];rfl,hl,hb,fun c hc=>(h2 c hc).1,fun c hc=>(h2 c hc).2⟩
theorem typed197 {n:Nat} {cs:List V} (h:Typed Tryz.prog n 197 cs):∃ x,cs=[x]∧x.top=0:=by
 cases n with
 | zero=>exact h.elim
 | succ n =>
  simp only [Typed,Tryz.underlying197] at h
  rcases h with h|⟨ys,h,_,hy⟩
  ·exact ⟨_,h,rfl⟩
  ·obtain ⟨l,h1,_⟩:=list_ex (h:=V.int .u8) (Q:=fun _=>True) ys fun y hyy=>by
    obtain ⟨ds,g1,g2⟩:=hy y hyy
    have:isAggT Tryz.prog 5=false:=by kernel_rfl
    simp only [mkEl,this,Bool.false_eq_true,if_false] at g2
    cases n with
    | zero=>exact g1.elim
    | succ n =>
     simp only [Typed,Tryz.underlying5] at g1
     obtain ⟨z,hz,_⟩:=g1
     rw [hz] at g2
     exact ⟨z,g2.symm,trivial⟩
   subst h1
   exact ⟨_,h,by show tops _=0;exact tops_mp (fun _=>rfl) _⟩
theorem tops_all:∀ {l:List V},(∀ x∈l,x.top=0)→tops l=0
 | [],_=>rfl
 | x::l,h=>by simp [tops,h x (List.mem_cons_self ..),tops_all fun y hy=>h y (List.mem_cons_of_mem _ hy)]
theorem typed23 {n:Nat} {v:V} (h:Typed Tryz.prog n 23 [v]):Sx.kOk (.sl 1) v=true∧v.top=0∧clr v=v:=by
 cases n with
 | zero=>exact h.elim
 | succ n =>
  simp only [Typed,Tryz.underlying23,c197] at h
  rcases h with h|⟨ys,h,_,hy⟩
  ·simp only [List.cons.injEq,and_true] at h
   rw [h]
   exact ⟨rfl,rfl,rfl⟩
  ·simp only [List.cons.injEq,and_true] at h
   subst h
   refine ⟨rfl,?_,rfl⟩
   show tops ys=0
   refine tops_all fun y hyy=>?_
   obtain ⟨cs,g1,g2⟩:=hy y hyy
   obtain ⟨s,hs,ht⟩:=typed197 g1
   have:isAggT Tryz.prog 197=false:=by kernel_rfl
   simp only [mkEl,this,Bool.false_eq_true,if_false] at g2
   rw [hs] at g2
   rw [g2]
   exact ht
theorem typed25 {n:Nat} {xs:List V} (h:Typed Tryz.prog n 25 xs):∃ nl l tx,xs=[coresV nl l,tx]∧l.length≤maxLen∧l.length * 216≤reachBytes∧(∀ c∈l,WfC c)∧(∀ c∈l,CanC c)∧Sx.kOk (.sl 1) tx=true∧tx.top=0∧clr tx=tx:=by
 cases n with
 | zero=>exact h.elim
 | succ n =>
  simp only [Typed,Tryz.underlying25,c25] at h
  obtain ⟨hl,h⟩:=h
  match xs,hl with
  | [x,y],_ =>
   have f0:=h ⟨ "L",22,0,false,"","",0⟩ (by simp)
   have f1:=h ⟨ "Texts",23,1,false,"","",24⟩ (by simp)
   simp only [c22,c23,List.drop_succ_cons,List.drop_zero,List.take_succ_cons,List.take_zero] at f0 f1
   obtain ⟨nl,l,rfl,k1,k2,k3,k4⟩:=typed22 f0
   obtain ⟨k5,k6,k7⟩:=typed23 f1
   exact ⟨nl,l,y,rfl,k1,k2,k3,k4,k5,k6,k7⟩
end Go.Proofs.YtkbdcmehffmfpaaGreatDoor
namespace Go.Proofs.YtkbdcmehffmfpaaGreatDoor
set_option maxRecDepth 10000
open Go Go.Vm Go.Vm.Sx
theorem good_run {l:List Cr} (h:GdL l) (he:bE l=.nili):∃ k:Nat,mayM l=((k:Int),true)∧k≤1000∧k=nsetR (l.map crE)∧l.length≤200∧mayF 0 l=((k:Int),true)∧(∀ c∈l,nodes c.1≤1800∧nodes c.2.2≤1800)∧∀ e∈l.map crE,gd e=true:=by
 obtain ⟨p,ok,hpo⟩:∃ p ok,mayM l=(p,ok):=⟨_,_,rfl⟩
 rw [bE,hpo] at he
 cases ok with
 | false=>cases he
 | true =>
  simp only [cond_true] at he
  have hp:p≤1000:=by
   rcases Int.lt_or_le 1000 p with h|h
   ·rw [if_pos h] at he;cases he
   ·exact h
  have hlen:l.length≤200∧mayF 0 l=(p,true):=by
   unfold mayM at hpo
   cases hx:ltz 200 (l.length:Int) with
   | true=>rw [hx] at hpo;simp at hpo
   | false =>
    rw [hx] at hpo
    simp only [cond_false] at hpo
    refine ⟨?_,hpo⟩
    rcases Nat.lt_or_ge 200 l.length with hh|hh
    ·rw [ltz_t (by omega)] at hx;cases hx
    ·exact hh
  have hnod:∀ c∈l,nodes c.1≤1800∧nodes c.2.2≤1800:=by
   rcases h.nod with hh|hh
   ·omega
   ·exact hh
  obtain ⟨m1,_,m3⟩:=may_ok l 0 hnod (by omega) (by omega) (by rw [hlen.2]) (by rw [hlen.2];exact hp)
  rw [hlen.2] at m1
  simp only [Int.zero_add] at m1
  exact ⟨nsetR (l.map crE),by rw [hpo,m1],by omega,rfl,hlen.1,by rw [hlen.2,m1],hnod,m3⟩
theorem rulesM_len {n:Nat} (es:List E):∀ (r:Nat) (m:Mk),(rulesM n r es m).1.length=es.length:=by
 induction es with
 | nil=>intro r m;rfl
 | cons e es ih=>intro r m;simp only [rulesM,List.length_cons,ih]
theorem preN_len {p:Nat→Bool}:(preN p 19).length≤1216:=by
 have:=preL_len (p:=p) 19
 rw [preL_eq,List.length_map] at this
 omega
theorem rulesM_row {n:Nat} (es:List E):∀ (r:Nat) (m:Mk),∀ x∈(rulesM n r es m).1,x.length≤1216:=by
 induction es with
 | nil=>intro r m x h;cases h
 | cons e es ih =>
  intro r m x h
  simp only [rulesM] at h
  rcases List.mem_cons.1 h with h|h
  ·rw [h];simp only [ruleM];exact preN_len
  ·exact ih _ _ x h
theorem fo_ok {l:List Cr} (h:GdL l) (he:bE l=.nili):bA l=foC (foOf l)∧FoOk (foOf l):=by
 obtain ⟨k,h1,h2,h3,h4,_,_,h7⟩:=good_run h he
 have hA:bA l=foC (foOf l):=by
  rw [bA,h1]
  simp only [cond_true,if_neg (show ¬ (1000<(k:Int)) by omega)]
 refine ⟨hA,?_⟩
 obtain ⟨r1,_,r3⟩:=rules_inv (n:=k) (l.map crE) 0 m0 h7 ⟨rfl,rfl⟩ (by simp [m0];omega) (by rw [List.length_map];omega) (fun x hx=>by simp [m0] at hx)
 have hm:1216≤maxLen:=by decide
 have hf:foOf l=⟨(rulesM k 0 (l.map crE) m0).2.sets,(rulesM k 0 (l.map crE) m0).2.rules,(rulesM k 0 (l.map crE) m0).1.map (·.map Int.ofNat),(rulesM k 0 (l.map crE) m0).2.next.map fun p=>(preN p 19).map Int.ofNat⟩:=by
  rw [foOf,h1]
  simp only [Int.toNat_natCast]
 have e0:m0.sets.length=0:=rfl
 rw [hf]
 refine ⟨?_,?_,⟨?_,?_⟩,?_,?_⟩
 ·show (rulesM k 0 (l.map crE) m0).2.sets.length≤_
  omega
 ·show (rulesM k 0 (l.map crE) m0).2.rules.length≤_
  rw [r3.r];omega
 ·show ((rulesM k 0 (l.map crE) m0).1.map _).length≤_
  rw [List.length_map,rulesM_len,List.length_map];omega
 ·intro x hx
  obtain ⟨y,hy,rfl⟩:=List.mem_map.1 hx
  rw [List.length_map]
  have:=rulesM_row _ _ _ y hy
  omega
 ·show ((rulesM k 0 (l.map crE) m0).2.next.map _).length≤_
  rw [List.length_map,r3.n];omega
 ·intro x hx
  obtain ⟨y,hy,rfl⟩:=List.mem_map.1 hx
  rw [List.length_map]
  have:=preN_len (p:=y)
  omega
theorem BV_ok (l:List Cr):BV (bA l) (bE l):=by
 have hz:∃ a b c d,zF=[a,b,c,d]∧kOk (.sl 4) a=true∧kOk (.sl 1) b=true∧kOk (.sl 1) c=true∧kOk (.sl 1) d=true∧clr a=a∧clr b=b∧clr c=c∧clr d=d:=⟨_,_,_,_,rfl,rfl,rfl,rfl,rfl,rfl,rfl,rfl,rfl⟩
 constructor
 ·unfold bA
  cases (mayM l).2 with
  | false=>exact hz
  | true =>
   simp only [cond_true]
   split
   ·exact hz
   ·exact ⟨_,_,_,_,rfl,k_svs _,k_nv _,k_rvs _,k_rvs _,clr_svs _,clr_nv _,clr_rvs _,clr_rvs _⟩
 ·unfold bE
  cases (mayM l).2 with
  | false=>exact .inr ⟨_,_,rfl⟩
  | true =>
   simp only [cond_true]
   split
   ·exact .inr ⟨_,_,rfl⟩
   ·exact .inl rfl
end Go.Proofs.YtkbdcmehffmfpaaGreatDoor
namespace Go.Proofs.YtkbdcmehffmfpaaGreatDoor
set_option maxRecDepth 100000
open Go Go.Vm
def S0:List TypeId:=[3,4,5,9,39,41,43,45,47,22,23,197,25]
theorem closed0:S0.all (closedT Tryz.prog S0)=true:=by kernel_rfl
theorem rc_agg {g:Gh} {xs:List V} {cs:Array Value} (h:RC g xs cs.toList):RelV g (.agg xs) (.agg cs):=by
 refine .agg (by rw [RC.length h,Array.length_toList]) (fun j x hx=>?_) fun j x v hx hv=>?_
 ·obtain ⟨v,_,hg⟩:=h.get j x hx
  exact hg.1
 ·obtain ⟨v',hv',hg⟩:=h.get j x hx
  rw [Array.getElem?_toList,hv] at hv'
  cases hv'
  exact hg.2.1
theorem rc_tops {g:Gh}:∀ {xs:List V} {cs:List Value},RC g xs cs→tops xs=0
 | [],[],_=>rfl
 | x::xs,v::cs,h=>by simp [tops,h.1.2.2.1,rc_tops h.2]
 | [],_::_,h=>h.elim
 | _::_,[],h=>h.elim
end Go.Proofs.YtkbdcmehffmfpaaGreatDoor
namespace Go.Proofs.YtkbdcmehffmfpaaGreatDoor
set_option maxRecDepth 10000
open Go Go.Vm Go.Vm.Sx
variable {gl:Gl} [NoU gl]
theorem lent40:lentP Tryz.prog Tryz.f40.params.toList=some []:=by kernel_rfl
theorem lent22:lentP Tryz.prog Tryz.f22.params.toList=some []:=by kernel_rfl
theorem lent9:lentP Tryz.prog Tryz.f9.params.toList=some []:=by kernel_rfl
theorem par29 {x:V}:ParOk Tryz.prog [29] [.d x] 0:=by
 refine ⟨fun e=>?_,trivial⟩
 rw [Tryz.underlying29];simp
theorem par30 {x:V}:ParOk Tryz.prog [30] [.d x] 0:=by
 refine ⟨fun e=>?_,trivial⟩
 rw [Tryz.underlying30];simp
theorem par9 {a b c d e f:V}:ParOk Tryz.prog [32,29,29,3,3,3] [.d a,.d b,.d c,.d d,.d e,.d f] 0:=by
 refine ⟨fun e=>?_,fun e=>?_,fun e=>?_,fun e=>?_,fun e=>?_,fun e=>?_,trivial⟩
 ·rw [Tryz.underlying32];simp
 ·rw [Tryz.underlying29];simp
 ·rw [Tryz.underlying29];simp
 ·rw [Tryz.underlying3];simp
 ·rw [Tryz.underlying3];simp
 ·rw [Tryz.underlying3];simp
theorem appV_nil (sz:Nat) (e:TypeId) (l:List V):appV .snil sz e l=acc sz e l:=by cases l<;>rfl
theorem ev40 (hgl:GL gl) (l:List Int) (hl:l.length≤4000):Ev Tryz.prog gl 40 [.d (nv l)] [] (acc 1 3 (l.map (.int .i64))) []:=by
 refine fun_pure (xs:=[nv l]) hgl.top (hgl.no 40 rfl) tree40_ok Tryz.func40 lent40 par29 (by simp [tops,top_nv]) (N:=1) ?_
 have h1:roomA l.length 8=true:=Sx.roomA_of (by omega) (by omega)
 simp only [tree40]
 simp only [ev_need,ev_out,ev_letv,ev_kin,at_z,at_s,cons_app,nil_app,evB,evL,evCs,evC,evSC,evVE,k_nv,vL_nv,h1,appV_nil,List.length_map]
theorem ev22 (hgl:GL gl) (l:List (List Int)) (hl:l.length≤4000) (hw:∀ x∈l,x.length≤4000):Ev Tryz.prog gl 22 [.d (rvs l)] [] (acc 1 29 (l.map nv)) []:=by
 refine fun_pure (xs:=[rvs l]) hgl.top (hgl.no 22 rfl) tree22_ok Tryz.func22 lent22 par30 (by simp [tops,top_rvs]) (N:=l.length+1) ?_
 simp only [tree22]
 simp only [ev_kin,ev_loop,at_z,evI,evCs,evC,k_rvs]
 refine loopT_up (st:=fun i=>[acc 1 29 ((l.take i).map nv),.int .i64 (i:Int)]) (m:=l.length) (fun i hi=>?_) ?_ (by omega)
 ·obtain ⟨q,hq⟩:∃ q,l[i]?=some q:=⟨l[i],by simp [hi]⟩
  have hc:=phE_eq (ev40 hgl q (hw q (List.mem_of_getElem? hq)))
  have h1:=ltn_t hi
  have h2:=nth_mp (h:=nv) hq
  have h4:=wrapS (i:=i) (by omega)
  have h5:roomA (((l.take i).map nv)++[nv q]).length 24=true:=Sx.roomA_of (by simp;omega) (by simp;omega)
  have h6:(l.take (i+1)).map nv=(l.take i).map nv++[nv q]:=by
   rw [List.take_add_one,hq];simp
  have h7:clr (acc 1 3 (q.map (.int .i64)))=nv q:=acc_clr ..
  have h8:ltz (i:Int) 0=false:=ltn_0
  have h9:kOk (.sl 1) (nv q)=true:=k_nv q
  rw [h6,← acc_snoc]
  simp only [lp22_1]
  simp only [ev_t,ev_need,ev_out,ev_letv,ev_elem,ev_kin,ev_call,at_z,at_s,ks_nil,Bool.and_self,bif_t,bif_f,cons_app,nil_app,evB,evI,evL,evCs,evC,evSC,evAs,evA,evLent,evVE,vI_int,cm_lss,biI,joinL,sizesOk,vL_rvs,h1,h2,h4,h5,h7,h8,h9,hc,k_acc,clr_nv,acc_own,acc_vL,List.length_map,Int.toNat_natCast]
 ·have h1:=ltn_f (Nat.le_refl l.length)
  have h2:(l.take l.length).map nv=l.map nv:=by rw [List.take_length]
  simp only [lp22_1]
  simp only [ev_f,ev_out,ev_esc,ev_letv,at_z,at_s,cons_app,nil_app,evB,evI,evL,evCs,evC,evSC,evVE,vI_int,cm_lss,vL_rvs,h1,h2,List.length_map]
theorem ev9 (hgl:GL gl) (F:Fo) (a:List Int) (φ:Int→Int) (base r n:Int) (ha:a.length≤4000) (hF:F.s.length≤4000) (hb:0≤base∧base≤4000) (hr:0≤r∧r≤4000) (hx:∀ x∈a,0≤x∧x≤4000)
  (hφ:∀ x,φ x=if x=n then (F.s.length:Int)+r else x+base):Ev Tryz.prog gl 9 [.d (foV F),.d (nv a),.d (nv (a.map φ)),.d (.int .i64 base),.d (.int .i64 r),.d (.int .i64 n)] [] (.bool true) []:=by
 refine fun_pure (xs:=[foV F,nv a,nv (a.map φ),.int .i64 base,.int .i64 r,.int .i64 n]) hgl.top (hgl.no 9 rfl) tree9_ok Tryz.func9 lent9 par9 (by simp [tops,V.top,top_nv,top_fo]) (N:=a.length+1) ?_
 simp only [tree9,foV,foC]
 simp only [ev_f,ev_opn,ev_kin,ev_loop,at_z,at_s,ks_cons,kInt,ks_nil,Bool.and_self,Bool.not_true,bif_t,cons_app,nil_app,evB,evI,evL,evCs,evC,cm_eql,k_nv,k_svs,k_rvs,vL_nv,List.length_map,beq_self_eq_true]
 refine loopT_up (st:=fun i=>[.int .i64 (i:Int)]) (m:=a.length) (fun i hi=>?_) ?_ (by omega)
 ·obtain ⟨q,hq⟩:∃ q,a[i]?=some q:=⟨a[i],by simp [hi]⟩
  have hq':(a.map φ)[i]?=some (φ q):=by rw [List.getElem?_map,hq];rfl
  obtain ⟨q0,q1⟩:=hx q (List.mem_of_getElem? hq)
  have h1:=ltn_t hi
  have h2:=nth_mp (h:=V.int .i64) hq
  have h3:=nth_mp (h:=V.int .i64) hq'
  have h4:=wrapS (i:=i) (by omega)
  have h5:IntKind.i64.wrap ((F.s.length:Int)+r)=(F.s.length:Int)+r:=w64 (by omega) (by omega)
  have h6:IntKind.i64.wrap (q+base)=q+base:=w64 (by omega) (by omega)
  have h8:ltz (i:Int) 0=false:=ltn_0
  simp only [lp9_1]
  by_cases hn:q=n
  ·have e1:φ q=(F.s.length:Int)+r:=by rw [hφ,if_pos hn]
   have e2:(q == n)=true:=beq_iff_eq.2 hn
   simp only [ev_t,ev_f,ev_out,ev_elem,ev_kin,at_z,at_s,kInt,Bool.not_true,bif_f,cons_app,nil_app,evB,evI,evL,evCs,evC,vI_int,cm_lss,cm_eql,biI,vL_nv,vL_svs,h1,h2,h3,h4,h5,h8,e1,e2,List.length_map,Int.toNat_natCast,beq_self_eq_true]
  ·have e1:φ q=q+base:=by rw [hφ,if_neg hn]
   have e2:(q == n)=false:=beq_eq_false_iff_ne.2 hn
   simp only [ev_t,ev_f,ev_out,ev_elem,ev_kin,at_z,at_s,kInt,Bool.not_true,bif_f,cons_app,nil_app,evB,evI,evL,evCs,evC,vI_int,cm_lss,cm_eql,biI,vL_nv,h1,h2,h3,h4,h6,h8,e1,e2,List.length_map,Int.toNat_natCast,beq_self_eq_true]
 ·have h1:=ltn_f (Nat.le_refl a.length)
  simp only [lp9_1]
  simp only [ev_f,ev_out,ev_esc,ev_letv,at_z,at_s,cons_app,nil_app,evB,evI,evL,evCs,evC,evSC,evVE,vI_int,cm_lss,vL_nv,h1,List.length_map]
end Go.Proofs.YtkbdcmehffmfpaaGreatDoor
namespace Go.Proofs.YtkbdcmehffmfpaaGreatDoor
set_option maxRecDepth 100000
open Go Go.Vm Go.Vm.Sx
theorem u30:Tryz.prog.underlying 30=some (.slice 29):=by kernel_rfl
theorem u29:Tryz.prog.underlying 29=some (.slice 3):=by kernel_rfl
theorem u28:Tryz.prog.underlying 28=some (.slice 41):=by kernel_rfl
theorem ag3':aggT Tryz.prog 3=some false:=by kernel_rfl
theorem sz3':szOf Tryz.prog 3=some 1:=by kernel_rfl
theorem len_lv {H:Hp} {t e:TypeId} {sz:Nat} {nl:Bool} {l:List V} (hu:Tryz.prog.underlying t=some (.slice e)):lenA Tryz.prog H t (lv sz nl l)=some (l.length:Int):=by
 rcases lv_cases sz nl l with h|⟨h0,h⟩<;>rw [h]
 ·simp [lenA,hu]
 ·simp [lenA,hu,h0]
theorem idx_row {l:List V} {k:Nat} {v:V} (h:nth l k=some v) (hv:v.cells=[v]):indexAddrA Tryz.prog 30 (.sl 1 l .no) (k:Int)=some (.vp [v]):=by
 have hk:¬ ((k:Int)<0):=by omega
 simp [indexAddrA,sz29,hk,h,hv]
theorem idx_int {l:List Int} {k:Nat} {x:Int} (h:l[k]?=some x):indexAddrA Tryz.prog 29 (nv l) (k:Int)=some (.vp [.int .i64 x]):=by
 have hk:¬ ((k:Int)<0):=by omega
 have hn:nth (l.map (V.int .i64)) k=some (.int .i64 x):=nth_mp h
 have hne:nv l=.sl 1 (l.map (.int .i64)) .no:=by
  cases l with
  | nil=>simp at h
  | cons a l=>rfl
 rw [hne]
 simp [indexAddrA,sz3',hk,hn,V.cells]
theorem ld_row {H:Hp} {g:Nat→Nat→Option V} {t:TypeId} {v:V} (ha:aggT Tryz.prog t=some false):loadA Tryz.prog H g t (.vp [v])=some v:=by
 simp [loadA,partA_eq,ha,nth,partO]
theorem nv_cells (l:List Int):(nv l).cells=[nv l]:=by cases l<;>rfl
theorem foC_clr (F:Fo):(foC F).map clr=foC F:=by simp [foC,clr_svs,clr_nv,clr_rvs]
theorem valC_of {cx:Cx} {takes:List Tmp} {o:Oper} {env:List V} {v:V} {c:Cfg} {s:St} (h:cx.op takes o env c.H c.lk c.df=some (.val v,s)):cx.valC takes o env v c=true:=by
 simp only [Cx.valC,Cx.runC,h,V.same_refl]
theorem allA_one {α:Type} {f:α→Bool} {q:α} (h:f q=true):allA f [q]=true:=by simp only [allA,h]
theorem look_true {b x:Bool} (h:x=true):(match b with|true=>x|false=>true)=true:=by cases b<;>simp [h]
theorem go_ongT {cx:Cx} {n:Nat} {Q:Ex→St→Prop} {all:Array Oper} {takes:List Tmp} {os:List Oper} {k:List It} {env:List V} {H:Hp} {lk:List (Nat×Nat)} {df:List (V×List V)} {dst:Option Tmp} {op:Op} {type:TypeId} {pos:String} {after:Array Edge} {g:Nat×Bool} (hw:wantedA all ⟨dst,op,type,pos,after,some g⟩ env=some true) :
  go cx n Q (.on all takes (⟨dst,op,type,pos,after,some g⟩::os)::k) .normal ⟨env,H,lk,df⟩ ↔ (ldChk cx ⟨dst,op,type,pos,after,some g⟩ env lk=true∧opQ dst (fun s=>go cx n Q (.on all takes os::k) .normal s) (fun _ _=>False) (cx.op takes ⟨dst,op,type,pos,after,some g⟩ env H lk df)):=by
 rw [go_ong,hw];rfl
structure Rng (F:Fo):Prop where
 n:F.n.length=F.s.length
 r:F.r.length=F.s.length
 f:F.f≠[]
 ns:F.s.length≤1500
 nf:F.f.length≤1500
 row:∀ x∈F.n++F.f,x.length≤4000∧∀ y∈x,0≤y∧y<(F.s.length:Int)+(F.f.length:Int)
set_option maxHeartbeats 4000000 in
theorem ranged_run {F:Fo} (h:Rng F):∃ n H',callA Tryz.prog gl0 n 8 [foV F] ⟨[],[]⟩=some (.ret (.bool true),H'):=by
 have hns:=h.ns
 have hnf:=h.nf
 obtain ⟨k0,hk0⟩:=Sx.Ev.run (xs:=[rvs F.n]) (ev22 GL0 F.n (by rw [h.n];omega) fun x hx=>(h.row x (List.mem_append_left _ hx)).1) ⟨[.cells (foC F) 32],[]⟩
 obtain ⟨n,hn,hnk⟩:∃ n,20000≤n∧k0≤n:=⟨k0+20000,by omega,by omega⟩
 have hc22:Cx.callF ⟨Tryz.prog,gl0.g,callA Tryz.prog gl0 n,gl0.uq⟩ 22 [rvs F.n] ⟨[.cells (foC F) 32],[]⟩=some (.val (Sx.acc 1 29 (F.n.map nv)),⟨[.cells (foC F) 32],[]⟩):=callF_run Tryz.func22 rfl (hk0 n hnk)
 suffices hmain:(go ⟨Tryz.prog,gl0,callA Tryz.prog gl0 n,gl0.uq⟩ n (Fx Tryz.prog Tryz.f8.results.toList fun w H1=>w=.bool true) [.c (Tryz.f8.body.getD .skip)] .normal ⟨[foV F]++List.replicate 67 (.tup []),⟨[],[]⟩,[],[]⟩) by
  obtain ⟨w,H1,h0,h1⟩:=go_intro' (gl:=gl0) (f:=8) (bs:=[]) (es:=[]) (args:=[foV F]) (n:=n) rfl (fun H=>rfl) Tryz.func8 rfl hmain
  rw [h1] at h0
  exact ⟨_,_,h0⟩
 obtain ⟨H0,hH0⟩:∃ H0:Hp,H0=⟨[.cells (foC F) 32],[]⟩:=⟨_,rfl⟩
 have hg0:H0.get 0=some (.cells (foC F) 32):=by rw [hH0];rfl
 have hl3:loadA Tryz.prog H0 gl0.g 30 (.ptr 0 3)=some (rvs F.n):=load_one ag30 hg0 rfl
 have hl2:loadA Tryz.prog H0 gl0.g 30 (.ptr 0 2)=some (rvs F.f):=load_one ag30 hg0 rfl
 have hl1:loadA Tryz.prog H0 gl0.g 29 (.ptr 0 1)=some (nv F.r):=load_one ag29 hg0 rfl
 have hl0:loadA Tryz.prog H0 gl0.g 28 (.ptr 0 0)=some (svs F.s):=load_one ag28 hg0 rfl
 have len30:∀ l,lenA Tryz.prog H0 30 (rvs l)=some (l.length:Int):=fun l=>by rw [rvs,len_lv u30,List.length_map]
 have len29:∀ l,lenA Tryz.prog H0 29 (nv l)=some (l.length:Int):=fun l=>by rw [nv,len_lv u29,List.length_map]
 have len28:∀ l,lenA Tryz.prog H0 28 (svs l)=some (l.length:Int):=fun l=>by rw [svs,len_lv u28,List.length_map]
 simp only [Tryz.f8,Option.getD_some,go_seq,foV]
 refine go_reg' (tk:=[]) (by kernel_rfl) ?_
 simp only [go_os,go_os_nil,go_seq,op_box,op_assign,take_tmp,take_const,ofVal,takeV_agg,tkQ_some,opQ_val,putA,Option.map_some,push_mk,List.length_nil,List.cons_append,List.nil_append,nth_cons0,List.set_cons_zero,List.set_cons_succ,boxQ_some (show okC (.agg (foC F))=true from rfl),V.laid,foC_clr,List.replicate]
 rw [← hH0]
 refine go_reg' (tk:=[]) (by kernel_rfl) ?_
 simp only [go_os,op_move0,op_load0,op_binOp,op_fieldAddr2,op_len,peek,rdQ_some,opQ_val,putA,clr_int,clr_bool,clr_ptr,Option.bind_some,Option.map_some,faddrO_some,faddrV,Nat.zero_add,Nat.add_zero,nth_cons0,nth_cons,List.set_cons_zero,List.set_cons_succ,fo32_3,fo32_0,hl3,hl0,clr_rvs,clr_svs,len30,len28,bin_neq,h.n,bne_self_eq_false]
 simp only [go_os,go_os_nil,go_seq,go_skip,op_load0,op_binOp,op_pick,op_fieldAddr2,op_len,peek,ofVal,rdQ_some,opQ_val,putA,clr_int,clr_bool,clr_ptr,Option.bind_some,Option.map_some,faddrO_some,faddrV,true_and,Nat.zero_add,Nat.add_zero,go_cond',condQ_b,pickV_f,nth_cons0,nth_cons,List.set_cons_zero,List.set_cons_succ,go_osg,wanted_nth,wantO_s,wantB_ff,gdQ_t,fo32_0,fo32_1,hl0,hl1,clr_svs,clr_nv,len29,len28,bin_neq,h.r,bne_self_eq_false]
 simp only [Bool.false_eq_true,false_and,false_or]
 rw [← hH0] at hc22
 have hne:Sx.acc 1 29 (F.n.map nv)=ownL 1 29 (F.n.map nv):=by cases F.n<;>rfl
 rw [hne] at hc22
 have hff:rvs F.f=.sl 1 (F.f.map nv) .no:=by
  have:=h.f
  cases hx:F.f with
  | nil=>exact absurd hx this
  | cons a l=>rfl
 have hffne:F.f.map nv≠[]:=fun e=>h.f (List.map_eq_nil_iff.1 e)
 have happ:=append_own r30 (H:=H0) (xs:=F.n.map nv) (ys:=F.f.map nv) (o:=.no) hffne (Sx.roomA_of (by simp [h.n];omega) (by simp [h.n];omega))
 rw [← hff,← List.map_append] at happ
 have hR:ownL 1 29 ((F.n++F.f).map nv)=.sl 1 ((F.n++F.f).map nv) (.yes 29):=by
  cases hx:(F.n++F.f) with
  | nil=>exact absurd (List.append_eq_nil_iff.1 hx).2 h.f
  | cons a l=>rfl
 rw [hR] at happ
 refine go_drawR (tk:=[24]) (by kernel_rfl) ?_
 apply Exists.intro
 apply And.intro
 refine opsD_free (m:=0) (v:=.ptr 0 3) (by kernel_rfl) rfl (by simp only [op_fieldAddr2,peek,rdQ_some,clr_ptr,Option.bind_some,faddrO_some,faddrV,Nat.zero_add,nth_cons0,nth_cons,fo32_3];rfl) (by kernel_rfl) (by kernel_rfl) (by kernel_rfl) ?_
 dsimp only [putA]
 refine opsD_look (m:=1) (v:=rvs F.n) (by kernel_rfl) rfl (by simp only [op_load1,ne_eq,Nat.reduceEqDiff,not_false_eq_true,peek,rdQ_some,clr_ptr,Option.bind_some,Option.map_some,nth_cons0,nth_cons,List.set_cons_zero,List.set_cons_succ,hl3,clr_rvs];rfl) (by kernel_rfl) (by kernel_rfl) (by kernel_rfl) (by kernel_rfl) ?_
 dsimp only [putA]
 refine opsD_heap (m:=3) (v:=ownL 1 29 (F.n.map nv)) (cs':=[⟨4,H0,[],[]⟩,⟨0,H0,[],[]⟩]) (by kernel_rfl) rfl (by simp only [op_call,peeks,fV_eq,peek,callG_some,callQ,List.map_cons,List.map_nil,nth_cons0,nth_cons,List.set_cons_zero,List.set_cons_succ,hc22,clr_rvs];rfl) (by kernel_rfl) (by kernel_rfl) (by kernel_rfl) (fun K=>?_) ?_
 rotate_left
 dsimp only [putA]
 refine opsD_free (m:=0) (v:=.ptr 0 2) (by kernel_rfl) rfl (by simp only [op_fieldAddr2,peek,rdQ_some,clr_ptr,Option.bind_some,faddrO_some,faddrV,Nat.zero_add,nth_cons0,nth_cons,List.set_cons_zero,List.set_cons_succ,fo32_2];rfl) (by kernel_rfl) (by kernel_rfl) (by kernel_rfl) ?_
 dsimp only [putA]
 refine opsD_look (m:=8) (v:=rvs F.f) (by kernel_rfl) rfl (by simp only [op_load1,ne_eq,Nat.reduceEqDiff,not_false_eq_true,peek,rdQ_some,clr_ptr,Option.bind_some,Option.map_some,nth_cons0,nth_cons,List.set_cons_zero,List.set_cons_succ,hl2,clr_rvs];rfl) (by kernel_rfl) (by kernel_rfl) (by kernel_rfl) ?_ ?_
 rotate_left
 dsimp only [putA]
 refine opsD_look (m:=31) (v:=.sl 1 ((F.n++F.f).map nv) (.yes 29)) (by kernel_rfl) rfl (by simp only [peek,take_tmp,takeV_own,Option.bind_some,if_true,nth_cons0,nth_cons,List.set_cons_zero,List.set_cons_succ,appQ,clr_rvs,happ,op_append (cx:=⟨Tryz.prog,gl0.g,callA Tryz.prog gl0 n,gl0.uq⟩) (show uqT Tryz.prog gl0.uq 30=false by kernel_rfl)];rfl) (by kernel_rfl) (by kernel_rfl) (by kernel_rfl) (by kernel_rfl) ?_
 dsimp only [putA]
 refine opsD_free (m:=63) (v:=.sl 1 ((F.n++F.f).map nv) (.yes 29)) (by kernel_rfl) rfl (by simp only [op_assign,take_tmp,nth_cons0,nth_cons,List.set_cons_zero,List.set_cons_succ];rfl) (by kernel_rfl) (by kernel_rfl) (by kernel_rfl) opsD_nil
 ·clear hk0 happ hc22 hne hff hffne hR
  have hrow:=h.row
  have hRl:(F.n++F.f).length≤3000:=by rw [List.length_append,h.n];omega
  generalize F.n++F.f=R at *
  have lenR:lenA Tryz.prog H0 30 (.sl 1 (R.map nv) .no)=some (R.length:Int):=by simp [lenA]
  simp only [putA,go_seq]
  refine go_reg' (tk:=[]) (by kernel_rfl) ?_
  simp only [go_os,go_os_nil,go_block,op_assign,take_const,ofVal,tkQ_some,opQ_val,putA,Option.map_some,List.set_cons_zero,List.set_cons_succ]
  refine go_loop (fun m s=>∃ i env,m+i=R.length∧s=⟨env,H0,[],[]⟩∧env.length=68∧nth env 1=some (.ptr 0 0)∧nth env 3=some (.sl 1 (R.map nv) (.yes 29))∧nth env 4=some (.int .i64 (i:Nat))) R.length (by omega) ⟨0,_,rfl,rfl,rfl,rfl,rfl,rfl⟩ ?_
  rintro m s ⟨i,env,hmi,rfl,hlen,h1,h3,h4⟩
  simp only [go_seq]
  refine go_reg' (tk:=[]) (by kernel_rfl) ?_
  simp only [go_os,go_os_nil,go_seq,go_skip,go_block,op_move0,op_binOp,op_len,Nat.reduceEqDiff,peek,rdQ_some,opQ_val,putA,clr_int,clr_bool,clr_sl,Option.bind_some,Option.map_some,go_cond',condQ_b,if_true,nth_set,List.length_set,Nat.reduceLT,if_true,if_false,h3,h4,hlen,lenR,bin_lss]
  by_cases hi:i<R.length
  ·refine .inl ⟨by simp;omega,?_⟩
   obtain ⟨row,hq⟩:∃ q,R[i]?=some q:=⟨R[i],by simp [hi]⟩
   obtain ⟨hrl,hry⟩:=hrow row (List.mem_of_getElem? hq)
   have hix:indexAddrA Tryz.prog 30 (.sl 1 (R.map nv) .no) (i:Int)=some (.vp [nv row]):=idx_row (nth_mp hq) (nv_cells row)
   have hld:loadA Tryz.prog H0 gl0.g 29 (.vp [nv row])=some (nv row):=ld_row ag29
   try simp only [go_skip,go_seq,go_block]
   refine go_reg' (tk:=[]) (by kernel_rfl) ?_
   simp only [go_os,go_os_nil,go_block,op_assign,take_const,ofVal,tkQ_some,opQ_val,putA,Option.map_some]
   refine go_loop (fun m s=>∃ k env,m+k=row.length∧s=⟨env,H0,[],[]⟩∧env.length=68∧nth env 1=some (.ptr 0 0)∧nth env 3=some (.sl 1 (R.map nv) (.yes 29))∧nth env 4=some (.int .i64 (i:Nat))∧nth env 5=some (.int .i64 (k:Nat))) row.length (by omega) ⟨0,_,rfl,rfl,?_,?_,?_,?_,?_⟩ ?_
   ·simp [hlen]
   ·simp [nth_set,h1]
   ·simp [nth_set,h3]
   ·simp [nth_set,h4]
   ·simp [nth_set,hlen]
   clear h1 h3 h4 hlen
   rintro m2 s ⟨k,env,hmk,rfl,hlen,h1,h3,h4,h5⟩
   simp only [go_seq]
   refine go_reg' (tk:=[]) (by kernel_rfl) ?_
   simp only [go_os,go_os_nil,go_seq,go_skip,go_block,op_move0,op_load0,op_binOp,op_indexAddr,op_len,Nat.reduceEqDiff,peek,rdQ_some,opQ_val,putA,clr_int,clr_bool,clr_vp,clr_sl,Option.bind_some,Option.map_some,idxV,go_cond',condQ_b,if_true,nth_set,List.length_set,Nat.reduceLT,if_true,if_false,h3,h4,h5,hlen,idxV,hix,hld,clr_nv,len29,bin_lss]
   by_cases hk:k<row.length
   ·refine .inl ⟨by simp;omega,?_⟩
    obtain ⟨y,hy⟩:∃ y,row[k]?=some y:=⟨row[k],by simp [hk]⟩
    obtain ⟨y0,y1⟩:=hry y (List.mem_of_getElem? hy)
    have hiy:indexAddrA Tryz.prog 29 (nv row) (k:Int)=some (.vp [.int .i64 y]):=idx_int hy
    have hly:loadA Tryz.prog H0 gl0.g 3 (.vp [.int .i64 y])=some (.int .i64 y):=ld_row ag3'
    have hadd:∀ u v,binV Tryz.prog .add 3 u v (some (.int .i64 (F.s.length:Int))) (some (.int .i64 (F.f.length:Int)))=some (.int .i64 ((F.s.length+F.f.length:Nat):Int)):=fun u v=>bin_addI (by omega)
    have hgeq:∀ u v,binV Tryz.prog .geq 3 u v (some (.int .i64 y)) (some (.int .i64 ((F.s.length+F.f.length:Nat):Int)))=some (.bool false):=fun u v=>by
     have:binV Tryz.prog .geq 3 u v (some (.int .i64 y)) (some (.int .i64 ((F.s.length+F.f.length:Nat):Int)))=some (.bool (decide (((F.s.length+F.f.length:Nat):Int)≤y))):=rfl
     rw [this,decide_eq_false (by omega)]
    have f1:decide (y<0)=false:=decide_eq_false (by omega)
    have f2:decide ((F.s.length:Int)+(F.f.length:Int)≤y)=false:=decide_eq_false (by omega)
    try simp only [go_skip,go_seq,go_block]
    refine go_draw' (tk:=[]) (by kernel_rfl) (by kernel_rfl) ?_
    simp only [go_on,go_on_nil,go_seq,go_skip,go_eb,op_move0,op_load0,op_binOp,op_pick,op_fieldAddr2,op_indexAddr,op_len,Nat.reduceEqDiff,peek,ofVal,rdQ_some,opQ_val,putA,clr_int,clr_bool,clr_ptr,clr_vp,clr_sl,Option.bind_some,Option.map_some,faddrO_some,faddrV,idxV,true_and,Nat.zero_add,Nat.add_zero,go_cond',condQ_b,ldChk,if_true,pickV_f,nth_set,List.length_set,Nat.reduceLT,if_true,if_false,go_ongT,wanted_nth,wantO_s,wantB_ff,nth_cons0,nth_cons,hadd,hgeq,h1,h3,h4,h5,hlen,idxV,hix,hld,hiy,hly,clr_nv,clr_rvs,clr_svs,len28,len30,hl0,hl2,fo32_0,fo32_2,bin_lss,ag29,ag3',ag30,ag28,f1]
    simp only [Bool.false_eq_true,false_and,false_or]
    refine go_reg' (tk:=[]) (by kernel_rfl) ?_
    simp only [go_os,go_os_nil,op_move0,op_binOp,op_assign,Nat.reduceEqDiff,peek,take_tmp,ofVal,takeV_int,rdQ_some,tkQ_some,opQ_val,putA,clr_int,if_true,nth_set,List.length_set,Nat.reduceLT,if_true,if_false,h5,hlen,bin_addk (show k<2 ^ 60 by omega),go_nil,thn_normal]
    refine ⟨row.length - (k+1),by omega,k+1,_,by omega,rfl,?_,?_,?_,?_,?_⟩
    ·simp [hlen]
    ·simp [nth_set,h1]
    ·simp [nth_set,h3]
    ·simp [nth_set,h4]
    ·simp [nth_set,hlen]
   ·refine .inr ⟨by simp;omega,?_⟩
    simp only [go_exit,go_c_exit,go_eb_exit,go_nil,thn_exit,go_eb,Nat.beq_refl,if_true,go_nil]
    refine go_reg' (tk:=[]) (by kernel_rfl) ?_
    simp only [go_os,go_os_nil,op_move0,op_binOp,op_assign,Nat.reduceEqDiff,peek,take_tmp,ofVal,takeV_int,rdQ_some,tkQ_some,opQ_val,putA,clr_int,if_true,nth_set,List.length_set,Nat.reduceLT,if_true,if_false,h4,hlen,bin_addk (show i<2 ^ 60 by omega),go_nil,thn_normal]
    refine ⟨R.length - (i+1),by omega,i+1,_,by omega,rfl,?_,?_,?_,?_⟩
    ·simp [hlen]
    ·simp [nth_set,h1]
    ·simp [nth_set,h3]
    ·simp [nth_set,hlen]
  ·refine .inr ⟨by simp;omega,?_⟩
   simp only [go_exit,go_c_exit,go_eb_exit,go_nil,thn_exit,go_seq,Nat.beq_refl,if_true,go_nil]
   refine go_reg' (tk:=[]) (by kernel_rfl) ?_
   simp only [go_os,go_os_nil,op_assign,take_const,ofVal,tkQ_some,opQ_val,putA,Option.map_some]
   simp only [go_ret,go_nil,Fx]
   refine ⟨trivial,[.bool true],?_,rfl⟩
   simp [resultsA,nth_set,hlen]
 ·refine cfgs_last' ?_ ?_ ?_ ?_
  ·kernel_rfl
  ·rfl
  ·intro c hc
   cases hc
  ·kernel_rfl
 ·exact allA_one (look_true (valC_of (by simp only [op_load1,ne_eq,Nat.reduceEqDiff,not_false_eq_true,peek,rdQ_some,clr_ptr,Option.bind_some,Option.map_some,nth_cons0,nth_cons,List.set_cons_zero,List.set_cons_succ,hl2,clr_rvs];rfl)))
end Go.Proofs.YtkbdcmehffmfpaaGreatDoor
namespace Go.Proofs.YtkbdcmehffmfpaaGreatDoor
set_option maxRecDepth 10000
open Go Go.Vm
def shP (b:Nat) (p:Nat→Bool):Nat→Bool:=fun y=>decide (b≤y) && p (y - b)
def Sup (n:Nat) (p:Nat→Bool):Prop:=∀ y,p y=true→y<n
theorem Sup.mono {n k:Nat} {p:Nat→Bool} (h:Sup n p) (hk:n≤k):Sup k p:=fun y hy=>Nat.lt_of_lt_of_le (h y hy) hk
theorem sup_no {n:Nat}:Sup n noP:=fun y h=>by simp [noP] at h
theorem sup_join {n:Nat} {p q:Nat→Bool} (hp:Sup n p) (hq:Sup n q):Sup n (joinP p q):=fun y h=>by
 simp only [joinP,Bool.or_eq_true] at h
 exact h.elim (hp y) (hq y)
theorem sup_add {n k:Nat} (h:k<n):Sup n (addP noP k):=fun y hy=>by
 simp only [addP,noP,Bool.false_or,beq_iff_eq] at hy
 omega
theorem sh_no {b:Nat}:shP b noP=noP:=by funext y;simp [shP,noP]
theorem sh_join {b:Nat} {p q:Nat→Bool}:shP b (joinP p q)=joinP (shP b p) (shP b q):=by
 funext y
 simp only [shP,joinP]
 cases decide (b≤y)<;>simp
theorem sh_add {b k:Nat}:shP b (addP noP k)=addP noP (b+k):=by
 funext y
 simp only [shP,addP,noP,Bool.false_or]
 by_cases h:b≤y
 ·rw [decide_eq_true h,Bool.true_and]
  by_cases h2:y - b=k
  ·rw [beq_iff_eq.2 h2,beq_iff_eq.2 (by omega:y=b+k)]
  ·rw [beq_eq_false_iff_ne.2 h2,beq_eq_false_iff_ne.2 (by omega:y≠b+k)]
 ·rw [decide_eq_false h,Bool.false_and,beq_eq_false_iff_ne.2 (by omega:y≠b+k)]
theorem sup_sh {b n:Nat} {p:Nat→Bool} (h:Sup n p):Sup (b+n) (shP b p):=fun y hy=>by
 simp only [shP,Bool.and_eq_true,decide_eq_true_eq] at hy
 have:=h _ hy.2
 omega
theorem range_map (b:Nat):∀ n,(List.range n).map (b + ·)=List.range' b n:=fun n=>by
 rw [List.range_eq_range',List.map_add_range',Nat.add_zero]
theorem preN_sh {b n:Nat} {p:Nat→Bool} (h:Sup n p) (hb:b+n≤1216):preN (shP b p) 19=(preN p 19).map (b + ·):=by
 rw [preN_eq,preN_eq]
 have e1:List.range (64 * 19)=List.range b++(List.range (1216 - b)).map (b + ·):=by
  rw [range_map,List.range_eq_range',List.range_eq_range',show 64 * 19=b+(1216 - b) by omega,← List.range'_append_1]
  simp
 have e2:List.range (64 * 19)=List.range (1216 - b)++(List.range b).map ((1216 - b) + ·):=by
  rw [range_map,List.range_eq_range',List.range_eq_range',show 64 * 19=(1216 - b)+b by omega,← List.range'_append_1]
  simp
 rw [e1,List.filter_append,List.filter_map]
 have f1:(List.range b).filter (shP b p)=[]:=List.filter_eq_nil_iff.2 fun y hy=>by
  have:=List.mem_range.1 hy
  simp only [shP,decide_eq_false (show ¬ b≤y by omega),Bool.false_and]
  simp
 have f2:((List.range b).map ((1216 - b) + ·)).filter p=[]:=List.filter_eq_nil_iff.2 fun y hy hp=>by
  obtain ⟨x,_,rfl⟩:=List.mem_map.1 hy
  have:=h _ hp
  omega
 have f3:(shP b p ∘ (b + ·))=p:=by
  funext y
  simp only [Function.comp_apply,shP,decide_eq_true (show b≤b+y by omega),Bool.true_and,show b+y - b=y by omega]
 rw [f1,f3,List.nil_append]
 rw [← e1,e2,List.filter_append,f2,List.append_nil]
theorem preN_end {n:Nat} {p:Nat→Bool} (h:Sup n p) (hn:n<1216):preN (joinP p (addP noP n)) 19=preN p 19++[n]:=by
 rw [preN_eq,preN_eq]
 have e1:List.range (64 * 19)=List.range n++n::List.range' (n+1) (1215 - n):=by
  rw [List.range_eq_range',List.range_eq_range',show 64 * 19=n+(1215 - n+1) by omega,← List.range'_append_1,Nat.zero_add,List.range'_succ]
 rw [e1,List.filter_append,List.filter_append,List.filter_cons,List.filter_cons]
 have f1:(List.range n).filter (joinP p (addP noP n))=(List.range n).filter p:=List.filter_congr fun y hy=>by
  have:=List.mem_range.1 hy
  simp only [joinP,addP,noP,beq_eq_false_iff_ne.2 (show y≠n by omega),Bool.or_false]
 have f2:joinP p (addP noP n) n=true:=by simp [joinP,addP]
 have f3:p n=false:=by
  cases hp:p n with
  | false=>rfl
  | true=>have:=h n hp;omega
 have f4:(List.range' (n+1) (1215 - n)).filter (joinP p (addP noP n))=[]:=List.filter_eq_nil_iff.2 fun y hy hj=>by
  have hm:=List.mem_range'_1.1 hy
  simp only [joinP,addP,noP,Bool.false_or,Bool.or_eq_true,beq_iff_eq] at hj
  rcases hj with hj|hj
  ·have:=h _ hj;omega
  ·omega
 have f5:(List.range' (n+1) (1215 - n)).filter p=[]:=List.filter_eq_nil_iff.2 fun y hy hj=>by
  have hm:=List.mem_range'_1.1 hy
  have:=h _ hj;omega
 simp only [f1,f2,f3,f4,f5,if_true,Bool.false_eq_true,if_false,List.append_nil]
def shPart (b:Nat) (p:Part):Part:=⟨p.null,shP b p.first,shP b p.last⟩
def shM (S:List (Int×Int×Int×Int)) (R:List Int) (N:List (Nat→Bool)) (r:Int) (m:Mk):Mk:=⟨S++m.sets,R++m.rules.map (fun _=>r),N++m.next.map (shP S.length)⟩
theorem shPart_p0 {b:Nat}:shPart b p0=p0:=by simp only [shPart,p0,sh_no]
theorem fol_sh {b:Nat} {q:Nat→Bool} {N:List (Nat→Bool)} (hN:N.length=b):∀ (ks:List Nat) (ns:List (Nat→Bool)),fol (shP b q) (ks.map (b + ·)) (N++ns.map (shP b))=N++(fol q ks ns).map (shP b)
 | [],ns=>rfl
 | k::ks,ns=>by
  simp only [List.map_cons,fol]
  rw [← fol_sh hN ks]
  congr 1
  rw [List.set_append_right _ _ (by omega),hN,show b+k - b=k by omega,List.map_set,sh_join]
  congr 2
  congr 1
  rw [List.getD_eq_getElem?_getD,List.getElem?_append_right (by omega),hN,show b+k - b=k by omega,List.getElem?_map,List.getD_eq_getElem?_getD]
  cases ns[k]? with
  | none =>
   simp only [Option.map_none,Option.getD_none]
   exact sh_no.symm
  | some x=>rfl
def SupP (n:Nat) (p:Part):Prop:=Sup n p.first∧Sup n p.last
def SupM (m:Mk):Prop:=∀ p∈m.next,Sup m.sets.length p
theorem SupP.mono {n k:Nat} {p:Part} (h:SupP n p) (hk:n≤k):SupP k p:=⟨h.1.mono hk,h.2.mono hk⟩
theorem supP0 {n:Nat}:SupP n p0:=⟨sup_no,sup_no⟩
theorem fol_sup {n:Nat} {q:Nat→Bool} (hq:Sup n q):∀ (ks:List Nat) (ns:List (Nat→Bool)),(∀ p∈ns,Sup n p)→∀ p∈fol q ks ns,Sup n p
 | [],ns,h=>h
 | k::ks,ns,h=>by
  refine fol_sup hq ks _ fun p hp=>?_
  rcases List.mem_or_eq_of_mem_set hp with hp|rfl
  ·exact h p hp
  ·refine sup_join ?_ hq
   rw [List.getD_eq_getElem?_getD]
   cases hx:ns[k]? with
   | none=>exact sup_no
   | some x=>exact h x (List.mem_of_getElem? hx)
variable {S:List (Int×Int×Int×Int)} {R:List Int} {N:List (Nat→Bool)} {r:Int}
theorem joined_sh {op:Int} {k n:Nat} {a c:Part} {ns:List (Nat→Bool)} (hN:N.length=S.length) (ha:SupP n a) (hc:SupP n c) (hn:S.length+n≤1216) :
  joinedM op k (shPart S.length a) (shPart S.length c) (N++ns.map (shP S.length))=(shPart S.length (joinedM op k a c ns).1,N++(joinedM op k a c ns).2.map (shP S.length)):=by
 unfold joinedM
 split
 ·rfl
 ·split
  ·simp only [shPart,sh_join]
  ·simp only [shPart]
   rw [preN_sh ha.2 hn,fol_sh hN]
   congr 1
   obtain ⟨an,af,al⟩:=a
   obtain ⟨cn,cf,cl⟩:=c
   cases an<;>cases cn<;>simp [sh_join]
theorem joined_supP {op:Int} {k n:Nat} {a c:Part} {ns:List (Nat→Bool)} (ha:SupP n a) (hc:SupP n c):SupP n (joinedM op k a c ns).1:=by
 unfold joinedM
 split
 ·exact hc
 ·split
  ·exact ⟨sup_join ha.1 hc.1,sup_join ha.2 hc.2⟩
  ·refine ⟨?_,?_⟩
   ·show Sup n (if a.null then joinP a.first c.first else a.first)
    split
    ·exact sup_join ha.1 hc.1
    ·exact ha.1
   ·show Sup n (if c.null then joinP a.last c.last else c.last)
    split
    ·exact sup_join ha.2 hc.2
    ·exact hc.2
theorem joined_supM {op:Int} {k n:Nat} {a c:Part} {ns:List (Nat→Bool)} (hc:SupP n c) (h:∀ p∈ns,Sup n p):∀ p∈(joinedM op k a c ns).2,Sup n p:=by
 simp only [joinedM]
 generalize preN a.last 19=ks
 split
 ·exact h
 ·split
  ·exact h
  ·exact fol_sup hc.1 _ _ h
theorem rep_sh {mn mx:Int} {n:Nat} {p:Part} {ns:List (Nat→Bool)} (hN:N.length=S.length) (hp:SupP n p) (hn:S.length+n≤1216) :
  repM mn mx (shPart S.length p) (N++ns.map (shP S.length))=(shPart S.length (repM mn mx p ns).1,N++(repM mn mx p ns).2.map (shP S.length)):=by
 have h1:=preN_sh hp.2 hn
 simp only [repM,shPart]
 rw [h1]
 generalize preN p.last 19=ks
 split
 ·rw [fol_sh hN]
 ·rfl
theorem fin7_sh {op mn mx:Int} {n:Nat} {p:Part} {m:Mk} (hN:N.length=S.length) (hp:SupP n p) (hn:S.length+n≤1216) :
  fin7 op mn mx (shPart S.length p,shM S R N r m)=(shPart S.length (fin7 op mn mx (p,m)).1,shM S R N r (fin7 op mn mx (p,m)).2):=by
 unfold fin7
 by_cases h:op=7
 ·rw [if_pos h,if_pos h]
  have e:(shM S R N r m).next=N++m.next.map (shP S.length):=rfl
  simp only
  rw [e,rep_sh hN hp hn]
  rfl
 ·rw [if_neg h,if_neg h]
theorem rep_sup {mn mx:Int} {n:Nat} {p:Part} {ns:List (Nat→Bool)} (hp:SupP n p) (hm:∀ q∈ns,Sup n q):SupP n (repM mn mx p ns).1∧(∀ q∈(repM mn mx p ns).2,Sup n q):=by
 simp only [repM]
 generalize preN p.last 19=ks
 refine ⟨hp,?_⟩
 split
 ·exact fol_sup hp.1 _ _ hm
 ·exact hm
theorem fin7_sup {op mn mx:Int} {n:Nat} {p:Part} {m:Mk} (hp:SupP n p) (hm:∀ q∈m.next,Sup n q):SupP n (fin7 op mn mx (p,m)).1∧(∀ q∈(fin7 op mn mx (p,m)).2.next,Sup n q):=by
 unfold fin7
 by_cases h:op=7
 ·rw [if_pos h];exact rep_sup hp hm
 ·rw [if_neg h];exact ⟨hp,hm⟩
mutual
theorem wkE_sh (hN:N.length=S.length):∀ (e:E) (m:Mk),SupM m→S.length+(wkE 0 e m).2.sets.length≤1216 →
  wkE r e (shM S R N r m)=(shPart S.length (wkE 0 e m).1,shM S R N r (wkE 0 e m).2)∧SupP (wkE 0 e m).2.sets.length (wkE 0 e m).1∧SupM (wkE 0 e m).2
 | .mk op pl s0 s1 s2 s3 tx mn mx nl [],m,hm,hl=>by
  simp only [wkE] at hl ⊢
  unfold leafM at hl ⊢
  split
  ·exact ⟨by simp only [shPart,sh_no],⟨sup_no,sup_no⟩,hm⟩
  ·rename_i hop
   simp only [hop,if_false] at hl
   refine ⟨?_,⟨sup_add (by simp),sup_add (by simp)⟩,fun p hp=>?_⟩
   ·simp only [shPart,shM,sh_add,List.length_append,List.map_append,List.map_cons,List.map_nil,sh_no,List.append_assoc]
   ·simp only [List.mem_append,List.mem_singleton] at hp
    rcases hp with hp|rfl
    ·exact (hm p hp).mono (by simp)
    ·exact sup_no
 | .mk op pl s0 s1 s2 s3 tx mn mx nl (a::tl),m,hm,hl=>by
  rw [wkE_cons] at hl ⊢
  rw [wkE_cons]
  rw [fin7_sets] at hl
  obtain ⟨h1,h2,h3⟩:=wkL_sh hN (a::tl) op 0 p0 m hm supP0 hl
  rw [shPart_p0] at h1
  rw [h1,fin7_sh hN h2 hl]
  have hs:(fin7 op mn mx (wkL 0 op 0 p0 (a::tl) m)).2.sets.length=(wkL 0 op 0 p0 (a::tl) m).2.sets.length:=by rw [fin7_sets]
  refine ⟨rfl,?_,?_⟩
  ·rw [hs];exact (fin7_sup h2 h3).1
  ·unfold SupM
   rw [hs];exact (fin7_sup h2 h3).2
theorem wkL_sh (hN:N.length=S.length):∀ (es:List E) (op:Int) (k:Nat) (a:Part) (m:Mk),SupM m→SupP m.sets.length a→S.length+(wkL 0 op k a es m).2.sets.length≤1216 →
  wkL r op k (shPart S.length a) es (shM S R N r m)=(shPart S.length (wkL 0 op k a es m).1,shM S R N r (wkL 0 op k a es m).2)∧SupP (wkL 0 op k a es m).2.sets.length (wkL 0 op k a es m).1∧SupM (wkL 0 op k a es m).2
 | [],op,k,a,m,hm,ha,hl=>by
  simp only [wkL_nil]
  exact ⟨trivial,ha,hm⟩
 | e::es,op,k,a,m,hm,ha,hl=>by
  rw [wkL_cons] at hl ⊢
  rw [wkL_cons]
  have hg1:m.sets.length≤(wkE 0 e m).2.sets.length:=wkE_grow e m
  have hl1:S.length+(wkE 0 e m).2.sets.length≤1216:=Nat.le_trans (Nat.add_le_add_left (wkL_grow es op (k+1) (joinedM op k a (wkE 0 e m).1 (wkE 0 e m).2.next).1 { (wkE 0 e m).2 with next:=(joinedM op k a (wkE 0 e m).1 (wkE 0 e m).2.next).2 }) _) hl
  obtain ⟨h1,h2,h3⟩:=wkE_sh hN e m hm hl1
  rw [h1]
  have ha':=ha.mono hg1
  have hj:=joined_sh (op:=op) (k:=k) (ns:=(wkE 0 e m).2.next) hN ha' h2 hl1
  have e1:(shM S R N r (wkE 0 e m).2).next=N++(wkE 0 e m).2.next.map (shP S.length):=rfl
  rw [e1,hj]
  exact wkL_sh hN es op (k+1) (joinedM op k a (wkE 0 e m).1 (wkE 0 e m).2.next).1 { (wkE 0 e m).2 with next:=(joinedM op k a (wkE 0 e m).1 (wkE 0 e m).2.next).2 } (joined_supM h2 h3) (joined_supP ha' h2) hl
end
end Go.Proofs.YtkbdcmehffmfpaaGreatDoor
namespace Go.Proofs.YtkbdcmehffmfpaaGreatDoor
set_option maxRecDepth 10000
open Go Go.Vm
def phi (K r b n y:Nat):Nat:=if y=n then K+r else y+b
def lone (e:E):List Nat×Mk:=ruleM (nset e) 0 e m0
theorem fol_fun {q:Nat→Bool} {ks:List Nat} {ns:List (Nat→Bool)} {j:Nat} (hj:j<ns.length):rw5 (fol q ks ns) j=if j∈ks then joinP (rw5 ns j) q else rw5 ns j:=by
 funext y
 rw [fol_get hj]
 by_cases h:j∈ks
 ·rw [if_pos h,decide_eq_true h,Bool.true_and];rfl
 ·rw [if_neg h,decide_eq_false h,Bool.false_and,Bool.or_false]
theorem rw5_some {ns:List (Nat→Bool)} {j:Nat} {p:Nat→Bool} (h:ns[j]?=some p):rw5 ns j=p:=by
 rw [rw5,List.getD_eq_getElem?_getD,h];rfl
theorem some_rw5 {ns:List (Nat→Bool)} {j:Nat} (h:j<ns.length):ns[j]?=some (rw5 ns j):=by
 rw [rw5,List.getD_eq_getElem?_getD,List.getElem?_eq_getElem h];rfl
theorem phi_low {K r b n:Nat} {l:List Nat} (h:∀ y∈l,y<n):l.map (phi K r b n)=l.map (b + ·) :=
 List.map_congr_left fun y hy=>by
  have:=h y hy
  rw [phi,if_neg (by omega)]
  omega
theorem sup_mem {n:Nat} {p:Nat→Bool} (h:Sup n p):∀ y∈preN p 19,y<n:=fun y hy=>h y (mem_preN.1 hy).2
theorem row_phi {K r b n:Nat} {p:Nat→Bool} (h:Sup n p) (hb:b+n≤K) (hK:K+r<1216) (c:Bool) :
  preN (if c then joinP (shP b p) (addP noP (K+r)) else shP b p) 19=(preN (if c then joinP p (addP noP n) else p) 19).map (phi K r b n):=by
 have hs:Sup (K+r) (shP b p):=(sup_sh h).mono (by omega)
 cases c with
 | true =>
  rw [if_pos rfl,if_pos rfl,preN_end hs hK,preN_end h (by omega),preN_sh h (by omega),List.map_append,phi_low (sup_mem h)]
  simp [phi]
 | false =>
  rw [if_neg (by decide),if_neg (by decide),preN_sh h (by omega),phi_low (sup_mem h)]
structure Step (K r b:Nat) (e:E) (f:List Nat) (S:List (Int×Int×Int×Int)) (R:List Int) (N:List (Nat→Bool)):Prop where
 hf:f=(lone e).1.map (phi K r b (nset e))
 hs:S=(lone e).2.sets
 hr:R=List.replicate (nset e) (r:Int)
 hn:N.length=nset e
 row:∀ (j:Nat) (p:Nat→Bool),(lone e).2.next[j]?=some p→∃ p',N[j]?=some p'∧preN p' 19=(preN p 19).map (phi K r b (nset e))
 sup:∀ p∈N,Sup (K+r+1) p
 fsup:∀ y∈f,y<K+r+1
theorem lone_inv {e:E} (hg:gd e=true) (hn:nset e≤1200):(wkE 0 e m0).2.sets.length=nset e∧(wkE 0 e m0).2.Ok:=by
 obtain ⟨_,_,g3,g4⟩:=wkE_inv (r:=0) e m0 hg ⟨rfl,rfl⟩ (by simp [m0];omega)
 exact ⟨by rw [g3];simp [m0],g4⟩
theorem lone_sets {e:E}:(lone e).2.sets=(wkE 0 e m0).2.sets:=by
 have h:((0:Nat):Int)=0:=rfl
 rw [lone,ruleM_sets,h]
theorem map_const {α β:Type} {l:List α} {c:β}:l.map (fun _=>c)=List.replicate l.length c:=by
 induction l with
 | nil=>rfl
 | cons a l ih=>simp [List.replicate_succ,ih]
theorem rule_sh {K r:Nat} {e:E} {m:Mk} (hok:m.Ok) (hg:gd e=true) (hK:m.sets.length+nset e≤K) (hr:K+r<1216) (hn:nset e≤1200) :
  ∃ S R N,(ruleM K r e m).2=⟨m.sets++S,m.rules++R,m.next++N⟩∧Step K r m.sets.length e (ruleM K r e m).1 S R N:=by
 obtain ⟨hl,ho⟩:=lone_inv hg hn
 have hm:shM m.sets m.rules m.next (r:Int) m0=m:=by simp [shM,m0]
 obtain ⟨h1,h2,h3⟩:=wkE_sh (S:=m.sets) (R:=m.rules) (N:=m.next) (r:=(r:Int)) hok.n e m0 (fun p hp=>by simp [m0] at hp) (by rw [hl];omega)
 rw [hm] at h1
 generalize hW:wkE 0 e m0=W at *
 obtain ⟨p,m1⟩:=W
 simp only at hl ho h1 h2 h3
 have hlone:lone e=(preN (if p.null then joinP p.first (addP noP (nset e)) else p.first) 19,{ m1 with next:=fol (addP noP (nset e)) (preN p.last 19) m1.next }):=by
  have h0:wkE ((0:Nat):Int) e m0=(p,m1):=hW
  simp only [lone,ruleM,h0,Nat.add_zero]
 rw [hl] at h2
 have hsup:∀ q∈m1.next,Sup (nset e) q:=fun q hq=>by have:=h3 q hq;rwa [hl] at this
 generalize hb:m.sets.length=b at *
 have hend:addP noP (K+r)=shP b (addP noP (K+r - b)):=by rw [sh_add];congr 1;omega
 have hbig:ruleM K r e m=(preN (if p.null then joinP (shP b p.first) (addP noP (K+r)) else shP b p.first) 19,⟨m.sets++m1.sets,m.rules++m1.rules.map (fun _=>(r:Int)),m.next++(fol (addP noP (K+r - b)) (preN p.last 19) m1.next).map (shP b)⟩):=by
  simp only [ruleM,h1]
  have e1:(shM m.sets m.rules m.next (r:Int) m1).next=m.next++m1.next.map (shP b):=by rw [← hb];rfl
  have e2:preN (shPart b p).last 19=(preN p.last 19).map (b + ·):=preN_sh h2.2 (by omega)
  rw [e1,e2,hend,fol_sh (by rw [hok.n,hb])]
  rfl
 rw [hbig]
 clear hbig h1 hm
 generalize preN p.last 19=ks at hlone ⊢
 refine ⟨_,_,_,rfl,?_⟩
 have hnl:m1.next.length=nset e:=by rw [ho.n,hl]
 have hrow:∀ j,j<nset e→rw5 ((fol (addP noP (K+r - b)) (ks) m1.next).map (shP b)) j=if decide (j∈ks) then joinP (shP b (rw5 m1.next j)) (addP noP (K+r)) else shP b (rw5 m1.next j):=fun j hj=>by
  have hj2:j<(fol (addP noP (K+r - b)) (ks) m1.next).length:=by rw [fol_len,hnl];exact hj
  have:((fol (addP noP (K+r - b)) (ks) m1.next).map (shP b))[j]?=some (shP b (rw5 (fol (addP noP (K+r - b)) (ks) m1.next) j)):=by rw [List.getElem?_map,some_rw5 hj2];rfl
  rw [rw5_some this,fol_fun (by rw [hnl];exact hj)]
  by_cases h:j∈ks
  ·rw [if_pos h,decide_eq_true h,if_pos rfl,sh_join,← hend]
  ·rw [if_neg h,decide_eq_false h,if_neg (by decide)]
 have hNl:((fol (addP noP (K+r - b)) (ks) m1.next).map (shP b)).length=nset e:=by rw [List.length_map,fol_len,hnl]
 refine ⟨?_,?_,?_,hNl,?_,?_,?_⟩
 ·rw [hlone];exact row_phi h2.1 hK hr p.null
 ·rw [hlone]
 ·rw [map_const,ho.r,hl]
 ·intro j q hj
  rw [hlone] at hj
  simp only at hj
  have hjl:j<nset e:=by
   have:=(List.getElem?_eq_some_iff.1 hj).1
   rwa [fol_len,hnl] at this
  refine ⟨_,some_rw5 (by rw [hNl];exact hjl),?_⟩
  rw [hrow j hjl,← rw5_some hj,fol_fun (by rw [hnl];exact hjl)]
  have hs:Sup (nset e) (rw5 m1.next j):=hsup _ (List.mem_of_getElem? (some_rw5 (by rw [hnl];exact hjl)))
  have:=row_phi (K:=K) (r:=r) (b:=b) hs hK hr (decide (j∈ks))
  rw [this]
  by_cases h:j∈ks
  ·rw [decide_eq_true h,if_pos rfl,if_pos h]
  ·rw [decide_eq_false h,if_neg (by decide),if_neg h]
 ·intro q hq
  obtain ⟨j,hj,rfl⟩:=List.getElem_of_mem hq
  rw [hNl] at hj
  have:((fol (addP noP (K+r - b)) (ks) m1.next).map (shP b))[j]=rw5 ((fol (addP noP (K+r - b)) (ks) m1.next).map (shP b)) j:=(rw5_some (List.getElem?_eq_getElem _)).symm
  rw [this,hrow j hj]
  have hs:Sup (nset e) (rw5 m1.next j):=hsup _ (List.mem_of_getElem? (some_rw5 (by rw [hnl];exact hj)))
  have hs2:Sup (K+r+1) (shP b (rw5 m1.next j)):=(sup_sh hs).mono (by omega)
  split
  ·exact sup_join hs2 (sup_add (by omega))
  ·exact hs2
 ·have hs2:Sup (K+r+1) (shP b p.first):=(sup_sh h2.1).mono (by omega)
  intro y hy
  simp only at hy
  refine sup_mem ?_ y hy
  split
  ·exact sup_join hs2 (sup_add (by omega))
  ·exact hs2
structure One (K r b:Nat) (e:E) (res:List (List Nat)×Mk) (i:Nat):Prop where
 hf:res.1[i]?=some ((lone e).1.map (phi K r b (nset e)))
 hs:∀ (j:Nat) (q:Int×Int×Int×Int),(lone e).2.sets[j]?=some q→res.2.sets[b+j]?=some q
 hr:∀ (j:Nat),j<nset e→res.2.rules[b+j]?=some (r:Int)
 hn:∀ (j:Nat) (p:Nat→Bool),(lone e).2.next[j]?=some p→∃ p',res.2.next[b+j]?=some p'∧preN p' 19=(preN p 19).map (phi K r b (nset e))
theorem app_get {α:Type} {a b c:List α} {j:Nat} {x:α} (h:b[j]?=some x):(a++b++c)[a.length+j]?=some x:=by
 rw [List.append_assoc,List.getElem?_append_right (by omega),show a.length+j - a.length=j by omega,List.getElem?_append_left (List.getElem?_eq_some_iff.1 h).1,h]
theorem rules_sh {K:Nat} (es:List E):∀ (r:Nat) (m:Mk),m.Ok→(∀ e∈es,gd e=true)→m.sets.length+nsetR es≤K→K≤1000→K+r+es.length≤1216 →
  (∃ S R N,(rulesM K r es m).2=⟨m.sets++S,m.rules++R,m.next++N⟩∧∀ p∈N,Sup (K+r+es.length) p) ∧
  (∀ l∈(rulesM K r es m).1,∀ y∈l,y<K+r+es.length) ∧
  ∀ i e,es[i]?=some e→One K (r+i) (m.sets.length+nsetR (es.take i)) e (rulesM K r es m) i:=by
 induction es with
 | nil =>
  intro r m hok hg hK hK2 hr
  exact ⟨⟨[],[],[],by simp [rulesM],fun p hp=>(by cases hp)⟩,fun l hl=>(by cases hl),fun i e he=>(by simp at he)⟩
 | cons e es ih =>
  intro r m hok hg hK hK2 hr
  simp only [nsetR] at hK
  simp only [List.length_cons] at hr
  obtain ⟨S,R,N,h1,h2⟩:=rule_sh (K:=K) (r:=r) (e:=e) hok (hg e (List.mem_cons_self ..)) (by omega) (by omega) (by omega)
  obtain ⟨hl,ho⟩:=lone_inv (hg e (List.mem_cons_self ..)) (by omega)
  have hSl:S.length=nset e:=by rw [h2.hs,lone_sets];exact hl
  have hok2:(ruleM K r e m).2.Ok:=by
   rw [h1]
   exact ⟨by simp [hok.r,h2.hr,hSl],by simp [hok.n,h2.hn,hSl]⟩
  have hl2:(ruleM K r e m).2.sets.length=m.sets.length+nset e:=by rw [h1];simp [hSl]
  obtain ⟨⟨S',R',N',g1,g2⟩,g3,g4⟩:=ih (r+1) (ruleM K r e m).2 hok2 (fun e he=>hg e (List.mem_cons_of_mem _ he)) (by omega) hK2 (by omega)
  have hM:(rulesM K r (e::es) m).2=⟨m.sets++S++S',m.rules++R++R',m.next++N++N'⟩:=by
   simp only [rulesM]
   rw [g1,h1]
  refine ⟨⟨S++S',R++R',N++N',by rw [hM];simp [List.append_assoc],fun p hp=>?_⟩,?_,?_⟩
  ·rcases List.mem_append.1 hp with hp|hp
   ·exact (h2.sup p hp).mono (by simp only [List.length_cons];omega)
   ·exact (g2 p hp).mono (by simp only [List.length_cons];omega)
  ·intro l hl y hy
   simp only [rulesM] at hl
   simp only [List.length_cons]
   rcases List.mem_cons.1 hl with hl|hl
   ·rw [hl] at hy
    have:=h2.fsup y hy
    omega
   ·have:=g3 l hl y hy
    omega
  ·intro i e' he
   cases i with
   | zero =>
    simp only [List.getElem?_cons_zero,Option.some.injEq] at he
    subst he
    simp only [List.take_zero,nsetR,Nat.add_zero]
    refine ⟨?_,fun j q hq=>?_,fun j hj=>?_,fun j p hp=>?_⟩
    ·simp only [rulesM,List.getElem?_cons_zero,h2.hf]
    ·rw [hM]
     exact app_get (by rw [h2.hs];exact hq)
    ·rw [hM,← hok.r]
     exact app_get (by rw [h2.hr,List.getElem?_replicate,if_pos hj])
    ·obtain ⟨p',k1,k2⟩:=h2.row j p hp
     refine ⟨p',?_,k2⟩
     rw [hM,← hok.n]
     exact app_get k1
   | succ i =>
    simp only [List.getElem?_cons_succ] at he
    have:=g4 i e' he
    rw [hl2,show m.sets.length+nset e+nsetR (es.take i)=m.sets.length+nsetR ((e::es).take (i+1)) by simp [nsetR];omega,show r+1+i=r+(i+1) by omega] at this
    refine ⟨?_,this.hs,this.hr,this.hn⟩
    simp only [rulesM,List.getElem?_cons_succ]
    exact this.hf
end Go.Proofs.YtkbdcmehffmfpaaGreatDoor
namespace Go.Proofs.YtkbdcmehffmfpaaGreatDoor
set_option maxRecDepth 10000
open Go Go.Vm Go.Vm.Sx
open Classical in
noncomputable def hkR (args:List V):Option V:=if ∃ F,Rng F∧args=[foV F] then some (.bool true) else none
noncomputable def gl2:Gl:={ g:=glw,hk:=fun f args=>if Nat.beq f 8 then hkR args else gl1.hk f args }
theorem hk2:HkOk Tryz.prog gl2:=by
 refine ⟨fun f args v h d H g w cargs lc h1 h2 h3=>?_,fun n f args H out H' h=>(by cases h)⟩
 simp only [gl2] at h
 split at h
 ·rename_i hf
  obtain rfl:f=8:=Nat.eq_of_beq_eq_true hf
  unfold hkR at h
  split at h
  ·rename_i hex
   obtain ⟨F,hR,rfl⟩:=hex
   cases h
   obtain ⟨n,H',hrun⟩:=ranged_run hR
   exact hk_pure mixed numOk primOk hk0 hrun (by simp [tops,top_fo]) rfl h1 h2 h3
  ·cases h
 ·exact hk1.pure f args v h d H g w cargs lc h1 h2 h3
instance : NoU gl2:=⟨fun _=>rfl,fun _ _ _ _=>rfl⟩
theorem GL2:GL gl2 where
 top:=top_glw
 no:=fun f hf args=>by
  have hf':=hf
  simp only [List.any_cons,List.any_nil,Bool.or_false,Bool.or_eq_false_iff] at hf
  have h1:=GL1.no f hf' args
  simp only [gl2,hf.2.2,Bool.false_eq_true,if_false]
  exact h1
theorem ev7b {nl:Bool} {l:List Cr} (h:GdL l):Ev Tryz.prog gl2 7 [.d (coresV nl l)] [] (bV l) [] :=
 Sx.Ev.hook (xs:=[coresV nl l]) (show gl2.hk 7 [coresV nl l]=some (bV l) from hkBy_eq h) (top_bV l)
theorem ev8 {F:Fo} (h:Rng F):Ev Tryz.prog gl2 8 [.d (foV F)] [] (.bool true) [] :=
 Sx.Ev.hook (xs:=[foV F]) (show gl2.hk 8 [foV F]=some (.bool true) from by
  show hkR [foV F]=_
  unfold hkR
  rw [if_pos ⟨F,h,rfl⟩]) rfl
theorem one_ok:∀ (l:List Cr) (p:Int),(∀ c∈l,nodes c.1≤1800∧nodes c.2.2≤1800)→0≤p→p≤1001→(mayF p l).2=true→(mayF p l).1≤1000→∀ c∈l,okC' c=true∧addS 0 c≤1000
 | [],p,_,h0,h1,_,h2=>fun c hc=>by cases hc
 | c::l,p,h,h0,h1,hok,h2=>by
  obtain ⟨n1,n2⟩:=h c (List.mem_cons_self ..)
  simp only [mayF] at hok h2
  cases ho:okC' c with
  | false=>rw [ho] at hok;cases hok
  | true =>
   rw [ho] at hok h2
   simp only [cond_true] at hok h2
   have k1:=nset_le c.1
   have k2:=nset_le c.2.2
   have hsz:∀ e:E,nodes e≤4000→0≤sizP e∧sizP e≤1001:=fun e he=>by
    rw [siz_gd he]
    split
    ·split<;>omega
    ·omega
   have hs1:=hsz c.1 (by omega)
   have hs2:=hsz c.2.2 (by omega)
   have hadd:∀ p:Int,0≤p→p≤1001→addS p c=if 1001<p+sizP c.1+sizP c.2.2 then 1001 else p+sizP c.1+sizP c.2.2:=fun p h0 h1=>by
    unfold addS
    rw [w64 (x:=p+sizP c.1) (by omega) (by omega),w64 (by omega) (by omega)]
    by_cases h4:1001<p+sizP c.1+sizP c.2.2
    ·rw [ltz_t h4,if_pos h4];rfl
    ·rw [ltz_f (by omega),if_neg h4];rfl
   have hb:0≤addS p c∧addS p c≤1001:=by rw [hadd p h0 h1];split<;>omega
   obtain ⟨g1,g2,_⟩:=may_ok l (addS p c) (fun c hc=>h c (List.mem_cons_of_mem _ hc)) hb.1 hb.2 hok h2
   intro x hx
   rcases List.mem_cons.1 hx with rfl|hx
   ·refine ⟨ho,?_⟩
    rw [hadd p h0 h1] at g2
    rw [hadd 0 (by omega) (by omega)]
    split at g2
    ·omega
    ·rw [if_neg (by omega)];omega
   ·exact one_ok l (addS p c) (fun c hc=>h c (List.mem_cons_of_mem _ hc)) hb.1 hb.2 hok h2 x hx
theorem gd_one {l:List Cr} (h:GdL l) (he:bE l=.nili) {c:Cr} (hc:c∈l):GdL [c]∧bE [c]=.nili:=by
 obtain ⟨k,m1,m2,_,m4,m5,m6,_⟩:=good_run h he
 have hm:1≤maxLen:=by decide
 refine ⟨⟨by simpa using hm,fun x hx=>?_,fun x hx=>?_,.inr fun x hx=>?_⟩,?_⟩
 ·obtain rfl:=List.mem_singleton.1 hx;exact h.wf _ hc
 ·obtain rfl:=List.mem_singleton.1 hx;exact h.can _ hc
 ·obtain rfl:=List.mem_singleton.1 hx;exact m6 _ hc
 ·obtain ⟨a1,a2⟩:=one_ok l 0 m6 (by omega) (by omega) (by rw [m5]) (by rw [m5];omega) c hc
  have e0:ltz 200 (([c]:List Cr).length:Int)=false:=rfl
  have e1:mayM [c]=(addS 0 c,true):=by
   unfold mayM
   rw [e0]
   simp only [cond_false,mayF,a1,cond_true]
  simp only [bE,e1,cond_true,if_neg (show ¬ (1000<addS 0 c) by omega)]
theorem nsetR_take {es:List E} {i:Nat} {e:E} (h:es[i]?=some e):nsetR (es.take (i+1))=nsetR (es.take i)+nset e:=by
 induction es generalizing i with
 | nil=>simp at h
 | cons a es ih =>
  cases i with
  | zero =>
   simp only [List.getElem?_cons_zero,Option.some.injEq] at h
   subst h
   simp [nsetR]
  | succ i =>
   simp only [List.getElem?_cons_succ] at h
   have:=ih h
   simp only [List.take_succ_cons,nsetR,this]
   omega
theorem nsetR_le {es:List E} (i:Nat):nsetR (es.take i)≤nsetR es:=by
 induction es generalizing i with
 | nil=>simp [nsetR]
 | cons a es ih =>
  cases i with
  | zero=>simp [nsetR]
  | succ i =>
   have:=ih i
   simp only [List.take_succ_cons,nsetR]
   omega
theorem m0_ok:m0.Ok:=⟨rfl,rfl⟩
theorem rng_of {l:List Cr} (h:GdL l) (he:bE l=.nili) (hl:l≠[]):Rng (foOf l)∧(foOf l).f.length=l.length∧(foOf l).s.length=nsetR (l.map crE):=by
 obtain ⟨k,m1,m2,m3,m4,_,_,m7⟩:=good_run h he
 obtain ⟨⟨S,R,N,g1,g2⟩,g3,_⟩:=rules_sh (K:=k) (l.map crE) 0 m0 m0_ok m7 (by rw [m3];simp [m0]) m2 (by rw [List.length_map];omega)
 obtain ⟨r1,_,r3⟩:=rules_inv (n:=k) (l.map crE) 0 m0 m7 m0_ok (by simp [m0];omega) (by rw [List.length_map];omega) (fun x hx=>by simp [m0] at hx)
 have hf:foOf l=⟨(rulesM k 0 (l.map crE) m0).2.sets,(rulesM k 0 (l.map crE) m0).2.rules,(rulesM k 0 (l.map crE) m0).1.map (·.map Int.ofNat),(rulesM k 0 (l.map crE) m0).2.next.map fun p=>(preN p 19).map Int.ofNat⟩:=by
  rw [foOf,m1]
  simp only [Int.toNat_natCast]
 have e0:m0.sets.length=0:=rfl
 have hs:(rulesM k 0 (l.map crE) m0).2.sets.length=k:=by rw [r1,e0,m3];omega
 have hfl:((rulesM k 0 (l.map crE) m0).1.map (·.map Int.ofNat)).length=l.length:=by rw [List.length_map,rulesM_len,List.length_map]
 have hnx:(rulesM k 0 (l.map crE) m0).2.next=N:=by rw [g1];rfl
 rw [List.length_map] at g2 g3
 rw [hf]
 refine ⟨⟨?_,?_,?_,?_,?_,?_⟩,hfl,?_⟩
 ·show ((rulesM k 0 (l.map crE) m0).2.next.map _).length=_
  rw [List.length_map,r3.n]
 ·exact r3.r
 ·intro e
  have e':((rulesM k 0 (l.map crE) m0).1.map (·.map Int.ofNat))=[]:=e
  rw [e'] at hfl
  exact hl (List.eq_nil_of_length_eq_zero hfl.symm)
 ·show (rulesM k 0 (l.map crE) m0).2.sets.length≤_
  omega
 ·show ((rulesM k 0 (l.map crE) m0).1.map (·.map Int.ofNat)).length≤_
  rw [hfl];omega
 ·intro x hx
  have hx':x∈(rulesM k 0 (l.map crE) m0).2.next.map (fun p=>(preN p 19).map Int.ofNat)++(rulesM k 0 (l.map crE) m0).1.map (·.map Int.ofNat):=hx
  show x.length≤4000∧∀ y∈x,0≤y∧y<((rulesM k 0 (l.map crE) m0).2.sets.length:Int)+(((rulesM k 0 (l.map crE) m0).1.map (·.map Int.ofNat)).length:Int)
  rw [hs,hfl]
  rcases List.mem_append.1 hx' with hx|hx
  ·obtain ⟨p,hp,rfl⟩:=List.mem_map.1 hx
   rw [hnx] at hp
   refine ⟨by rw [List.length_map];have:=preN_len (p:=p);omega,fun y hy=>?_⟩
   obtain ⟨z,hz,rfl⟩:=List.mem_map.1 hy
   have:=sup_mem (g2 p hp) z hz
   constructor
   ·exact Int.natCast_nonneg z
   ·show (z:Int)<_
    omega
  ·obtain ⟨p,hp,rfl⟩:=List.mem_map.1 hx
   refine ⟨by rw [List.length_map];have:=rulesM_row _ _ _ p hp;omega,fun y hy=>?_⟩
   obtain ⟨z,hz,rfl⟩:=List.mem_map.1 hy
   have:=g3 p hp z hz
   constructor
   ·exact Int.natCast_nonneg z
   ·show (z:Int)<_
    omega
 ·exact hs.trans m3
def phiZ (K r b n:Nat) (x:Int):Int:=if x=n then (K:Int)+r else x+b
theorem phi_Z {K r b n:Nat} {l:List Nat}:(l.map (phi K r b n)).map Int.ofNat=(l.map Int.ofNat).map (phiZ K r b n):=by
 rw [List.map_map,List.map_map]
 refine List.map_congr_left fun y _=>?_
 show ((phi K r b n y:Nat):Int)=phiZ K r b n (y:Int)
 unfold phi phiZ
 by_cases h:y=n
 ·rw [if_pos h,if_pos (by omega)];omega
 ·rw [if_neg h,if_neg (by omega)];omega
structure Ap (l:List Cr) (i:Nat) (c:Cr) (b:Nat) (G:Fo) (a:List Int):Prop where
 f:G.f=[a]
 ff:(foOf l).f[i]?=some (a.map (phiZ (foOf l).s.length i b G.s.length))
 s:∀ (j:Nat) (q:Int×Int×Int×Int),G.s[j]?=some q→(foOf l).s[b+j]?=some q
 r:∀ (j:Nat),j<G.s.length→(foOf l).r[b+j]?=some (i:Int)
 n:∀ (j:Nat) (x:List Int),G.n[j]?=some x→(foOf l).n[b+j]?=some (x.map (phiZ (foOf l).s.length i b G.s.length))
 bn:b+G.s.length=nsetR ((l.map crE).take (i+1))
theorem apart {l:List Cr} (h:GdL l) (he:bE l=.nili) {i:Nat} {c:Cr} (hc:l[i]?=some c):∃ a,Ap l i c (nsetR ((l.map crE).take i)) (foOf [c]) a:=by
 obtain ⟨k,m1,m2,m3,m4,_,_,m7⟩:=good_run h he
 obtain ⟨h1,e1⟩:=gd_one h he (List.mem_of_getElem? hc)
 obtain ⟨n,q1,_,q3,_⟩:=good_run h1 e1
 have q3':n=nset (crE c):=by rw [q3];simp [nsetR]
 obtain ⟨_,_,g4⟩:=rules_sh (K:=k) (l.map crE) 0 m0 m0_ok m7 (by rw [m3];simp [m0]) m2 (by rw [List.length_map];omega)
 have hce:(l.map crE)[i]?=some (crE c):=by rw [List.getElem?_map,hc];rfl
 have g:=g4 i (crE c) hce
 have e0:m0.sets.length=0:=rfl
 rw [e0,Nat.zero_add,Nat.zero_add] at g
 have hf:foOf l=⟨(rulesM k 0 (l.map crE) m0).2.sets,(rulesM k 0 (l.map crE) m0).2.rules,(rulesM k 0 (l.map crE) m0).1.map (·.map Int.ofNat),(rulesM k 0 (l.map crE) m0).2.next.map fun p=>(preN p 19).map Int.ofNat⟩:=by
  rw [foOf,m1]
  simp only [Int.toNat_natCast]
 have hg:foOf [c]=⟨(lone (crE c)).2.sets,(lone (crE c)).2.rules,[(lone (crE c)).1.map Int.ofNat],(lone (crE c)).2.next.map fun p=>(preN p 19).map Int.ofNat⟩:=by
  rw [foOf,q1]
  simp only [Int.toNat_natCast,List.map_cons,List.map_nil,rulesM,q3']
  rfl
 have hs:(foOf l).s.length=k:=by rw [(rng_of h he (fun e=>by rw [e] at hc;simp at hc)).2.2,m3]
 have hn:(foOf [c]).s.length=nset (crE c):=by rw [(rng_of h1 e1 (by simp)).2.2,← q3,q3']
 refine ⟨(lone (crE c)).1.map Int.ofNat,?_,?_,?_,?_,?_,?_⟩
 ·rw [hg]
 ·rw [hs,hn,hf,← phi_Z]
  dsimp only
  rw [List.getElem?_map,g.hf]
  rfl
 ·intro j q hj
  rw [hg] at hj
  rw [hf]
  dsimp only at hj ⊢
  exact g.hs j q hj
 ·intro j hj
  rw [hn] at hj
  rw [hf]
  dsimp only
  exact g.hr j hj
 ·intro j x hj
  rw [hg] at hj
  dsimp only at hj
  rw [List.getElem?_map] at hj
  obtain ⟨p,hp,rfl⟩:=Option.map_eq_some_iff.1 hj
  obtain ⟨p',k1,k2⟩:=g.hn j p hp
  rw [hs,hn,hf,← phi_Z,← k2]
  dsimp only
  rw [List.getElem?_map,k1]
  rfl
 ·rw [hn,nsetR_take hce]
end Go.Proofs.YtkbdcmehffmfpaaGreatDoor
namespace Go.Proofs.YtkbdcmehffmfpaaGreatDoor
set_option maxRecDepth 10000
open Go Go.Vm Go.Vm.Sx
theorem lent3:lentP Tryz.prog Tryz.f3.params.toList=some []:=by kernel_rfl
theorem slc_cores {nl:Bool} {l:List Cr} {i:Nat} {c:Cr} (h:l[i]?=some c):slcV (coresV nl l) (i:Int) ((i+1:Nat):Int)=coresV false [c]:=by
 have hne:coresV nl l=.sl 21 (l.map crV) .no:=by
  unfold coresV
  rw [if_neg]
  intro h'
  have:l=[]:=by simp at h';exact h'.2
  rw [this] at h;simp at h
 rw [hne]
 obtain ⟨hlt,hv⟩:=List.getElem?_eq_some_iff.1 h
 have:((l.map crV).take (i+1)).drop i=[crV c]:=by
  rw [List.drop_take,List.drop_eq_getElem_cons (by simpa using hlt)]
  simp [hv]
 simp only [slcV,Int.toNat_natCast,this]
 rfl
theorem bV_fo {l:List Cr} (h:GdL l) (he:bE l=.nili):bV l=.tup [foV (foOf l),.nili]:=by
 rw [bV,(fo_ok h he).1,he];rfl
theorem ev3 (nl:Bool) (l:List Cr) (hl:l.length≤maxLen) (hw:∀ c∈l,WfC c) (hcan:∀ c∈l,CanC c) {tx:V} (htx:kOk (.sl 1) tx=true) (htt:tx.top=0) (_htc:clr tx=tx) :
  Ev Tryz.prog gl2 3 [.d (.agg [coresV nl l,tx])] [] (.bool true) []:=by
 have hml:=maxLen_le
 refine fun_pure (xs:=[.agg [coresV nl l,tx]]) GL2.top (GL2.no 3 rfl) tree3_ok Tryz.func3 lent3 par25 (by simp [tops,V.top,top_cores,htt]) (N:=l.length+2000) ?_
 have hwk:phE Tryz.prog gl2 6 [] []=some (.bool true,[]):=phE_eq (Sx.Ev.hook (xs:=[]) rfl rfl)
 have e5:=phE_eq (ev5 GL2 nl l hl hw 800)
 have hcc:clr (coresV nl l)=coresV nl l:=clr_cores
 simp only [tree3]
 cases hs:lez (smallF 0 l) 800 with
 | false =>
  rw [hs] at e5
  simp only [ev_t,ev_out,ev_letv,ev_opn,ev_kin,ev_call,at_z,at_s,ks_cons,kBool,ks_nil,Bool.and_self,Bool.true_or,Bool.not_false,bif_t,cons_app,nil_app,evB,evI,evL,evCs,evC,evSC,evAs,evA,evLent,evVE,vB_bool,cm_lss,joinL,sizesOk,k_cores,htx,hcc,e5,hwk]
 | true =>
  rw [hs] at e5
  by_cases hl0:l=[]
  ·have h1:ltz (l.length:Int) 1=true:=ltz_t (by rw [hl0];decide)
   simp only [ev_t,ev_out,ev_letv,ev_opn,ev_kin,ev_call,at_z,at_s,ks_cons,kBool,ks_nil,Bool.and_self,Bool.or_true,Bool.not_true,bif_t,cons_app,nil_app,evB,evI,evL,evCs,evC,evSC,evAs,evA,evLent,evVE,vB_bool,cm_lss,joinL,sizesOk,k_cores,vL_cores,htx,hcc,e5,hwk,h1,List.length_map]
  have h1:ltz (l.length:Int) 1=false:=ltz_f (by have:=List.length_pos_iff.2 hl0;omega)
  have hn:200<l.length∨∀ c∈l,nodes c.1≤800∧nodes c.2.2≤800:=by
   rcases Nat.lt_or_ge 200 l.length with hh|hh
   ·exact .inl hh
   ·exact .inr (small_nodes l 0 hw (by omega) (by omega) (lez_i.1 hs)).2
  have hg:GdL l:=⟨hl,hw,hcan,hn.imp id fun h c hc=>by have:=h c hc;omega⟩
  have e7:=phE_eq (ev7b (nl:=nl) hg)
  by_cases he:bE l=.nili
  ·obtain ⟨hR,hfl,hsl⟩:=rng_of hg he hl0
   have e8:=phE_eq (ev8 hR)
   have hap:=fun i c (hc:l[i]?=some c)=>apart hg he hc
   have hone:=fun c (hc:c∈l)=>gd_one hg he hc
   rw [bV_fo hg he] at e7
   obtain ⟨k,_,hk1,hk2,hk3,_,_,_⟩:=good_run hg he
   rw [← hk2] at hsl
   have hns:nsetR (l.map crE)=k:=hk2.symm
   generalize hF:foOf l=F at *
   have hFs:F.s.length=k:=hsl
   have hkF:∀ a b c d:V,kOk .raw (.agg [a,b,c,d])=true:=fun _ _ _ _=>rfl
   simp only [foV,foC] at e7 e8
   have hkn:kOk .ifc .nili=true:=rfl
   have e1:((l.length:Int) == (l.length:Int))=true:=beq_self_eq_true _
   simp only [ev_f,ev_opn,ev_unt,ev_kin,ev_call,ev_loop,at_z,at_s,ks_cons,kBool,ks_nil,Bool.and_self,Bool.or_false,Bool.not_true,bif_t,cons_app,nil_app,evB,evI,evL,evCs,evC,evSC,evAs,evA,evLent,vB_bool,cm_lss,cm_eql,joinL,sizesOk,k_cores,vL_cores,htx,hcc,e5,e7,e8,h1,hkF,k_svs,k_nv,k_rvs,vL_rvs,clr_svs,clr_nv,clr_rvs,hfl,e1,hkn,List.length_map,isNili]
   refine loopT_up (st:=fun i:Nat=>[V.int .i64 ((nsetR ((l.map crE).take i):Nat):Int),V.int .i64 (i:Int)]) (m:=l.length) (fun i hi=>?_) ?_ (by omega)
   ·obtain ⟨c,hc⟩:∃ c,l[i]?=some c:=⟨l[i],by simp [hi]⟩
    obtain ⟨a,ap⟩:=hap i c hc
    obtain ⟨h1c,e1c⟩:=hone c (List.mem_of_getElem? hc)
    obtain ⟨hRc,hfc,_⟩:=rng_of h1c e1c (by simp)
    have e7c:=phE_eq (ev7b (nl:=false) h1c)
    have e8c:=phE_eq (ev8 hRc)
    rw [bV_fo h1c e1c] at e7c
    obtain ⟨apf,apff,aps,apr,apn,apbn⟩:=ap
    rw [hF] at apff aps apr apn
    rw [hFs] at apff apn
    have hble:=nsetR_le (es:=l.map crE) (i+1)
    rw [hns] at hble
    rw [← apbn] at hble
    show evT _ _ _ _ (_++[V.int .i64 ((nsetR ((l.map crE).take i):Nat):Int),V.int .i64 (i:Int)])=some (0,[V.int .i64 ((nsetR ((l.map crE).take (i+1)):Nat):Int),V.int .i64 ((i+1:Nat):Int)])
    rw [← apbn]
    generalize hb:nsetR ((l.map crE).take i)=b at *
    generalize hG:foOf [c]=G at *
    generalize hnn:G.s.length=n at *
    have ha:=hRc.row a (by rw [apf];simp)
    have hnl:=hRc.n
    rw [hnn] at hnl
    have hbd:∀ x:List Int,(x.length≤4000∧∀ y∈x,0≤y∧y<(G.s.length:Int)+(G.f.length:Int))→x.length≤4000∧∀ y∈x,0≤y∧y≤4000:=fun x hx=>⟨hx.1,fun y hy=>by
     have:=hx.2 y hy
     rw [hnn,apf] at this
     simp only [List.length_cons,List.length_nil] at this
     omega⟩
    have hmv:∀ x:List Int,(x.length≤4000∧∀ y∈x,0≤y∧y<(G.s.length:Int)+(G.f.length:Int))→phE Tryz.prog gl2 9 [.d (.agg [svs F.s,nv F.r,rvs F.f,rvs F.n]),.d (nv x),.d (nv (x.map (phiZ k i b n))),.d (.int .i64 (b:Int)),.d (.int .i64 (i:Int)),.d (.int .i64 (n:Int))] []=some (.bool true,[]):=fun x hx =>
     phE_eq (ev9 GL2 F x (phiZ k i b n) b i n (hbd x hx).1 (by omega) (by omega) (by omega) (hbd x hx).2 (fun y=>by unfold phiZ;rw [hFs]))
    have e9:=hmv a ha
    have hsl:=slc_cores (nl:=nl) hc
    have k1:=ltn_t hi
    have k4:=w64s (i:=i) (by omega)
    have k5:lez 0 (i:Int)=true:=lez_t (by omega)
    have k6:lez (i:Int) ((i+1:Nat):Int)=true:=lez_t (by omega)
    have k7:lez ((i+1:Nat):Int) (l.length:Int)=true:=lez_t (by omega)
    have k8:clr (coresV false [c])=coresV false [c]:=clr_cores
    have k9:IntKind.i64.wrap ((b:Int)+(n:Int))=((b+n:Nat):Int):=by rw [w64 (by omega) (by omega)];omega
    have k10:ltz (F.s.length:Int) ((b+n:Nat):Int)=false:=ltz_f (by rw [hFs];omega)
    have k11:=nth_mp (h:=nv) apff
    have k12:ltz (i:Int) 0=false:=ltn_0
    simp only [foV,foC,apf] at e7c e8c
    simp only [lp3_2]
    simp only [ev_t,ev_need,ev_letv,ev_opn,ev_unt,ev_call,at_z,at_s,ks_cons,ks_nil,Bool.and_self,bif_t,cons_app,nil_app,evB,evI,evL,evC,evSC,evAs,evA,evLent,evVE,vI_int,cm_lss,cm_leq,biI,joinL,sizesOk,vL_cores,hsl,e7c,k1,k4,k5,k6,k7,k8,hkF,hkn,k_svs,k_nv,k_rvs,List.length_map]
    rw [ev_t (show evB _ (.nili 17)=true from rfl)]
    simp only [ev_t,ev_kin,ev_call,at_z,at_s,kBool,ks_nil,Bool.and_self,bif_t,cons_app,nil_app,evB,evCs,evC,evSC,evAs,evA,evLent,vB_bool,joinL,sizesOk,e8c,clr_svs,clr_nv,clr_rvs]
    have k14:nth (List.map nv [a]) 0=some (nv a):=rfl
    have k15:(0:Int).toNat=0:=rfl
    have k16:ltz 0 0=false:=rfl
    rw [ev_t (show evB _ (.cmp .eql (.len (.var 20)) (.lit 1))=true from rfl)]
    simp only [ev_t,ev_f,ev_elem,ev_kin,ev_call,ev_loop,at_z,at_s,kBool,ks_nil,Bool.and_self,Bool.not_true,Bool.not_false,bif_t,bif_f,cons_app,nil_app,evB,evI,evL,evCs,evC,evSC,evAs,evA,evLent,vI_int,vB_bool,cm_gtr,biI,joinL,sizesOk,clr_int,e9,k9,k10,k11,k12,k14,k15,k16,k_nv,vL_rvs,vL_svs,clr_svs,clr_nv,clr_rvs,hnn,List.length_map,Int.toNat_natCast]
    refine loopT_up (st:=fun j:Nat=>[V.int .i64 (j:Int)]) (m:=n) (fun j hj=>?_) ?_ (by omega)
    ·obtain ⟨q,hq⟩:∃ q,G.s[j]?=some q:=⟨G.s[j],by simp [hnn,hj]⟩
     obtain ⟨x,hx⟩:∃ x,G.n[j]?=some x:=⟨G.n[j],by simp [hnl,hj]⟩
     have hxr:=hRc.row x (List.mem_append_left _ (List.mem_of_getElem? hx))
     have e9x:=hmv x hxr
     have j1:=ltn_t hj
     have j2:IntKind.i64.wrap ((b:Int)+(j:Int))=((b+j:Nat):Int):=by rw [w64 (by omega) (by omega)];omega
     have j3:=nth_mp (h:=setV) hq
     have j4:=nth_mp (h:=setV) (aps j q hq)
     have j5:=nth_mp (h:=V.int .i64) (apr j hj)
     have j6:=nth_mp (h:=nv) hx
     have j7:=nth_mp (h:=nv) (apn j x hx)
     have j8:ltz ((b+j:Nat):Int) 0=false:=ltn_0
     have j9:ltz (j:Int) 0=false:=ltn_0
     have j10:=w64s (i:=j) (by omega)
     simp only [lp3_1]
     simp only [ev_t,ev_f,ev_out,ev_elem,ev_opn,ev_kin,ev_call,at_z,at_s,ks_cons,kInt,kBool,ks_nil,Bool.and_self,Bool.not_true,bif_t,bif_f,cons_app,nil_app,evB,evI,evL,evCs,evC,evSC,evAs,evA,evLent,vI_int,vB_bool,cm_lss,cm_eql,biI,joinL,sizesOk,clr_int,vL_svs,vL_nv,vL_rvs,j1,j2,j3,j4,j5,j6,j7,j8,j9,j10,e9x,hnn,k_nv,clr_svs,clr_nv,clr_rvs,setV,setOf,beq_self_eq_true,List.length_map,Int.toNat_natCast]
    ·have j1:=ltn_f (Nat.le_refl n)
     simp only [lp3_1]
     simp only [ev_f,ev_out,ev_esc,at_z,at_s,cons_app,nil_app,evB,evI,evL,evCs,evC,vI_int,cm_lss,biI,vL_svs,j1,k4,k9,hnn,List.length_map]
   ·have h2:=ltn_f (Nat.le_refl l.length)
    have h3:nsetR ((l.map crE).take l.length)=k:=by rw [List.take_of_length_le (by simp),hns]
    have h4:((k:Int) == (k:Int))=true:=beq_self_eq_true _
    simp only [lp3_2]
    simp only [ev_t,ev_f,ev_out,ev_esc,ev_letv,ev_kin,ev_call,at_z,at_s,kBool,ks_nil,Bool.and_self,bif_t,cons_app,nil_app,evB,evI,evL,evCs,evC,evSC,evAs,evLent,evVE,vI_int,cm_lss,cm_eql,joinL,sizesOk,clr_bool,vL_cores,vL_svs,h2,h3,hFs,h4,hwk,List.length_map]
  ·obtain ⟨⟨a,b,c,d,hA,ka,kb,kc,kd,ca,cb,cc,cd⟩,hE⟩:=BV_ok l
   obtain ⟨t,v,hE⟩:∃ t v,bE l=.ifc t v:=hE.resolve_left he
   rw [bV,hA,hE] at e7
   have hko:kOk .raw (.agg [a,b,c,d])=true:=rfl
   have hke:kOk .ifc (.ifc t v)=true:=rfl
   simp only [ev_t,ev_f,ev_out,ev_letv,ev_opn,ev_unt,ev_kin,ev_call,at_z,at_s,ks_cons,kBool,ks_nil,Bool.and_self,Bool.or_false,Bool.not_true,Bool.not_false,bif_t,cons_app,nil_app,evB,evI,evL,evCs,evC,evSC,evAs,evA,evLent,evVE,vB_bool,cm_lss,joinL,sizesOk,k_cores,vL_cores,htx,hcc,e5,e7,hwk,h1,hko,hke,ka,kb,kc,kd,List.length_map,isNili]
end Go.Proofs.YtkbdcmehffmfpaaGreatDoor
namespace Go.Proofs.YtkbdcmehffmfpaaGreatDoor
set_option maxRecDepth 100000
open Go Go.Vm
theorem run3 (n:Nat) (xs:List V) (h:Typed Tryz.prog n 25 xs):∃ k,∀ m,k≤m→callA Tryz.prog gl2 m 3 [.agg xs] ⟨[],[]⟩=some (.ret (.bool true),⟨[],[]⟩):=by
 obtain ⟨nl,l,tx,rfl,hl,hr,hw,hc,k1,k2,k3⟩:=typed25 h
 exact Sx.Ev.run (xs:=[.agg [coresV nl l,tx]]) (ev3 nl l hl hw hc k1 k2 k3) ⟨[],[]⟩
end Go.Proofs.YtkbdcmehffmfpaaGreatDoor
namespace Go.Proofs.YtkbdcmehffmfpaaGreatDoor.Apart
set_option maxRecDepth 100000
open Go Go.Vm Go.ChangeShapes Go.WideShapes Go.ChangeAt Go.RowKit
theorem contract (H:Type) (enc:TypeId×Value→H) (W:World) (base:Nat) (args:Array Value) (ds gs:List (DataW H)) (before:List MemPlace)
  (hval:∀ (j:Nat) t v,Tryz.f3.params[j]?=some t→args[j]?=some v→Value.okWide Tryz.prog W .any base t v)
  (hW:DataW.Whole enc Tryz.prog Tryz.f3.params.toList Rows.followApartSpec.vars false W args.toList ds gs before)
  (hwt:(DataW.weightsEach Tryz.prog (Tryz.f3.params.toList++(OpenSpec.ofChange Rows.followApartSpec).bare.plain.varTypes Tryz.prog) (ds++gs)).all (·≤reachBytes)=true) (hL:laidMetH Tryz.prog Rows.followApartRow.laid W) :
  Calls Tryz.prog 3 args W fun e W'=>∃ v,e=.returned v∧Rows.followApartSpec.post enc Tryz.prog Tryz.f3 false true false false W args v W':=by
 have hW':=hW
 obtain ⟨p,q,hA0,hV,rfl,hfz,hnd⟩:=hW
 have hA:DataW.TrodAll enc Tryz.prog W 0 (fun _=>true) true Tryz.f3.params.toList args.toList ds p:=hA0
 rw [Tryz.params3] at hA
 obtain ⟨v0,vs0,d0,ds0,p0,q0,hargs,rfl,rfl,h0,r0⟩:=trodAll_cons hA
 obtain ⟨rfl,rfl,rfl⟩:=trodAll_nil r0
 obtain rfl:args=#[v0]:=by cases args;simp_all
 obtain ⟨n,hn⟩:=h0
 have hw0:∀ w∈d0.weights Tryz.prog 25,w≤reachBytes:=fun w hw=>by
  have:=List.all_eq_true.1 hwt w (by
   rw [Tryz.params3]
   show w∈DataW.weights Tryz.prog 25 d0++_
   exact List.mem_append_left _ hw)
  simpa using this
 obtain ⟨xs,x1,x2,x3⟩:=trod_rel (S:=S0) closed0 n 25 _ _ (by decide) hn hw0
 obtain ⟨cs,rfl,hsz,_⟩:∃ cs,v0=.agg cs∧cs.size=Tryz.prog.cellsOf 25∧Row.okWide Tryz.prog W .any base 25 cs:=by
  have h25:=hval 0 25 v0 (by rw [Tryz.params3];rfl) rfl
  simp only [Value.okWide,Tryz.underlying25] at h25
  exact h25
 have x2':RC (ghOf W) xs cs.toList:=x2
 obtain ⟨k,hk⟩:=run3 n xs x1
 refine (law_calls mixed numOk primOk hk2 (hk k (Nat.le_refl _)) (glOkA hL) ⟨rfl,fun j y v hy hv=>?_,?_,?_⟩).mono fun e W' ⟨he,hb⟩=>⟨_,he,?_⟩
 ·match j,hy,hv with
  | 0,hy,hv=>cases hy;cases hv;exact rc_agg x2'
  | j+1,hy,_=>simp at hy
 ·simp [tops,V.top,rc_tops x2']
 ·intro y hy sz ys e
  simp only [List.mem_singleton] at hy
  subst hy
  simp
 ·exact law_post rfl (show Tryz.f3.resultTypes=#[4] from rfl) Tryz.underlying4 laidOut (by rw [Tryz.params3];intro t ht;simp at ht;subst ht;exact ⟨by kernel_rfl,of_decide_eq_true (by kernel_rfl)⟩) rfl hW' hb
theorem lifted (os:Os) (started:os.Started) (H:Type) (enc:TypeId×Value→H) (F:Stop.Interp) :
  ReturnsInHanded {} Tryz.checked os 3 .any ((OpenSpec.ofChange Rows.followApartSpec).preRow enc Tryz.prog Tryz.f3 Rows.followApartRow.domain false Rows.followApartRow.laid) (((OpenSpec.ofChange Rows.followApartSpec).at F).post enc Tryz.prog Tryz.f3 false true false false):=by
 have hx:∃ places,DataW.whole enc Tryz.prog ((World.doorLaid Tryz.prog 320 os).forCall (fun _ _=>0) ⟨#[],#[.agg #[.slice none 0 0,.slice none 0 0]],[]⟩).memory Tryz.f3.params.toList Rows.followApartSpec.vars false #[Value.agg #[.slice none 0 0,.slice none 0 0]].toList 8=some ([.agg [.nil,.nil]],[],places):=⟨[],by kernel_rfl⟩
 obtain ⟨places,hx⟩:=hx
 refine returnsInHanded_of_row (C:=Tryz.checked) (s:=OpenSpec.ofChange Rows.followApartSpec) own started (by kernel_rfl) Tryz.func3
  (witness_row_atRef (enc:=enc) (C:=Tryz.checked) false (World.doorLaid Tryz.prog 320 os) #[.agg #[.slice none 0 0,.slice none 0 0]] rfl (by kernel_rfl) (by kernel_rfl) (by kernel_rfl)
   (OpenSpec.preRow_of_cond 8 hx (by kernel_rfl) (fun k hk=>by cases hk) (by kernel_rfl) (laidDoorA os _))) ?_
 intro W base args ds gs before hval hW _ _ hwt hL _ _
 exact contract H enc W base args ds gs before hval hW hwt hL
theorem said:Rows.FollowApartSaid :=
 OpenClaim.holds_of_cond 3 Tryz.f3 rfl rfl rfl rfl rfl rfl rfl ⟨rfl,rfl,rfl,rfl,rfl⟩ rfl rfl rfl rfl rfl named Tryz.func3 facts
  (of_decide_eq_true (by kernel_rfl)) (by unfold Func.isWrapper;first|(rw [if_pos (by decide +kernel)];kernel_rfl)|(rw [if_neg (by decide +kernel)];exact ⟨rfl,rfl⟩))
  (fun os started H enc _ F=>by rw [OpenClaim.pre_eq_preRow];exact lifted os started H enc F)
theorem plain (f:FuncId) (fn:Func) (hf:Tryz.pinned.checked.prog.funcNamed "bolter/bolterlaw10.FollowApart"=some f) (hfn:Tryz.pinned.checked.prog.funcs[f]?=some fn) :
  true=Tryz.pinned.checked.prog.looks []∧∀ (j:Nat) t,fn.params[j]?=some t→Tryz.pinned.checked.prog.wantsStandIn t=false:=by
 obtain rfl:f=3:=Option.some.inj ((show Tryz.prog.funcNamed "bolter/bolterlaw10.FollowApart"=some 3 by kernel_rfl).symm.trans hf) |>.symm
 obtain rfl:fn=Tryz.f3:=(Option.some.inj (Tryz.func3.symm.trans hfn)).symm
 refine ⟨by kernel_rfl,fun j t ht=>?_⟩
 rw [Tryz.params3] at ht
 obtain rfl:t=25:=by simpa using Array.mem_of_getElem? ht
 exact (show Tryz.prog.wantsStandIn 25=false by kernel_rfl)
theorem card:Rows.FollowApartCardSaid :=
 Claim7.holds_tied_plain_at .later [] _ _ _ _ said (fun _ h=>by cases h) (by kernel_rfl) (fun _ h=>by cases h) followApart_row_tie rfl ⟨rfl,rfl⟩ (by kernel_rfl) rfl plain (by kernel_rfl)
end Go.Proofs.YtkbdcmehffmfpaaGreatDoor.Apart
