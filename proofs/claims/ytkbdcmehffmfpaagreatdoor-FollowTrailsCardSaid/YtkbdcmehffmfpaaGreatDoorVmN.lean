/- Seat 5: Build, known: expressions told apart by their values; hooks; Seat 5: Build's answer, known; Seat 5: an argument that reads as rules with texts is one; and what follows from it. Conditions: none but those that each theorem names. -/
import Derived.Test.YtkbdcmehffmfpaaGreatDoorVmE
import Derived.Test.YtkbdcmehffmfpaaGreatDoorVmF
import Derived.Test.YtkbdcmehffmfpaaGreatDoorVmI
import Derived.Test.YtkbdcmehffmfpaaGreatDoorVmK
import Derived.Test.YtkbdcmehffmfpaaGreatDoorVmM
namespace Go.Proofs.YtkbdcmehffmfpaaGreatDoor
set_option maxRecDepth 10000
open Go Go.Vm Go.Vm.Sx
mutual
def Can:E → Prop
 | .mk _ _ _ _ _ _ _ _ _ nl args=>(nl = true → args = []) ∧ Cans args
def Cans:List E → Prop
 | []=>True
 | e :: l=>Can e ∧ Cans l
end
theorem argV_inj {nl nl':Bool} {a b:List V} (h1:nl = true → a = []) (h2:nl' = true → b = []) (h:argV nl a = argV nl' b):a = b ∧ nl = nl':=by
 unfold argV at h
 cases nl with
 | true =>
  have:=h1 rfl
  subst this
  cases nl' with
  | true=>exact ⟨(h2 rfl).symm,rfl⟩
  | false=>simp at h
 | false =>
  cases nl' with
  | true =>
   have:=h2 rfl
   subst this
   simp at h
  | false =>
   simp only [Bool.false_and,Bool.false_eq_true,if_false] at h
   injection h with _ h
   exact ⟨h,rfl⟩
mutual
theorem enc_inj:∀ (e e':E),Can e → Can e' → enc e = enc e' → e = e'
 | .mk op pl s0 s1 s2 s3 tx mn mx nl args,.mk op' pl' s0' s1' s2' s3' tx' mn' mx' nl' args',h,h',he=>by
  simp only [enc] at he
  injection he with he
  simp only [List.cons.injEq,V.int.injEq,V.str.injEq,true_and,and_true] at he
  obtain ⟨e1,e2,e3,e4,e5,e6,e7,e8,e9,e10⟩:=he
  obtain ⟨f1,f2⟩:=argV_inj (fun hn=>by rw [h.1 hn];rfl) (fun hn=>by rw [h'.1 hn];rfl) e10
  have:=encs_inj args args' h.2 h'.2 f1
  subst e1 e2 e3 e4 e5 e6 e7 e8 e9 f2 this
  rfl
theorem encs_inj:∀ (l l':List E),Cans l → Cans l' → encs l = encs l' → l = l'
 | [],[],_,_,_=>rfl
 | [],_ :: _,_,_,h=>by simp [encs] at h
 | _ :: _,[],_,_,h=>by simp [encs] at h
 | a :: l,b :: l',h,h',he=>by
  simp only [encs,List.cons.injEq] at he
  rw [enc_inj a b h.1 h'.1 he.1,encs_inj l l' h.2 h'.2 he.2]
end
def CanC (c:Cr):Prop:=Can c.1 ∧ Can c.2.2
theorem crV_inj {c c':Cr} (h:CanC c) (h':CanC c') (he:crV c = crV c'):c = c':=by
 obtain ⟨a,t,b⟩:=c
 obtain ⟨a',t',b'⟩:=c'
 simp only [crV,crC,V.agg.injEq,List.append_assoc] at he
 have hl:(ecells a).length = (ecells a').length:=by rw [ecells_len,ecells_len]
 obtain ⟨e1,e2⟩:=List.append_inj he hl
 simp only [List.cons_append,List.nil_append,List.cons.injEq,V.bool.injEq] at e2
 have h1:=enc_inj a a' h.1 h'.1 (by rw [enc_cells,enc_cells,e1])
 have h2:=enc_inj b b' h.2 h'.2 (by rw [enc_cells,enc_cells,e2.2])
 subst h1 h2
 rw [e2.1]
theorem cores_inj {nl nl':Bool}:∀ {l l':List Cr},(∀ c ∈ l,CanC c) → (∀ c ∈ l',CanC c) → coresV nl l = coresV nl' l' → l = l':=by
 intro l l' h h' he
 have hm:l.map crV = l'.map crV:=by
  have e1:=vL_cores nl l
  have e2:=vL_cores nl' l'
  rw [← e1,he,e2]
 clear he
 induction l generalizing l' with
 | nil=>cases l' with
  | nil=>rfl
  | cons a l'=>simp at hm
 | cons a l ih=>cases l' with
  | nil=>simp at hm
  | cons b l' =>
   simp only [List.map_cons,List.cons.injEq] at hm
   rw [crV_inj (h a (List.mem_cons_self ..)) (h' b (List.mem_cons_self ..)) hm.1,ih (fun c hc=>h c (List.mem_cons_of_mem _ hc)) (fun c hc=>h' c (List.mem_cons_of_mem _ hc)) hm.2]
structure GdL (l:List Cr):Prop where
 len:l.length ≤ maxLen
 wf:∀ c ∈ l,WfC c
 can:∀ c ∈ l,CanC c
 nod:200 < l.length ∨ ∀ c ∈ l,nodes c.1 ≤ 1800 ∧ nodes c.2.2 ≤ 1800
open Classical in
noncomputable def hkBy (F:List Cr → V) (args:List V):Option V :=
 if h:∃ p:Bool × List Cr,GdL p.2 ∧ args = [coresV p.1 p.2] then some (F (Classical.choose h).2) else none
theorem hkBy_eq {F:List Cr → V} {nl:Bool} {l:List Cr} (h:GdL l):hkBy F [coresV nl l] = some (F l):=by
 unfold hkBy
 have hex:∃ p:Bool × List Cr,GdL p.2 ∧ [coresV nl l] = [coresV p.1 p.2]:=⟨(nl,l),h,rfl⟩
 rw [dif_pos hex]
 have hs:=Classical.choose_spec hex
 have e:=List.cons.inj hs.2
 rw [cores_inj hs.1.can h.can e.1.symm]
theorem hkBy_some {F:List Cr → V} {args:List V} {v:V} (h:hkBy F args = some v):∃ nl l,GdL l ∧ args = [coresV nl l] ∧ v = F l:=by
 unfold hkBy at h
 split at h
 ·rename_i hex
  have hs:=Classical.choose_spec hex
  exact ⟨_,_,hs.1,hs.2,(Option.some.inj h).symm⟩
 ·cases h
theorem top_bru:∀ v ∈ bruT,v.top = 0:=by
 intro v hv
 obtain ⟨n,_,rfl⟩:=List.mem_map.1 hv
 rfl
theorem top_glw:∀ g off v,glw g off = some v → v.top = 0:=by
 intro g off v h'
 unfold glw glT at h'
 split at h'
 ·rename_i vs hvs
  have:=tabA_mem hvs
  simp only [List.mem_singleton,Prod.mk.injEq] at this
  obtain ⟨_,rfl⟩:=this
  rw [nth_eq] at h'
  exact top_bru v (List.mem_of_getElem? h')
 ·unfold glOf at h'
  split at h' <;> simp only [Option.some.injEq,reduceCtorEq] at h'
  subst h';rfl
def gl0:Gl:={ g:=glw,hk:=fun _ _=>none }
instance : NoU gl0:=⟨fun _=>rfl,fun _ _ _ _=>rfl⟩
theorem GL0:GL gl0:=⟨top_glw,fun _ _ _=>rfl⟩
theorem hk0:HkOk Tryz.prog gl0:=⟨fun f args v h=>(by cases h),fun n f args H out H' h=>(by cases h)⟩
def mayV (l:List Cr):V:=.tup [.int .i64 (mayM l).1,.bool (mayM l).2]
noncomputable def glb:Gl:={ g:=glw,uq:=uqw,hk:=fun f args=>if Nat.beq f 16 then hkBy mayV args else none }
theorem hkb:HkOk Tryz.prog glb:=by
 refine ⟨fun f args v h d H g w cargs lc h1 h2 h3=>?_,fun n f args H out H' h=>(by cases h)⟩
 simp only [glb] at h
 split at h
 ·rename_i hf
  obtain rfl:f = 16:=Nat.eq_of_beq_eq_true hf
  obtain ⟨nl,l,hg,rfl,rfl⟩:=hkBy_some h
  obtain ⟨k,hk⟩:=Sx.Ev.run (xs:=[coresV nl l]) (ev16 GL0 nl l hg.len hg.wf) ⟨[],[]⟩
  exact hk_pure mixed numOk primOk hk0 (hk k (Nat.le_refl _)) (by simp [tops,top_cores]) rfl h1 h2 h3
 ·cases h
theorem GWb:GW glb where
 uq:=rfl
 hk2:=fun _ _ _ _=>rfl
 tab:=fun o ho=>by
  show glT 290 ks [(3,bruT)] 3 o = nth bruT o
  rfl
 hk:=fun f args h=>by
  show (if Nat.beq f 16 then hkBy mayV args else none) = none
  rw [if_neg]
  intro hf
  have:=Nat.eq_of_beq_eq_true hf
  subst this
  revert h
  decide
end Go.Proofs.YtkbdcmehffmfpaaGreatDoor
namespace Go.Proofs.YtkbdcmehffmfpaaGreatDoor
set_option maxRecDepth 10000
open Go Go.Vm Go.Vm.Sx
def foOf (l:List Cr):Fo :=
 ⟨(rulesM (mayM l).1.toNat 0 (l.map crE) m0).2.sets,(rulesM (mayM l).1.toNat 0 (l.map crE) m0).2.rules,(rulesM (mayM l).1.toNat 0 (l.map crE) m0).1.map (·.map Int.ofNat),(rulesM (mayM l).1.toNat 0 (l.map crE) m0).2.next.map fun p=>(preN p 19).map Int.ofNat⟩
def er0:V:=.ifc 290 (.obj 0)
def er1:V:=.ifc 290 (.obj 1)
def bA (l:List Cr):List V:=bif (mayM l).2 then (if 1000 < (mayM l).1 then zF else foC (foOf l)) else zF
def bE (l:List Cr):V:=bif (mayM l).2 then (if 1000 < (mayM l).1 then er1 else .nili) else er0
def bV (l:List Cr):V:=.tup [.agg (bA l),bE l]
theorem own_lv {n:Nat} {e:TypeId} {xs:List V}:clr (ownL n e xs) = lv n true xs:=by cases xs <;> rfl
theorem rowV_nv (l:List Nat):rowV l = nv (l.map Int.ofNat):=by
 unfold rowV nv
 rw [own_lv,List.map_map]
 rfl
theorem may_ok:∀ (l:List Cr) (p:Int),(∀ c ∈ l,nodes c.1 ≤ 1800 ∧ nodes c.2.2 ≤ 1800) → 0 ≤ p → p ≤ 1001 → (mayF p l).2 = true → (mayF p l).1 ≤ 1000 → (mayF p l).1 = p + (nsetR (l.map crE):Int) ∧ p ≤ 1000 ∧ ∀ e ∈ l.map crE,gd e = true
 | [],p,_,h0,h1,_,h2=>by
  simp only [mayF] at h2 ⊢
  exact ⟨by simp [nsetR],h2,fun e he=>by cases he⟩
 | c :: l,p,h,h0,h1,hok,h2=>by
  obtain ⟨n1,n2⟩:=h c (List.mem_cons_self ..)
  simp only [mayF] at hok h2 ⊢
  cases ho:okC' c with
  | false=>rw [ho] at hok;cases hok
  | true =>
   rw [ho] at hok h2
   simp only [cond_true] at hok h2 ⊢
   have k1:=nset_le c.1
   have k2:=nset_le c.2.2
   have hsz:∀ e:E,nodes e ≤ 4000 → 0 ≤ sizP e ∧ sizP e ≤ 1001:=fun e he=>by
    rw [siz_gd he]
    split
    ·split <;> omega
    ·omega
   have hs1:=hsz c.1 (by omega)
   have hs2:=hsz c.2.2 (by omega)
   have hadd:addS p c = if 1001 < p + sizP c.1 + sizP c.2.2 then 1001 else p + sizP c.1 + sizP c.2.2:=by
    unfold addS
    rw [w64 (x:=p + sizP c.1) (by omega) (by omega),w64 (by omega) (by omega)]
    by_cases h4:1001 < p + sizP c.1 + sizP c.2.2
    ·rw [ltz_t h4,if_pos h4];rfl
    ·rw [ltz_f (by omega),if_neg h4];rfl
   have hb:0 ≤ addS p c ∧ addS p c ≤ 1001:=by rw [hadd];split <;> omega
   obtain ⟨g1,g2,g3⟩:=may_ok l (addS p c) (fun c hc=>h c (List.mem_cons_of_mem _ hc)) hb.1 hb.2 hok h2
   have h4:¬ (1001 < p + sizP c.1 + sizP c.2.2):=fun h4=>by rw [hadd,if_pos h4] at g2;omega
   have hadd2:addS p c = p + sizP c.1 + sizP c.2.2:=by rw [hadd,if_neg h4]
   rw [hadd2] at g2
   simp only [okC',Bool.and_eq_true] at ho
   obtain ⟨o1,o2⟩:=ho
   rw [chk_gd (by omega)] at o1
   have hsa:=siz_gd (show nodes c.1 ≤ 4000 by omega)
   rw [o1] at hsa
   simp only [if_true] at hsa
   have hsa':sizP c.1 = nset c.1:=by
    rw [hsa]
    by_cases hx:1001 < (nset c.1:Int)
    ·rw [if_pos hx] at hsa;omega
    ·rw [if_neg hx]
   have hcr:gd (crE c) = true ∧ (nset (crE c):Int) = sizP c.1 + sizP c.2.2:=by
    cases hb:c.2.1 with
    | false =>
     rw [hb] at o2
     simp only [cond_false] at o2
     have:crE c = c.1:=by simp [crE,hb]
     have hz:sizP c.2.2 = 0:=by rw [siz_gd (by omega),zero_not o2];rfl
     rw [this,hz,hsa']
     exact ⟨o1,by omega⟩
    | true =>
     rw [hb] at o2
     simp only [cond_true] at o2
     rw [chk_gd (by omega)] at o2
     have:crE c = .mk 5 0 0 0 0 0 [] 0 0 false [c.1,c.2.2]:=by simp [crE,hb]
     have hsb:=siz_gd (show nodes c.2.2 ≤ 4000 by omega)
     rw [o2] at hsb
     simp only [if_true] at hsb
     have hsb':sizP c.2.2 = nset c.2.2:=by
      rw [hsb]
      by_cases hx:1001 < (nset c.2.2:Int)
      ·rw [if_pos hx] at hsb;omega
      ·rw [if_neg hx]
     have e1:leanB (.mk 5 0 0 0 0 0 [] 0 0 false [c.1,c.2.2]) = true:=rfl
     have e2:kindB (.mk 5 0 0 0 0 0 [] 0 0 false [c.1,c.2.2]) = true:=rfl
     rw [this,hsa',hsb']
     refine ⟨by simp only [gd,e1,e2,gdF,o1,o2,Bool.and_self],?_⟩
     simp only [nset,nsetF,show ((5:Int) == 2) = false from rfl,Bool.false_eq_true,if_false]
     omega
   refine ⟨?_,by omega,fun e he=>?_⟩
   ·rw [g1,hadd2]
    simp only [List.map_cons,nsetR]
    push_cast
    omega
   ·simp only [List.map_cons,List.mem_cons] at he
    rcases he with rfl | he
    ·exact hcr.1
    ·exact g3 e he
mutual
theorem wE_nodes:∀ e:E,wE e + 2 ≤ 5 * nodes e
 | .mk _ _ _ _ _ _ _ _ _ _ args=>by
  have:=wLs_nodes args
  simp only [wE,nodes]
  omega
theorem wLs_nodes:∀ l:List E,wLs l ≤ 5 * nodesF l
 | []=>by simp [wLs,nodesF]
 | a :: l=>by
  have:=wE_nodes a
  have:=wLs_nodes l
  simp only [wLs,nodesF]
  omega
end
theorem build_known (nl:Bool) (l:List Cr) (h:GdL l):∃ u H',callA Tryz.prog glb 30001 7 [coresV nl l] ⟨[],[]⟩ = some (.ret u,H') ∧ Frz H' u (bV l):=by
 have hm:glb.hk 16 [coresV nl l] = some (mayV l):=hkBy_eq h
 have g0:glb.g 0 0 = some er0:=by kernel_rfl
 have g1:glb.g 1 0 = some er1:=by kernel_rfl
 obtain ⟨p,ok,hpo⟩:∃ p ok,mayM l = (p,ok):=⟨_,_,rfl⟩
 rw [mayV,hpo] at hm
 simp only at hm
 by_cases hbad:ok = false ∨ 1000 < p
 ·refine ⟨_,_,build_err GWb (n:=30000) (by omega) hm g0 g1 rfl rfl ⟨_,_,rfl⟩ ⟨_,_,rfl⟩ hbad,?_⟩
  have:bV l = .tup [.agg zF,if ok then er1 else er0]:=by
   rw [bV,bA,bE,hpo]
   cases ok with
   | false=>rfl
   | true =>
    have:1000 < p:=by rcases hbad with h | h;cases h;exact h
    simp only [cond_true,if_pos this,if_true]
  rw [this]
  exact .same (by cases ok <;> rfl)
 ·have hok:ok = true:=by cases ok with
   | false=>exact absurd (.inl rfl) hbad
   | true=>rfl
  subst hok
  have hp:p ≤ 1000:=by
   rcases Int.lt_or_le 1000 p with h | h
   ·exact absurd (.inr h) hbad
   ·exact h
  have hlen:l.length ≤ 200 ∧ mayF 0 l = (p,true):=by
   unfold mayM at hpo
   cases hx:ltz 200 (l.length:Int) with
   | true=>rw [hx] at hpo;simp at hpo
   | false =>
    rw [hx] at hpo
    simp only [cond_false] at hpo
    refine ⟨?_,hpo⟩
    rcases Nat.lt_or_ge 200 l.length with hh | hh
    ·rw [ltz_t (by omega)] at hx;cases hx
    ·exact hh
  have hnod:∀ c ∈ l,nodes c.1 ≤ 1800 ∧ nodes c.2.2 ≤ 1800:=by
   rcases h.nod with hh | hh
   ·omega
   ·exact hh
  obtain ⟨m1,_,m3⟩:=may_ok l 0 hnod (by omega) (by omega) (by rw [hlen.2]) (by rw [hlen.2];exact hp)
  rw [hlen.2] at m1
  simp only [Int.zero_add] at m1
  obtain ⟨k,rfl⟩:∃ k:Nat,p = k:=⟨nsetR (l.map crE),m1⟩
  have hkn:k = nsetR (l.map crE):=by omega
  obtain ⟨r1,r2,r3⟩:=rules_inv (n:=k) (l.map crE) 0 m0 m3 ⟨rfl,rfl⟩ (by simp [m0];omega) (by rw [List.length_map];omega) (fun x hx=>by simp [m0] at hx)
  have hnc:∀ c ∈ l,nodes (crE c) ≤ 3601:=fun c hc=>by
   obtain ⟨a1,a2⟩:=hnod c hc
   unfold crE
   split
   ·simp only [nodes,nodesF];omega
   ·omega
  obtain ⟨H',N,hc,hN⟩:=build_run GWb (n:=30000) (k:=k) hm (by omega) hlen.1 (by rw [r1];simp [m0];omega) (rich_ne r2) (fun c hc=>by have:=wE_nodes (crE c);have:=hnc c hc;omega) (by omega)
  refine ⟨_,H',hc,?_⟩
  have hbv:bV l = .tup [foV (foOf l),.nili]:=by
   rw [bV,bA,bE,hpo]
   simp only [cond_true,if_neg (show ¬ (1000 < (k:Int)) by omega)]
   rfl
  have hfo:foOf l = ⟨(rulesM k 0 (l.map crE) m0).2.sets,(rulesM k 0 (l.map crE) m0).2.rules,(rulesM k 0 (l.map crE) m0).1.map (·.map Int.ofNat),(rulesM k 0 (l.map crE) m0).2.next.map fun p=>(preN p 19).map Int.ofNat⟩:=by
   rw [foOf,hpo]
   simp only [Int.toNat_natCast]
  rw [hbv,hfo]
  generalize hR:rulesM k 0 (l.map crE) m0 = R at *
  obtain ⟨FT,MT⟩:=R
  simp only at hN r2 ⊢
  have hrich:=rich_ne r2
  have e1:clr (ownL 4 41 MT.setsV) = svs MT.sets:=own_lv
  have e2:clr (ownL 1 3 MT.rulesV) = nv MT.rules:=own_lv
  have e3:clr (ownL 1 29 (FT.map rowV)) = rvs (FT.map (·.map Int.ofNat)):=by
   rw [own_lv,rvs,List.map_map]
   congr 1
   exact List.map_congr_left fun a _=>rowV_nv a
  rw [e1,e2,e3]
  have hrow:∀ p ∈ MT.next,nv ((preN p 19).map Int.ofNat) = .sl 1 ((preN p 19).map natV) .no:=fun p hp=>by
   have hne:=hrich p hp
   rw [← rowV_nv]
   unfold rowV
   cases hx:preN p 19 with
   | nil=>exact absurd hx hne
   | cons a b=>rfl
  have e4:Frz H' (clr (ownL 1 29 N)) (rvs (MT.next.map fun p=>(preN p 19).map Int.ofNat)):=by
   rw [own_lv,rvs,List.map_map]
   cases hx:MT.next with
   | nil =>
    have:N = []:=List.eq_nil_of_length_eq_zero (by rw [hN.1,hx];rfl)
    rw [this]
    exact .same rfl
   | cons a b =>
    have hNn:N ≠ []:=fun e=>by have:=hN.1;rw [e,hx] at this;simp at this
    have hl1:lv 1 true N = .sl 1 N .no:=by
     cases N with
     | nil=>exact absurd rfl hNn
     | cons x y=>rfl
    rw [hl1,← hx]
    have hl2:lv 1 true (MT.next.map ((nv ∘ fun p=>(preN p 19).map Int.ofNat))) = .sl 1 (MT.next.map ((nv ∘ fun p=>(preN p 19).map Int.ofNat))) .no:=by rw [hx];rfl
    rw [hl2]
    refine .sl (by rw [List.length_map,hN.1]) (fun j x hj=>?_) (fun j y hj=>?_) (fun j x y hj hy=>?_)
    ·have hjl:j < MT.next.length:=by rw [← hN.1];exact (List.getElem?_eq_some_iff.1 hj).1
     obtain ⟨bb,f1,f2⟩:=hN.2 j _ (List.getElem?_eq_getElem hjl)
     rw [hj] at f1
     cases f1
     exact ⟨rfl,rfl⟩
    ·rw [List.getElem?_map] at hj
     obtain ⟨q,hq,rfl⟩:=Option.map_eq_some_iff.1 hj
     simp only [Function.comp_apply,hrow q (List.mem_of_getElem? hq)]
     exact ⟨rfl,rfl⟩
    ·rw [List.getElem?_map] at hy
     obtain ⟨q,hq,rfl⟩:=Option.map_eq_some_iff.1 hy
     obtain ⟨bb,f1,f2⟩:=hN.2 j q hq
     rw [hj] at f1
     cases f1
     simp only [Function.comp_apply,hrow q (List.mem_of_getElem? hq)]
     have hf:=Frz.sr (H:=H') (b:=bb) (off:=0) (len:=(preN q 19).length) (cs:=(preN q 19).map natV) (t:=3) (by rw [← nth_eq];exact f2) (tops_mp (fun _=>rfl) _) (by simp)
     rwa [List.drop_zero,List.take_of_length_le (by simp)] at hf
  refine .tup rfl fun j x y hx hy=>?_
  match j,hx,hy with
  | 0,hx,hy =>
   cases hx;cases hy
   refine .agg rfl (fun i y hy=>?_) fun i x y hx hy=>?_
   ·have:∀ sz nl (l:List V),(lv sz nl l).one = true:=fun sz nl l=>by
     rcases lv_cases sz nl l with h | ⟨_,h⟩ <;> rw [h] <;> rfl
    match i,hy with
    | 0,hy=>cases hy;exact this ..
    | 1,hy=>cases hy;exact this ..
    | 2,hy=>cases hy;exact this ..
    | 3,hy=>cases hy;exact this ..
    | i + 4,hy=>simp [foC] at hy
   ·match i,hx,hy with
    | 0,hx,hy=>cases hx;cases hy;exact .same (top_svs _)
    | 1,hx,hy=>cases hx;cases hy;exact .same (top_nv _)
    | 2,hx,hy=>cases hx;cases hy;exact .same (top_rvs _)
    | 3,hx,hy=>cases hx;cases hy;exact e4
    | i + 4,hx,hy=>simp at hx
  | 1,hx,hy=>cases hx;cases hy;exact .same rfl
  | j + 2,hx,hy=>simp at hx
noncomputable def gl1:Gl:={ g:=glw,hk:=fun f args=>if Nat.beq f 6 then (match args with | []=>some (.bool true) | _=>none) else if Nat.beq f 7 then hkBy bV args else none }
theorem ok1:HooksOk Tryz.prog glw hooks1:=hooks_cons mixed numOk primOk hooks_nil (parse_run 0) rfl rfl
theorem ok2:HooksOk Tryz.prog glw (hooks2 ++ hooks1):=hooks_cons mixed numOk primOk ok1 (read_run 0) rfl rfl
theorem ok3:HooksOk Tryz.prog glw ((6,[],.bool true) :: (hooks2 ++ hooks1)):=hooks_cons mixed numOk primOk ok2 (wakes_run 0) rfl rfl
theorem hk1:HkOk Tryz.prog gl1:=by
 refine ⟨fun f args v h d H g w cargs lc h1 h2 h3=>?_,fun n f args H out H' h=>(by cases h)⟩
 simp only [gl1] at h
 split at h
 ·rename_i hf
  obtain rfl:f = 6:=Nat.eq_of_beq_eq_true hf
  split at h
  ·cases h
   exact ok3.pure 6 [] (.bool true) rfl d H g w cargs lc h1 h2 h3
  ·cases h
 ·split at h
  ·rename_i hf
   obtain rfl:f = 7:=Nat.eq_of_beq_eq_true hf
   obtain ⟨nl,l,hg,rfl,rfl⟩:=hkBy_some h
   obtain ⟨u,H',hc,hz⟩:=build_known nl l hg
   exact hk_frz mixed numOk primOk hkb hc (by simp [tops,top_cores]) hz (fun sz xs e=>by simp [bV]) h1 h2 h3
  ·cases h
instance : NoU gl1:=⟨fun _=>rfl,fun _ _ _ _=>rfl⟩
theorem GL1:GL gl1 where
 top:=top_glw
 no:=fun f hf args=>by
  simp only [List.any_cons,List.any_nil,Bool.or_false,Bool.or_eq_false_iff] at hf
  simp only [gl1,hf.1,hf.2,Bool.false_eq_true,if_false]
theorem top_bV (l:List Cr):(bV l).top = 0:=by
 have hz:tops zF = 0:=rfl
 have hA:tops (bA l) = 0:=by
  unfold bA
  cases (mayM l).2 with
  | false=>exact hz
  | true =>
   simp only [cond_true]
   split
   ·exact hz
   ·exact top_fo _
 have hE:(bE l).top = 0:=by
  unfold bE
  cases (mayM l).2 with
  | false=>rfl
  | true=>simp only [cond_true];split <;> rfl
 simp [bV,V.top,tops,hA,hE]
theorem ev7 {nl:Bool} {l:List Cr} (h:GdL l):Ev Tryz.prog gl1 7 [.d (coresV nl l)] [] (bV l) [] :=
 Sx.Ev.hook (xs:=[coresV nl l]) (show gl1.hk 7 [coresV nl l] = some (bV l) from hkBy_eq h) (top_bV l)
end Go.Proofs.YtkbdcmehffmfpaaGreatDoor
namespace Go.Proofs.YtkbdcmehffmfpaaGreatDoor
set_option maxRecDepth 10000
open Go Go.Vm
theorem c45:Tryz.prog.cellsOf 45 = 10:=by kernel_rfl
theorem c47:Tryz.prog.cellsOf 47 = 21:=by kernel_rfl
theorem c41:Tryz.prog.cellsOf 41 = 4:=by kernel_rfl
theorem c39:Tryz.prog.cellsOf 39 = 1:=by kernel_rfl
theorem c43:Tryz.prog.cellsOf 43 = 1:=by kernel_rfl
theorem c9:Tryz.prog.cellsOf 9 = 1:=by kernel_rfl
theorem c3':Tryz.prog.cellsOf 3 = 1:=by kernel_rfl
theorem c4':Tryz.prog.cellsOf 4 = 1:=by kernel_rfl
theorem c22:Tryz.prog.cellsOf 22 = 1:=by kernel_rfl
theorem c23:Tryz.prog.cellsOf 23 = 1:=by kernel_rfl
theorem c197:Tryz.prog.cellsOf 197 = 1:=by kernel_rfl
theorem c25:Tryz.prog.cellsOf 25 = 2:=by kernel_rfl
theorem b47:Tryz.prog.bytesOf 47 = 216:=by kernel_rfl
theorem mk45 (cs:List V):mkEl Tryz.prog 45 cs = .agg cs:=by
 have:isAggT Tryz.prog 45 = true:=by kernel_rfl
 simp only [mkEl,this,if_true]
theorem mk47 (cs:List V):mkEl Tryz.prog 47 cs = .agg cs:=by
 have:isAggT Tryz.prog 47 = true:=by kernel_rfl
 simp only [mkEl,this,if_true]
theorem typed3 {n:Nat} {xs:List V} (h:Typed Tryz.prog n 3 xs):∃ z,xs = [.int .i64 z]:=by
 cases n with
 | zero=>exact h.elim
 | succ n =>
  simp only [Typed,Tryz.underlying3] at h
  obtain ⟨z,h,_⟩:=h;exact ⟨z,h⟩
theorem typed4 {n:Nat} {xs:List V} (h:Typed Tryz.prog n 4 xs):∃ b,xs = [.bool b]:=by
 cases n with
 | zero=>exact h.elim
 | succ n =>
  simp only [Typed,Tryz.underlying4] at h
  exact h
theorem typed39 {n:Nat} {xs:List V} (h:Typed Tryz.prog n 39 xs):∃ z,xs = [.int .u64 z]:=by
 cases n with
 | zero=>exact h.elim
 | succ n =>
  simp only [Typed,Tryz.underlying39] at h
  obtain ⟨z,h,_⟩:=h;exact ⟨z,h⟩
theorem typed9 {n:Nat} {xs:List V} (h:Typed Tryz.prog n 9 xs):∃ s,xs = [.str s] ∧ (∀ b ∈ s,b < 256) ∧ s.length ≤ maxLen:=by
 cases n with
 | zero=>exact h.elim
 | succ n =>
  simp only [Typed,Tryz.underlying9] at h
  exact h
theorem typed41 {n:Nat} {xs:List V} (h:Typed Tryz.prog n 41 xs):∃ a b c d,xs = [.int .u64 a,.int .u64 b,.int .u64 c,.int .u64 d]:=by
 cases n with
 | zero=>exact h.elim
 | succ n =>
  simp only [Typed,Tryz.underlying41,c41,c39] at h
  obtain ⟨hl,h⟩:=h
  match xs,hl with
  | [x,y,z,w],_ =>
   obtain ⟨a,ha⟩:=typed39 (h 0 (by omega))
   obtain ⟨b,hb⟩:=typed39 (h 1 (by omega))
   obtain ⟨c,hc⟩:=typed39 (h 2 (by omega))
   obtain ⟨d,hd⟩:=typed39 (h 3 (by omega))
   simp at ha hb hc hd
   exact ⟨a,b,c,d,by rw [ha,hb,hc,hd]⟩
theorem encs_ex:∀ (ys:List V),(∀ y ∈ ys,∃ e,enc e = y ∧ Wf e ∧ Can e) → ∃ l,encs l = ys ∧ Wfs l ∧ Cans l
 | [],_=>⟨[],rfl,trivial,trivial⟩
 | y :: ys,h=>by
  obtain ⟨e,h1,h2,h5⟩:=h y List.mem_cons_self
  obtain ⟨l,h3,h4,h6⟩:=encs_ex ys fun z hz=>h z (List.mem_cons_of_mem _ hz)
  exact ⟨e :: l,by simp [encs,h1,h3],⟨h2,h4⟩,h5,h6⟩
theorem list_ex {α:Type} {h:α → V} {Q:α → Prop}:∀ (ys:List V),(∀ y ∈ ys,∃ a,h a = y ∧ Q a) → ∃ l:List α,l.map h = ys ∧ ∀ a ∈ l,Q a
 | [],_=>⟨[],rfl,fun _ h=>by simp at h⟩
 | y :: ys,hy=>by
  obtain ⟨a,h1,h2⟩:=hy y (List.mem_cons_self ..)
  obtain ⟨l,h3,h4⟩:=list_ex ys fun z hz=>hy z (List.mem_cons_of_mem _ hz)
  refine ⟨a :: l,by simp [h1,h3],fun b hb=>?_⟩
  rcases List.mem_cons.1 hb with rfl | hb
  ·exact h2
  ·exact h4 b hb
mutual
theorem typedE:∀ (n:Nat) (xs:List V),Typed Tryz.prog n 45 xs → ∃ e,enc e = .agg xs ∧ Wf e ∧ Can e
 | 0,_,h=>h.elim
 | n + 1,xs,h=>by
  simp only [Typed,Tryz.underlying45,c45] at h
  obtain ⟨hl,h⟩:=h
  have f0:=h ⟨"Op",3,0,false,"","",0⟩ (by simp)
  have f1:=h ⟨"At",3,1,false,"","",8⟩ (by simp)
  have f2:=h ⟨"Set",41,2,false,"","",16⟩ (by simp)
  have f3:=h ⟨"Text",9,6,false,"","",48⟩ (by simp)
  have f4:=h ⟨"Min",3,7,false,"","",64⟩ (by simp)
  have f5:=h ⟨"Max",3,8,false,"","",72⟩ (by simp)
  have f6:=h ⟨"Args",43,9,false,"","",80⟩ (by simp)
  clear h
  simp only [c3',c41,c9,c43] at f0 f1 f2 f3 f4 f5 f6
  match xs,hl with
  | [x0,x1,x2,x3,x4,x5,x6,x7,x8,x9],_ =>
   simp only [List.drop_succ_cons,List.drop_zero,List.take_succ_cons,List.take_zero] at f0 f1 f2 f3 f4 f5 f6
   obtain ⟨op,h0⟩:=typed3 f0
   obtain ⟨pl,h1⟩:=typed3 f1
   obtain ⟨a,b,c,d,h2⟩:=typed41 f2
   obtain ⟨s,h3,_,hs⟩:=typed9 f3
   obtain ⟨mn,h4⟩:=typed3 f4
   obtain ⟨mx,h5⟩:=typed3 f5
   obtain ⟨nl,l,h6,h7,h8,h9,h10⟩:=typedL n x9 f6
   simp only [List.cons.injEq,and_true] at h0 h1 h2 h3 h4 h5
   obtain ⟨rfl,rfl,rfl,rfl⟩:=h2
   subst h0 h1 h3 h4 h5 h6
   exact ⟨.mk op pl a b c d s mn mx nl l,rfl,⟨hs,h7,h8⟩,h10,h9⟩
theorem typedL:∀ (n:Nat) (v:V),Typed Tryz.prog n 43 [v] → ∃ nl l,v = argV nl (encs l) ∧ l.length ≤ maxLen ∧ Wfs l ∧ Cans l ∧ (nl = true → l = [])
 | 0,_,h=>h.elim
 | n + 1,v,h=>by
  simp only [Typed,Tryz.underlying43,c45] at h
  rcases h with h | ⟨ys,h,⟨hl,_⟩,hy⟩
  ·simp only [List.cons.injEq,and_true] at h
   exact ⟨true,[],by rw [h];rfl,by simp,trivial,trivial,fun _=>rfl⟩
  ·simp only [List.cons.injEq,and_true] at h
   obtain ⟨l,h1,h2,h3⟩:=encs_ex ys fun y hyy=>by
    obtain ⟨cs,g1,g2⟩:=hy y hyy
    rw [mk45] at g2
    rw [g2]
    exact typedE n cs g1
   subst h1
   rw [encs_length] at hl
   exact ⟨false,l,by rw [h];rfl,hl,h2,h3,fun h=>by cases h⟩
end
theorem typed47 {n:Nat} {xs:List V} (h:Typed Tryz.prog n 47 xs):∃ c:Cr,crV c = .agg xs ∧ WfC c ∧ CanC c:=by
 cases n with
 | zero=>exact h.elim
 | succ n =>
  simp only [Typed,Tryz.underlying47,c47] at h
  obtain ⟨hl,h⟩:=h
  have f0:=h ⟨"Head",45,0,false,"","",0⟩ (by simp)
  have f1:=h ⟨"HasTrail",4,10,false,"","",104⟩ (by simp)
  have f2:=h ⟨"Trail",45,11,false,"","",112⟩ (by simp)
  clear h
  simp only [c45,c4'] at f0 f1 f2
  rw [List.drop_zero] at f0
  obtain ⟨a,ha,wa,ka⟩:=typedE n _ f0
  obtain ⟨t,ht⟩:=typed4 f1
  obtain ⟨b,hb,wb,kb⟩:=typedE n _ f2
  refine ⟨(a,t,b),?_,⟨wa,wb⟩,ka,kb⟩
  rw [enc_cells,V.agg.injEq] at ha hb
  simp only [crV,crC,ha,hb]
  rw [V.agg.injEq,List.append_assoc,← ht]
  have e3:(xs.drop 11).take 10 = xs.drop 11:=List.take_of_length_le (by simp;omega)
  have e4:xs.drop 11 = (xs.drop 10).drop 1:=by rw [List.drop_drop]
  rw [e3,e4,List.take_append_drop,List.take_append_drop]
theorem typed22 {n:Nat} {v:V} (h:Typed Tryz.prog n 22 [v]):∃ nl l,v = coresV nl l ∧ l.length ≤ maxLen ∧ l.length * 216 ≤ reachBytes ∧ (∀ c ∈ l,WfC c) ∧ ∀ c ∈ l,CanC c:=by
 cases n with
 | zero=>exact h.elim
 | succ n =>
  simp only [Typed,Tryz.underlying22,c47,b47] at h
  rcases h with h | ⟨ys,h,⟨hl,hb⟩,hy⟩
  ·simp only [List.cons.injEq,and_true] at h
   exact ⟨true,[],by rw [h];rfl,by simp,by simp,by simp,by simp⟩
  ·simp only [List.cons.injEq,and_true] at h
   obtain ⟨l,h1,h2⟩:=list_ex (h:=crV) (Q:=fun c=>WfC c ∧ CanC c) ys fun y hyy=>by
    obtain ⟨cs,g1,g2⟩:=hy y hyy
    rw [mk47] at g2
    rw [g2]
    exact typed47 g1
   subst h1
   rw [List.length_map] at hl hb
   refine ⟨false,l,by rw [h];rfl,hl,hb,fun c hc=>(h2 c hc).1,fun c hc=>(h2 c hc).2⟩
theorem typed197 {n:Nat} {cs:List V} (h:Typed Tryz.prog n 197 cs):∃ x,cs = [x] ∧ x.top = 0:=by
 cases n with
 | zero=>exact h.elim
 | succ n =>
  simp only [Typed,Tryz.underlying197] at h
  rcases h with h | ⟨ys,h,_,hy⟩
  ·exact ⟨_,h,rfl⟩
  ·obtain ⟨l,h1,_⟩:=list_ex (h:=V.int .u8) (Q:=fun _=>True) ys fun y hyy=>by
    obtain ⟨ds,g1,g2⟩:=hy y hyy
    have:isAggT Tryz.prog 5 = false:=by kernel_rfl
    simp only [mkEl,this,Bool.false_eq_true,if_false] at g2
    cases n with
    | zero=>exact g1.elim
    | succ n =>
     simp only [Typed,Tryz.underlying5] at g1
     obtain ⟨z,hz,_⟩:=g1
     rw [hz] at g2
     exact ⟨z,g2.symm,trivial⟩
   subst h1
   exact ⟨_,h,by show tops _ = 0;exact tops_mp (fun _=>rfl) _⟩
theorem tops_all:∀ {l:List V},(∀ x ∈ l,x.top = 0) → tops l = 0
 | [],_=>rfl
 | x :: l,h=>by simp [tops,h x (List.mem_cons_self ..),tops_all fun y hy=>h y (List.mem_cons_of_mem _ hy)]
theorem typed23 {n:Nat} {v:V} (h:Typed Tryz.prog n 23 [v]):Sx.kOk (.sl 1) v = true ∧ v.top = 0 ∧ clr v = v:=by
 cases n with
 | zero=>exact h.elim
 | succ n =>
  simp only [Typed,Tryz.underlying23,c197] at h
  rcases h with h | ⟨ys,h,_,hy⟩
  ·simp only [List.cons.injEq,and_true] at h
   rw [h]
   exact ⟨rfl,rfl,rfl⟩
  ·simp only [List.cons.injEq,and_true] at h
   subst h
   refine ⟨rfl,?_,rfl⟩
   show tops ys = 0
   refine tops_all fun y hyy=>?_
   obtain ⟨cs,g1,g2⟩:=hy y hyy
   obtain ⟨s,hs,ht⟩:=typed197 g1
   have:isAggT Tryz.prog 197 = false:=by kernel_rfl
   simp only [mkEl,this,Bool.false_eq_true,if_false] at g2
   rw [hs] at g2
   rw [g2]
   exact ht
theorem typed25 {n:Nat} {xs:List V} (h:Typed Tryz.prog n 25 xs):∃ nl l tx,xs = [coresV nl l,tx] ∧ l.length ≤ maxLen ∧ l.length * 216 ≤ reachBytes ∧ (∀ c ∈ l,WfC c) ∧ (∀ c ∈ l,CanC c) ∧ Sx.kOk (.sl 1) tx = true ∧ tx.top = 0 ∧ clr tx = tx:=by
 cases n with
 | zero=>exact h.elim
 | succ n =>
  simp only [Typed,Tryz.underlying25,c25] at h
  obtain ⟨hl,h⟩:=h
  match xs,hl with
  | [x,y],_ =>
   have f0:=h ⟨"L",22,0,false,"","",0⟩ (by simp)
   have f1:=h ⟨"Texts",23,1,false,"","",24⟩ (by simp)
   simp only [c22,c23,List.drop_succ_cons,List.drop_zero,List.take_succ_cons,List.take_zero] at f0 f1
   obtain ⟨nl,l,rfl,k1,k2,k3,k4⟩:=typed22 f0
   obtain ⟨k5,k6,k7⟩:=typed23 f1
   exact ⟨nl,l,y,rfl,k1,k2,k3,k4,k5,k6,k7⟩
end Go.Proofs.YtkbdcmehffmfpaaGreatDoor
namespace Go.Proofs.YtkbdcmehffmfpaaGreatDoor
set_option maxRecDepth 10000
open Go Go.Vm Go.Vm.Sx
theorem good_run {l:List Cr} (h:GdL l) (he:bE l = .nili):∃ k:Nat,mayM l = ((k:Int),true) ∧ k ≤ 1000 ∧ k = nsetR (l.map crE) ∧ l.length ≤ 200 ∧ mayF 0 l = ((k:Int),true) ∧ (∀ c ∈ l,nodes c.1 ≤ 1800 ∧ nodes c.2.2 ≤ 1800) ∧ ∀ e ∈ l.map crE,gd e = true:=by
 obtain ⟨p,ok,hpo⟩:∃ p ok,mayM l = (p,ok):=⟨_,_,rfl⟩
 rw [bE,hpo] at he
 cases ok with
 | false=>cases he
 | true =>
  simp only [cond_true] at he
  have hp:p ≤ 1000:=by
   rcases Int.lt_or_le 1000 p with h | h
   ·rw [if_pos h] at he;cases he
   ·exact h
  have hlen:l.length ≤ 200 ∧ mayF 0 l = (p,true):=by
   unfold mayM at hpo
   cases hx:ltz 200 (l.length:Int) with
   | true=>rw [hx] at hpo;simp at hpo
   | false =>
    rw [hx] at hpo
    simp only [cond_false] at hpo
    refine ⟨?_,hpo⟩
    rcases Nat.lt_or_ge 200 l.length with hh | hh
    ·rw [ltz_t (by omega)] at hx;cases hx
    ·exact hh
  have hnod:∀ c ∈ l,nodes c.1 ≤ 1800 ∧ nodes c.2.2 ≤ 1800:=by
   rcases h.nod with hh | hh
   ·omega
   ·exact hh
  obtain ⟨m1,_,m3⟩:=may_ok l 0 hnod (by omega) (by omega) (by rw [hlen.2]) (by rw [hlen.2];exact hp)
  rw [hlen.2] at m1
  simp only [Int.zero_add] at m1
  exact ⟨nsetR (l.map crE),by rw [hpo,m1],by omega,rfl,hlen.1,by rw [hlen.2,m1],hnod,m3⟩
theorem rulesM_len {n:Nat} (es:List E):∀ (r:Nat) (m:Mk),(rulesM n r es m).1.length = es.length:=by
 induction es with
 | nil=>intro r m;rfl
 | cons e es ih=>intro r m;simp only [rulesM,List.length_cons,ih]
theorem preN_len {p:Nat → Bool}:(preN p 19).length ≤ 1216:=by
 have:=preL_len (p:=p) 19
 rw [preL_eq,List.length_map] at this
 omega
theorem rulesM_row {n:Nat} (es:List E):∀ (r:Nat) (m:Mk),∀ x ∈ (rulesM n r es m).1,x.length ≤ 1216:=by
 induction es with
 | nil=>intro r m x h;cases h
 | cons e es ih =>
  intro r m x h
  simp only [rulesM] at h
  rcases List.mem_cons.1 h with h | h
  ·rw [h];simp only [ruleM];exact preN_len
  ·exact ih _ _ x h
theorem fo_ok {l:List Cr} (h:GdL l) (he:bE l = .nili):bA l = foC (foOf l) ∧ FoOk (foOf l):=by
 obtain ⟨k,h1,h2,h3,h4,_,_,h7⟩:=good_run h he
 have hA:bA l = foC (foOf l):=by
  rw [bA,h1]
  simp only [cond_true,if_neg (show ¬ (1000 < (k:Int)) by omega)]
 refine ⟨hA,?_⟩
 obtain ⟨r1,_,r3⟩:=rules_inv (n:=k) (l.map crE) 0 m0 h7 ⟨rfl,rfl⟩ (by simp [m0];omega) (by rw [List.length_map];omega) (fun x hx=>by simp [m0] at hx)
 have hm:1216 ≤ maxLen:=by decide
 have hf:foOf l = ⟨(rulesM k 0 (l.map crE) m0).2.sets,(rulesM k 0 (l.map crE) m0).2.rules,(rulesM k 0 (l.map crE) m0).1.map (·.map Int.ofNat),(rulesM k 0 (l.map crE) m0).2.next.map fun p=>(preN p 19).map Int.ofNat⟩:=by
  rw [foOf,h1]
  simp only [Int.toNat_natCast]
 have e0:m0.sets.length = 0:=rfl
 rw [hf]
 refine ⟨?_,?_,⟨?_,?_⟩,?_,?_⟩
 ·show (rulesM k 0 (l.map crE) m0).2.sets.length ≤ _
  omega
 ·show (rulesM k 0 (l.map crE) m0).2.rules.length ≤ _
  rw [r3.r];omega
 ·show ((rulesM k 0 (l.map crE) m0).1.map _).length ≤ _
  rw [List.length_map,rulesM_len,List.length_map];omega
 ·intro x hx
  obtain ⟨y,hy,rfl⟩:=List.mem_map.1 hx
  rw [List.length_map]
  have:=rulesM_row _ _ _ y hy
  omega
 ·show ((rulesM k 0 (l.map crE) m0).2.next.map _).length ≤ _
  rw [List.length_map,r3.n];omega
 ·intro x hx
  obtain ⟨y,hy,rfl⟩:=List.mem_map.1 hx
  rw [List.length_map]
  have:=preN_len (p:=y)
  omega
theorem BV_ok (l:List Cr):BV (bA l) (bE l):=by
 have hz:∃ a b c d,zF = [a,b,c,d] ∧ kOk (.sl 4) a = true ∧ kOk (.sl 1) b = true ∧ kOk (.sl 1) c = true ∧ kOk (.sl 1) d = true ∧ clr a = a ∧ clr b = b ∧ clr c = c ∧ clr d = d:=⟨_,_,_,_,rfl,rfl,rfl,rfl,rfl,rfl,rfl,rfl,rfl⟩
 constructor
 ·unfold bA
  cases (mayM l).2 with
  | false=>exact hz
  | true =>
   simp only [cond_true]
   split
   ·exact hz
   ·exact ⟨_,_,_,_,rfl,k_svs _,k_nv _,k_rvs _,k_rvs _,clr_svs _,clr_nv _,clr_rvs _,clr_rvs _⟩
 ·unfold bE
  cases (mayM l).2 with
  | false=>exact .inr ⟨_,_,rfl⟩
  | true =>
   simp only [cond_true]
   split
   ·exact .inr ⟨_,_,rfl⟩
   ·exact .inl rfl
theorem crE_trail (c:Cr):crE (trailC c) = crE c:=by
 unfold trailC
 split
 ·rfl
 ·rfl
theorem wf_cr {c:Cr} (h:WfC c):Wf (crE c):=by
 unfold crE
 split
 ·have h0:(0:Nat) ≤ maxLen:=Nat.zero_le _
  have h2:(2:Nat) ≤ maxLen:=by decide
  exact ⟨h0,h2,h.1,h.2,trivial⟩
 ·exact h.1
theorem can_cr {c:Cr} (h:CanC c):Can (crE c):=by
 unfold crE
 split
 ·exact ⟨fun h=>by (cases h),h.1,h.2,trivial⟩
 ·exact h.1
theorem gdl_trail {l:List Cr} (h:GdL l) (hn:200 < l.length ∨ ∀ c ∈ l,nodes c.1 ≤ 800 ∧ nodes c.2.2 ≤ 800):GdL (l.map trailC) where
 len:=by rw [List.length_map];exact h.len
 wf:=fun x hx=>by
  obtain ⟨c,hc,rfl⟩:=List.mem_map.1 hx
  unfold trailC
  split
  ·exact ⟨wf_cr (h.wf c hc),Nat.zero_le _,Nat.zero_le _,trivial⟩
  ·exact h.wf c hc
 can:=fun x hx=>by
  obtain ⟨c,hc,rfl⟩:=List.mem_map.1 hx
  unfold trailC
  split
  ·exact ⟨can_cr (h.can c hc),fun _=>rfl,trivial⟩
  ·exact h.can c hc
 nod:=by
  rcases hn with hn | hn
  ·exact .inl (by rw [List.length_map];exact hn)
  ·refine .inr fun x hx=>?_
   obtain ⟨c,hc,rfl⟩:=List.mem_map.1 hx
   obtain ⟨n1,n2⟩:=hn c hc
   unfold trailC
   split
   ·rename_i ht
    refine ⟨?_,by simp [zeroE,nodes,nodesF]⟩
    simp only [crE,ht,if_true,nodes,nodesF]
    omega
   ·exact ⟨by omega,by omega⟩
theorem bV_trail {l:List Cr} (hn:200 < l.length ∨ ∀ c ∈ l,nodes c.1 ≤ 800 ∧ nodes c.2.2 ≤ 800):bV (l.map trailC) = bV l:=by
 have h1:mayM (l.map trailC) = mayM l:=by
  unfold mayM
  rw [List.length_map]
  cases hx:ltz 200 (l.length:Int) with
  | true=>rfl
  | false =>
   rcases hn with hn | hn
   ·rw [ltz_t (by omega)] at hx;cases hx
   ·simp only [cond_false]
    exact may_trail l 0 hn (by omega) (by omega)
 have h2:(l.map trailC).map crE = l.map crE:=by
  rw [List.map_map]
  exact List.map_congr_left fun c _=>crE_trail c
 simp only [bV,bA,bE,foOf,h1,h2]
theorem run4 (n:Nat) (xs:List V) (h:Typed Tryz.prog n 25 xs):∃ k,∀ m,k ≤ m → callA Tryz.prog gl1 m 4 [.agg xs] ⟨[],[]⟩ = some (.ret (.bool true),⟨[],[]⟩):=by
 obtain ⟨nl,l,tx,rfl,hl,hr,hw,hc,k1,k2,k3⟩:=typed25 h
 have hrb:reachBytes ≤ 140737488355328:=by decide
 have he:=ev4 GL1 (Sx.Ev.hook (xs:=[]) rfl rfl) nl l hl (by omega) hw k1 k2 k3 (A:=bA l) (e:=bE l) fun hs=>by
  have hn:200 < l.length ∨ ∀ c ∈ l,nodes c.1 ≤ 800 ∧ nodes c.2.2 ≤ 800:=by
   rcases Nat.lt_or_ge 200 l.length with hh | hh
   ·exact .inl hh
   ·exact .inr (small_nodes l 0 hw (by omega) (by omega) (lez_i.1 hs)).2
  have hg:GdL l:=⟨hl,hw,hc,hn.imp id fun h c hc=>by have:=h c hc;omega⟩
  have h7:Ev Tryz.prog gl1 7 [.d (coresV nl l)] [] (bV l) []:=ev7 hg
  have h7':Ev Tryz.prog gl1 7 [.d (coresV true (l.map trailC))] [] (bV l) []:=by
   rw [← bV_trail hn]
   exact ev7 (gdl_trail hg hn)
  refine ⟨BV_ok l,h7,h7',fun hb=>?_⟩
  obtain ⟨a1,a2⟩:=fo_ok hg hb
  rw [a1]
  exact ev10 GL1 (foOf l) a2
 exact Sx.Ev.run (xs:=[.agg [coresV nl l,tx]]) he ⟨[],[]⟩
end Go.Proofs.YtkbdcmehffmfpaaGreatDoor
namespace Go.Proofs.YtkbdcmehffmfpaaGreatDoor
set_option maxRecDepth 100000
open Go Go.Vm
def S0:List TypeId:=[3,4,5,9,39,41,43,45,47,22,23,197,25]
theorem closed0:S0.all (closedT Tryz.prog S0) = true:=by kernel_rfl
theorem rc_agg {g:Gh} {xs:List V} {cs:Array Value} (h:RC g xs cs.toList):RelV g (.agg xs) (.agg cs):=by
 refine .agg (by rw [RC.length h,Array.length_toList]) (fun j x hx=>?_) fun j x v hx hv=>?_
 ·obtain ⟨v,_,hg⟩:=h.get j x hx
  exact hg.1
 ·obtain ⟨v',hv',hg⟩:=h.get j x hx
  rw [Array.getElem?_toList,hv] at hv'
  cases hv'
  exact hg.2.1
theorem rc_tops {g:Gh}:∀ {xs:List V} {cs:List Value},RC g xs cs → tops xs = 0
 | [],[],_=>rfl
 | x :: xs,v :: cs,h=>by simp [tops,h.1.2.2.1,rc_tops h.2]
 | [],_ :: _,h=>h.elim
 | _ :: _,[],h=>h.elim
end Go.Proofs.YtkbdcmehffmfpaaGreatDoor
namespace Go.Proofs.YtkbdcmehffmfpaaGreatDoor.Trails
set_option maxRecDepth 100000
open Go Go.Vm Go.ChangeShapes Go.WideShapes Go.ChangeAt Go.RowKit
theorem contract (H:Type) (enc:TypeId × Value → H) (W:World) (base:Nat) (args:Array Value) (ds gs:List (DataW H)) (before:List MemPlace)
  (hval:∀ (j:Nat) t v,Tryz.f4.params[j]? = some t → args[j]? = some v → Value.okWide Tryz.prog W .any base t v)
  (hW:DataW.Whole enc Tryz.prog Tryz.f4.params.toList Rows.followTrailsSpec.vars false W args.toList ds gs before)
  (hwt:(DataW.weightsEach Tryz.prog (Tryz.f4.params.toList ++ (OpenSpec.ofChange Rows.followTrailsSpec).bare.plain.varTypes Tryz.prog) (ds ++ gs)).all (· ≤ reachBytes) = true) (hL:laidMetH Tryz.prog Rows.followTrailsRow.laid W) :
  Calls Tryz.prog 4 args W fun e W'=>∃ v,e = .returned v ∧ Rows.followTrailsSpec.post enc Tryz.prog Tryz.f4 false true false false W args v W':=by
 have hW':=hW
 obtain ⟨p,q,hA0,hV,rfl,hfz,hnd⟩:=hW
 have hA:DataW.TrodAll enc Tryz.prog W 0 (fun _=>true) true Tryz.f4.params.toList args.toList ds p:=hA0
 rw [Tryz.params4] at hA
 obtain ⟨v0,vs0,d0,ds0,p0,q0,hargs,rfl,rfl,h0,r0⟩:=trodAll_cons hA
 obtain ⟨rfl,rfl,rfl⟩:=trodAll_nil r0
 obtain rfl:args = #[v0]:=by cases args;simp_all
 obtain ⟨n,hn⟩:=h0
 have hw0:∀ w ∈ d0.weights Tryz.prog 25,w ≤ reachBytes:=fun w hw=>by
  have:=List.all_eq_true.1 hwt w (by
   rw [Tryz.params4]
   show w ∈ DataW.weights Tryz.prog 25 d0 ++ _
   exact List.mem_append_left _ hw)
  simpa using this
 obtain ⟨xs,x1,x2,x3⟩:=trod_rel (S:=S0) closed0 n 25 _ _ (by decide) hn hw0
 obtain ⟨cs,rfl,hsz,_⟩:∃ cs,v0 = .agg cs ∧ cs.size = Tryz.prog.cellsOf 25 ∧ Row.okWide Tryz.prog W .any base 25 cs:=by
  have h25:=hval 0 25 v0 (by rw [Tryz.params4];rfl) rfl
  simp only [Value.okWide,Tryz.underlying25] at h25
  exact h25
 have x2':RC (ghOf W) xs cs.toList:=x2
 obtain ⟨k,hk⟩:=run4 n xs x1
 refine (law_calls mixed numOk primOk hk1 (hk k (Nat.le_refl _)) (glOkT hL) ⟨rfl,fun j y v hy hv=>?_,?_,?_⟩).mono fun e W' ⟨he,hb⟩=>⟨_,he,?_⟩
 ·match j,hy,hv with
  | 0,hy,hv=>cases hy;cases hv;exact rc_agg x2'
  | j + 1,hy,_=>simp at hy
 ·simp [tops,V.top,rc_tops x2']
 ·intro y hy sz ys e
  simp only [List.mem_singleton] at hy
  subst hy
  simp
 ·exact law_post rfl (show Tryz.f4.resultTypes = #[4] from rfl) Tryz.underlying4 laidOut (by rw [Tryz.params4];intro t ht;simp at ht;subst ht;exact ⟨by kernel_rfl,of_decide_eq_true (by kernel_rfl)⟩) rfl hW' hb
theorem lifted (os:Os) (started:os.Started) (H:Type) (enc:TypeId × Value → H) (F:Stop.Interp) :
  ReturnsInHanded {} Tryz.checked os 4 .any ((OpenSpec.ofChange Rows.followTrailsSpec).preRow enc Tryz.prog Tryz.f4 Rows.followTrailsRow.domain false Rows.followTrailsRow.laid) (((OpenSpec.ofChange Rows.followTrailsSpec).at F).post enc Tryz.prog Tryz.f4 false true false false):=by
 have hx:∃ places,DataW.whole enc Tryz.prog ((World.doorLaid Tryz.prog 320 os).forCall (fun _ _=>0) ⟨#[],#[.agg #[.slice none 0 0,.slice none 0 0]],[]⟩).memory Tryz.f4.params.toList Rows.followTrailsSpec.vars false #[Value.agg #[.slice none 0 0,.slice none 0 0]].toList 8 = some ([.agg [.nil,.nil]],[],places):=⟨[],by kernel_rfl⟩
 obtain ⟨places,hx⟩:=hx
 refine returnsInHanded_of_row (C:=Tryz.checked) (s:=OpenSpec.ofChange Rows.followTrailsSpec) own started (by kernel_rfl) Tryz.func4
  (witness_row_atRef (enc:=enc) (C:=Tryz.checked) false (World.doorLaid Tryz.prog 320 os) #[.agg #[.slice none 0 0,.slice none 0 0]] rfl (by kernel_rfl) (by kernel_rfl) (by kernel_rfl)
   (OpenSpec.preRow_of_cond 8 hx (by kernel_rfl) (fun k hk=>by cases hk) (by kernel_rfl) (laidDoorT os _))) ?_
 intro W base args ds gs before hval hW _ _ hwt hL _ _
 exact contract H enc W base args ds gs before hval hW hwt hL
theorem said:Rows.FollowTrailsSaid :=
 OpenClaim.holds_of_cond 4 Tryz.f4 rfl rfl rfl rfl rfl rfl rfl ⟨rfl,rfl,rfl,rfl,rfl⟩ rfl rfl rfl rfl rfl named Tryz.func4 facts
  (of_decide_eq_true (by kernel_rfl)) (by unfold Func.isWrapper;first | (rw [if_pos (by decide +kernel)];kernel_rfl) | (rw [if_neg (by decide +kernel)];exact ⟨rfl,rfl⟩))
  (fun os started H enc _ F=>by rw [OpenClaim.pre_eq_preRow];exact lifted os started H enc F)
theorem plain (f:FuncId) (fn:Func) (hf:Tryz.pinned.checked.prog.funcNamed "bolter/bolterlaw10.FollowTrails" = some f) (hfn:Tryz.pinned.checked.prog.funcs[f]? = some fn) :
  true = Tryz.pinned.checked.prog.looks [] ∧ ∀ (j:Nat) t,fn.params[j]? = some t → Tryz.pinned.checked.prog.wantsStandIn t = false:=by
 obtain rfl:f = 4:=Option.some.inj ((show Tryz.prog.funcNamed "bolter/bolterlaw10.FollowTrails" = some 4 by kernel_rfl).symm.trans hf) |>.symm
 obtain rfl:fn = Tryz.f4:=(Option.some.inj (Tryz.func4.symm.trans hfn)).symm
 refine ⟨by kernel_rfl,fun j t ht=>?_⟩
 rw [Tryz.params4] at ht
 obtain rfl:t = 25:=by simpa using Array.mem_of_getElem? ht
 exact (show Tryz.prog.wantsStandIn 25 = false by kernel_rfl)
theorem card:Rows.FollowTrailsCardSaid :=
 Claim7.holds_tied_plain_at .later [] _ _ _ _ said (fun _ h=>by cases h) (by kernel_rfl) (fun _ h=>by cases h) followTrails_row_tie rfl ⟨rfl,rfl⟩ (by kernel_rfl) rfl plain (by kernel_rfl)
end Go.Proofs.YtkbdcmehffmfpaaGreatDoor.Trails
