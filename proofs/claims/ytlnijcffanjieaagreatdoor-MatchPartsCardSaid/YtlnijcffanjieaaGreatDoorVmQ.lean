/- Seat 7: Ends and Next, known; Seat 7: MatchParts' law, plain: what ends shows of a beginning; where nothing goes on no end comes behind; Seat 7: an argument that reads as expressions with texts is one; and what follows from it. Conditions: none but those that each theorem names. -/
import Derived.Test.YtlnijcffanjieaaGreatDoorVmD
import Derived.Test.YtlnijcffanjieaaGreatDoorVmH
import Derived.Test.YtlnijcffanjieaaGreatDoorVmL
import Derived.Test.YtlnijcffanjieaaGreatDoorVmM
import Derived.Test.YtlnijcffanjieaaGreatDoorVmP
namespace Go.Proofs.YtlnijcffanjieaaGreatDoor
set_option maxRecDepth 10000
open Go Go.Vm Go.Vm.Sx
open Classical in
noncomputable def hkX {α:Type} (en:α→List V) (Q:α→Prop) (F:α→V) (args:List V):Option V :=
 if h:∃ a,Q a∧args=en a then some (F (Classical.choose h)) else none
theorem hkX_eq {α:Type} {en:α→List V} {Q:α→Prop} {F:α→V} (hi:∀ a b,Q a→Q b→en a=en b→F a=F b) {a:α} (h:Q a):hkX en Q F (en a)=some (F a):=by
 unfold hkX
 have hex:∃ b,Q b∧en a=en b:=⟨a,h,rfl⟩
 rw [dif_pos hex]
 have hs:=Classical.choose_spec hex
 rw [hi _ _ hs.1 h hs.2.symm]
theorem hkX_some {α:Type} {en:α→List V} {Q:α→Prop} {F:α→V} {args:List V} {v:V} (h:hkX en Q F args=some v):∃ a,Q a∧args=en a∧v=F a:=by
 unfold hkX at h
 split at h
 ·rename_i hex
  have hs:=Classical.choose_spec hex
  exact ⟨_,hs.1,hs.2,(Option.some.inj h).symm⟩
 ·cases h
def GdE (e:E):Prop:=Wf e∧Can e
def en11 (e:E):List V:=[enc e]
def en17 (p:St4×Nat):List V:=[stV p.1,.int .u8 (p.2:Nat)]
def en226 (p:St4×St4):List V:=[stV p.1,stV p.2]
def Q17 (p:St4×Nat):Prop:=RgS p.1∧p.2<256
def Q226 (p:St4×St4):Prop:=RgS p.1∧RgS p.2
theorem stV_inj {s t:St4} (h:stV s=stV t):s=t:=by
 obtain ⟨a,b,c,d⟩:=s
 obtain ⟨a',b',c',d'⟩:=t
 simp only [stV,V.agg.injEq,List.cons.injEq,V.int.injEq,true_and,and_true] at h
 obtain ⟨rfl,rfl,rfl,rfl⟩:=h
 rfl
theorem i11:∀ a b,GdE a→GdE b→en11 a=en11 b→V.bool (chkP a)=V.bool (chkP b):=fun a b ha hb h=>by
 rw [enc_inj a b ha.2 hb.2 (List.cons.inj h).1]
theorem i17:∀ a b,Q17 a→Q17 b→en17 a=en17 b→V.bool (hasM a.1 a.2)=V.bool (hasM b.1 b.2):=fun a b _ _ h=>by
 simp only [en17,List.cons.injEq,V.int.injEq,true_and,and_true] at h
 have h1:=stV_inj h.1
 have h2:a.2=b.2:=by omega
 rw [h1,h2]
theorem i226:∀ a b,Q226 a→Q226 b→en226 a=en226 b→stV (uniM a.1 a.2)=stV (uniM b.1 b.2):=fun a b _ _ h=>by
 simp only [en226,List.cons.injEq,and_true] at h
 rw [stV_inj h.1,stV_inj h.2]
noncomputable def glb:Gl:={ g:=glw,uq:=uqw,hk:=fun f args=>if Nat.beq f 11 then hkX en11 GdE (fun e=>.bool (chkP e)) args else if Nat.beq f 17 then hkX en17 Q17 (fun p=>.bool (hasM p.1 p.2)) args else if Nat.beq f 226 then hkX en226 Q226 (fun p=>stV (uniM p.1 p.2)) args else none }
def gl0:Gl:={ g:=glw,hk:=fun _ _=>none }
instance : NoU gl0:=⟨fun _=>rfl,fun _ _ _ _=>rfl⟩
theorem top_glw:∀ g off v,glw g off=some v→v.top=0:=by
 intro g off v h'
 unfold glw glOf at h'
 split at h'<;>simp only [Option.some.injEq,reduceCtorEq] at h'
 subst h';rfl
theorem GL0:GL gl0:=⟨top_glw,fun _ _ _=>rfl⟩
theorem hk0:HkOk Tryz.prog gl0:=⟨fun f args v h=>(by cases h),fun n f args H out H' h=>(by cases h),fun _ _ _ _ h=>(by cases h)⟩
theorem top_stV (s:St4):(stV s).top=0:=rfl
theorem hkb:HkOk Tryz.prog glb:=by
 refine ⟨fun f args v h d H g w cargs lc h1 h2 h3=>?_,fun n f args H out H' h=>(by cases h),itOk⟩
 simp only [glb] at h
 split at h
 ·rename_i hf
  obtain rfl:f=11:=Nat.eq_of_beq_eq_true hf
  obtain ⟨e,hg,rfl,rfl⟩:=hkX_some h
  obtain ⟨k,hk⟩:=Sx.Ev.run (xs:=[enc e]) (ev11 GL0 e hg.1) ⟨[],[]⟩
  exact hk_pure mixed numOk primOk hk0 (hk k (Nat.le_refl _)) (by simp [tops,top_enc]) rfl h1 h2 h3
 ·split at h
  ·rename_i hf
   obtain rfl:f=17:=Nat.eq_of_beq_eq_true hf
   obtain ⟨⟨s,b⟩,hg,rfl,rfl⟩:=hkX_some h
   obtain ⟨k,hk⟩:=Sx.Ev.run (xs:=[stV s,.int .u8 (b:Nat)]) (ev17 GL0 s hg.1 b hg.2) ⟨[],[]⟩
   exact hk_pure mixed numOk primOk hk0 (hk k (Nat.le_refl _)) (by simp [tops,top_stV,V.top]) rfl h1 h2 h3
  ·split at h
   ·rename_i hf
    obtain rfl:f=226:=Nat.eq_of_beq_eq_true hf
    obtain ⟨⟨s,t⟩,hg,rfl,rfl⟩:=hkX_some h
    obtain ⟨k,hk⟩:=Sx.Ev.run (xs:=[stV s,stV t]) (ev226 GL0 s t hg.1 hg.2) ⟨[],[]⟩
    exact hk_pure mixed numOk primOk hk0 (hk k (Nat.le_refl _)) (by simp [tops,top_stV]) rfl h1 h2 h3
   ·cases h
theorem GWb:GWC glb where
 uq:=rfl
 hk2:=fun _ _ _ _=>rfl
 has:=fun s b hs hb=>hkX_eq (a:=(s,b)) i17 ⟨hs,hb⟩
 uni:=fun s t hs ht=>hkX_eq (a:=(s,t)) i226 ⟨hs,ht⟩
 chk:=fun e hw hc=>hkX_eq (a:=e) i11 ⟨hw,hc⟩
 g0:=by rfl
 hk:=fun f args h=>by
  have:∀ k,k=11∨k=17∨k=226→Nat.beq f k=false:=fun k hk=>by
   cases hb:Nat.beq f k with
   | false=>rfl
   | true =>
    have:=Nat.eq_of_beq_eq_true hb
    subst this
    rcases hk with rfl|rfl|rfl<;>revert h<;>decide
  simp only [glb,this 11 (.inl rfl),this 17 (.inr (.inl rfl)),this 226 (.inr (.inr rfl)),Bool.false_eq_true,if_false]
 hkN:=fun f args h=>by
  have:∀ k,k=11∨k=17∨k=226→Nat.beq f k=false:=fun k hk=>by
   cases hb:Nat.beq f k with
   | false=>rfl
   | true =>
    have:=Nat.eq_of_beq_eq_true hb
    subst this
    rcases hk with rfl|rfl|rfl<;>revert h<;>decide
  simp only [glb,this 11 (.inl rfl),this 17 (.inr (.inl rfl)),this 226 (.inr (.inr rfl)),Bool.false_eq_true,if_false]
def Q14 (p:E×Bool×List Nat):Prop:=GdE p.1∧Rg p.1∧∀ b∈p.2.2,b<256
def en14 (p:E×Bool×List Nat):List V:=[enc p.1,bytV p.2.1 p.2.2]
theorem byt_inj {nl nl':Bool} {t t':List Nat} (h:bytV nl t=bytV nl' t'):t=t':=by
 have:=congrArg vL h
 rw [vL_byt,vL_byt] at this
 clear h
 induction t generalizing t' with
 | nil=>cases t' with
  | nil=>rfl
  | cons a t'=>simp at this
 | cons a t ih=>cases t' with
  | nil=>simp at this
  | cons b t' =>
   simp only [List.map_cons,List.cons.injEq,V.int.injEq,true_and] at this
   rw [ih this.2,show a=b by omega]
theorem i14 {F:E→List Nat→V}:∀ a b,Q14 a→Q14 b→en14 a=en14 b→F a.1 a.2.2=F b.1 b.2.2:=fun a b ha hb h=>by
 simp only [en14,List.cons.injEq,and_true] at h
 rw [enc_inj _ _ ha.1.2 hb.1.2 h.1,byt_inj h.2]
theorem top_endV (e:E) (t:List Nat):(endV e t).top=0:=by
 unfold endV
 split
 ·simp [V.top,tops,own_nvL,top_nvL]
 ·rfl
theorem top_nxtV (e:E) (t:List Nat):(nxtV e t).top=0:=by
 unfold nxtV
 split<;>rfl
noncomputable def gl1:Gl:={ g:=glw,hk:=fun f args=>if Nat.beq f 12 then (match args with|[]=>some (.bool true)|_=>none) else if Nat.beq f 14 then hkX en14 Q14 (fun p=>endV p.1 p.2.2) args else if Nat.beq f 16 then hkX en14 Q14 (fun p=>nxtV p.1 p.2.2) args else none }
theorem ok1:HooksOk Tryz.prog glw hooks1:=hooks_cons mixed numOk primOk hooks_nil (parse_run 0) rfl rfl itOk
theorem ok2:HooksOk Tryz.prog glw (hooks2++hooks1):=hooks_cons mixed numOk primOk ok1 (read_run 0) rfl rfl itOk
theorem ok3:HooksOk Tryz.prog glw ((12,[],.bool true)::(hooks2++hooks1)):=hooks_cons mixed numOk primOk ok2 (wakes_run 0) rfl rfl itOk
theorem hk1:HkOk Tryz.prog gl1:=by
 refine ⟨fun f args v h d H g w cargs lc h1 h2 h3=>?_,fun n f args H out H' h=>(by cases h),fun _ _ _ _ h=>(by cases h)⟩
 simp only [gl1] at h
 split at h
 ·rename_i hf
  obtain rfl:f=12:=Nat.eq_of_beq_eq_true hf
  split at h
  ·cases h
   exact ok3.pure 12 [] (.bool true) rfl d H g w cargs lc h1 h2 h3
  ·cases h
 ·split at h
  ·rename_i hf
   obtain rfl:f=14:=Nat.eq_of_beq_eq_true hf
   obtain ⟨⟨e,nl,t⟩,hq,rfl,rfl⟩:=hkX_some h
   obtain ⟨H',hc⟩:=e14 GWb (nl:=nl) hq.1.1 hq.1.2 hq.2.1 hq.2.2 (Nat.le_refl _)
   exact hk_pure mixed numOk primOk hkb hc (by simp [tops,top_enc,top_byt]) (top_endV e t) h1 h2 h3
  ·split at h
   ·rename_i hf
    obtain rfl:f=16:=Nat.eq_of_beq_eq_true hf
    obtain ⟨⟨e,nl,t⟩,hq,rfl,rfl⟩:=hkX_some h
    obtain ⟨H',hc⟩:=e16 GWb (nl:=nl) hq.1.1 hq.1.2 hq.2.1 hq.2.2 (Nat.le_refl _)
    exact hk_pure mixed numOk primOk hkb hc (by simp [tops,top_enc,top_byt]) (top_nxtV e t) h1 h2 h3
   ·cases h
instance : NoU gl1:=⟨fun _=>rfl,fun _ _ _ _=>rfl⟩
theorem GL1:GL gl1 where
 top:=top_glw
 no:=fun f hf args=>by
  simp only [List.any_cons,List.any_nil,Bool.or_false,Bool.or_eq_false_iff] at hf
  simp only [gl1,hf.1,hf.2.1,hf.2.2.1,Bool.false_eq_true,if_false]
theorem ev12:Ev Tryz.prog gl1 12 [] [] (.bool true) []:=Sx.Ev.hook (xs:=[]) rfl rfl
theorem ev14 {e:E} {nl:Bool} {t:List Nat} (h:GdE e) (hr:Rg e) (ht:∀ b∈t,b<256):Ev Tryz.prog gl1 14 [.d (enc e),.d (bytV nl t)] [] (endV e t) [] :=
 Sx.Ev.hook (xs:=[enc e,bytV nl t]) (show gl1.hk 14 _=_ from hkX_eq (en:=en14) (F:=fun p=>endV p.1 p.2.2) (a:=(e,nl,t)) i14 ⟨h,hr,ht⟩) (top_endV e t)
theorem ev16 {e:E} {nl:Bool} {t:List Nat} (h:GdE e) (hr:Rg e) (ht:∀ b∈t,b<256):Ev Tryz.prog gl1 16 [.d (enc e),.d (bytV nl t)] [] (nxtV e t) [] :=
 Sx.Ev.hook (xs:=[enc e,bytV nl t]) (show gl1.hk 16 _=_ from hkX_eq (en:=en14) (F:=fun p=>nxtV p.1 p.2.2) (a:=(e,nl,t)) i14 ⟨h,hr,ht⟩) (top_nxtV e t)
end Go.Proofs.YtlnijcffanjieaaGreatDoor
namespace Go.Proofs.YtlnijcffanjieaaGreatDoor
open Go Go.Vm
theorem goEnds_gt:∀ (t:List Nat) (w:Wd) (i x:Nat),x∈goEnds w i t→i<x
 | [],_,_,_,h=>by simp [goEnds] at h
 | b::t,w,i,x,h=>by
  simp only [goEnds,List.mem_append] at h
  rcases h with h|h
  ·split at h
   ·simp at h;omega
   ·cases h
  ·have:=goEnds_gt t _ _ _ h
   omega
theorem goEnds_mem:∀ (t:List Nat) (w:Wd) (i k:Nat),(i+k+1)∈goEnds w i t ↔ ∃ b,t[k]?=some b∧(stW (runE w i (t.take k)) (i+k == 0) b).2=true
 | [],_,_,_=>by simp [goEnds]
 | b::t,w,i,0=>by
  simp only [goEnds,List.mem_append,List.take_zero,runE,Nat.add_zero,List.getElem?_cons_zero,Option.some.injEq,exists_eq_left']
  constructor
  ·rintro (h|h)
   ·split at h
    ·assumption
    ·cases h
   ·have:=goEnds_gt t _ _ _ h
    omega
  ·intro h
   rw [if_pos h]
   exact .inl (by simp)
 | b::t,w,i,k+1=>by
  have ih:=goEnds_mem t (stW w (i == 0) b).1 (i+1) k
  have e1:i+1+k+1=i+(k+1)+1:=by omega
  have e2:i+1+k=i+(k+1):=by omega
  rw [e1,e2] at ih
  simp only [goEnds,List.mem_append,List.take_succ_cons,runE,List.getElem?_cons_succ]
  rw [← ih]
  constructor
  ·rintro (h|h)
   ·split at h
    ·simp at h
    ·cases h
   ·exact h
  ·exact .inr
theorem goEnds_len:∀ (t:List Nat) (w:Wd) (i:Nat),(goEnds w i t).length≤t.length
 | [],_,_=>by simp [goEnds]
 | b::t,w,i=>by
  have:=goEnds_len t (stW w (i == 0) b).1 (i+1)
  simp only [goEnds,List.length_append,List.length_cons]
  split<;>simp<;>omega
theorem ends_len (w:Wd) (t:List Nat):(endsM w t).length≤t.length+1:=by
 have:=goEnds_len t w 0
 simp only [endsM,List.length_append]
 split<;>simp<;>omega
theorem good_len (e:E) (t:List Nat):(goodE e t).length≤t.length+1:=by
 unfold goodE
 split
 ·exact ends_len ..
 ·simp
theorem ends_mem0 (w:Wd) (t:List Nat):0∈endsM w t ↔ emW w=true:=by
 simp only [endsM,List.mem_append]
 constructor
 ·rintro (h|h)
  ·split at h
   ·assumption
   ·cases h
  ·have:=goEnds_gt _ _ _ _ h;omega
 ·intro h;rw [if_pos h];exact .inl (by simp)
theorem ends_memS (w:Wd) (t:List Nat) (k:Nat):(k+1)∈endsM w t ↔ ∃ b,t[k]?=some b∧(stW (runE w 0 (t.take k)) (k == 0) b).2=true:=by
 have:=goEnds_mem t w 0 k
 rw [Nat.zero_add] at this
 rw [← this]
 simp only [endsM,List.mem_append]
 constructor
 ·rintro (h|h)
  ·split at h
   ·simp at h
   ·cases h
  ·exact h
 ·exact .inr
theorem good_take (e:E) (t:List Nat) (n:Nat) (h:n≤t.length):(goodE e (t.take n)).contains n=(goodE e t).contains n:=by
 rw [Bool.eq_iff_iff]
 simp only [List.contains_iff_mem]
 unfold goodE
 cases foW e with
 | none=>simp
 | some w =>
  cases n with
  | zero=>simp only [ends_mem0]
  | succ k =>
   simp only [ends_memS,List.take_take,Nat.min_eq_left (Nat.le_succ k),List.getElem?_take]
   simp
mutual
def Dead:Wd→Prop
 | .non=>True
 | .one _ m=>m=false
 | .both a b _ la=>Dead a∧Dead b∧la=false
 | .alt l _ la=>Deads l∧la=false
 | .rep w _ _=>Dead w
def Deads:List Wd→Prop
 | []=>True
 | w::l=>Dead w∧Deads l
end
theorem dead_en:∀ {w:Wd},Dead w→enW w=false
 | .non,_=>rfl
 | .one _ _,h=>h
 | .both _ _ _ _,h=>h.2.2
 | .alt _ _ _,h=>h.2
 | .rep w _ _,h=>dead_en (w:=w) h
mutual
theorem dead_st:∀ (w:Wd) (c:Nat),Dead w→Dead (stW w false c).1∧(stW w false c).2=false
 | .non,c,_=>by simp [stW,Dead]
 | .one s m,c,_=>by simp [stW,Dead]
 | .both a b n la,c,h=>by
  obtain ⟨a1,a2⟩:=dead_st a c h.1
  obtain ⟨b1,b2⟩:=dead_st b c h.2.1
  have he:=dead_en h.1
  simp only [stW,Dead,he,Bool.false_and,Bool.or_false]
  exact ⟨⟨a1,b1,by rw [a2,b2];rfl⟩,by rw [a2,b2];rfl⟩
 | .alt l n la,c,h=>by
  obtain ⟨a1,a2⟩:=deads_st l c h.1
  simp only [stW,Dead]
  exact ⟨⟨a1,a2⟩,a2⟩
 | .rep w lp n,c,h=>by
  have he:=dead_en (w:=w) h
  simp only [stW,Dead,he,Bool.and_false,Bool.or_false]
  exact dead_st w c h
theorem deads_st:∀ (l:List Wd) (c:Nat),Deads l→Deads (stWs l false c).1∧(stWs l false c).2=false
 | [],c,_=>by simp [stWs,Deads]
 | w::l,c,h=>by
  obtain ⟨a1,a2⟩:=dead_st w c h.1
  obtain ⟨b1,b2⟩:=deads_st l c h.2
  simp only [stWs,Deads]
  exact ⟨⟨a1,b1⟩,by rw [a2,b2];rfl⟩
end
mutual
theorem nx_dead:∀ (w:Wd) (bg:Bool) (c:Nat),hasM (nxW w bg) c=false→Dead (stW w bg c).1∧(stW w bg c).2=false
 | .non,bg,c,_=>by simp [stW,Dead]
 | .one s m,bg,c,h=>by
  simp only [nxW] at h
  simp only [stW,Dead]
  cases bg with
  | false=>simp
  | true=>simp only [if_true] at h;simp [h]
 | .both a b n la,bg,c,h=>by
  simp only [nxW,has_uni,Bool.or_eq_false_iff] at h
  obtain ⟨a1,a2⟩:=nx_dead a bg c h.1
  obtain ⟨b1,b2⟩:=nx_dead b _ c h.2
  simp only [stW,Dead]
  exact ⟨⟨a1,b1,by rw [a2,b2];rfl⟩,by rw [a2,b2];rfl⟩
 | .alt l n la,bg,c,h=>by
  simp only [nxW] at h
  obtain ⟨a1,a2⟩:=(nxs_dead l bg c st0 h).2
  simp only [stW,Dead]
  exact ⟨⟨a1,a2⟩,a2⟩
 | .rep w lp n,bg,c,h=>by
  simp only [nxW] at h
  simp only [stW,Dead]
  exact nx_dead w _ c h
theorem nxs_dead:∀ (l:List Wd) (bg:Bool) (c:Nat) (s:St4),hasM (nxWs l bg s) c=false→hasM s c=false∧Deads (stWs l bg c).1∧(stWs l bg c).2=false
 | [],bg,c,s,h=>by simp only [nxWs] at h;exact ⟨h,by simp [stWs,Deads]⟩
 | w::l,bg,c,s,h=>by
  simp only [nxWs] at h
  obtain ⟨h1,b1,b2⟩:=nxs_dead l bg c _ h
  rw [has_uni,Bool.or_eq_false_iff] at h1
  obtain ⟨a1,a2⟩:=nx_dead w bg c h1.2
  simp only [stWs,Deads]
  exact ⟨h1.1,⟨a1,b1⟩,by rw [a2,b2];rfl⟩
end
theorem runE_app:∀ (a b:List Nat) (w:Wd) (i:Nat),runE w i (a++b)=runE (runE w i a) (i+a.length) b
 | [],b,w,i=>rfl
 | x::a,b,w,i=>by
  simp only [List.cons_append,runE,List.length_cons]
  rw [runE_app a b,show i+1+a.length=i+(a.length+1) by omega]
theorem dead_run:∀ (t:List Nat) (w:Wd) (i:Nat),0<i→Dead w→Dead (runE w i t)
 | [],w,i,_,h=>h
 | b::t,w,i,hi,h=>by
  have hb:(i == 0)=false:=beq_false_of_ne (by omega)
  simp only [runE,hb]
  exact dead_run t _ _ (by omega) (dead_st w b h).1
theorem good_next (e:E) (t:List Nat) (n m b:Nat) (h:n∈goodE e t) (hm:m<n) (hb:t[m]?=some b):hasM (nxtE e (t.take m)) b=true:=by
 unfold goodE at h
 unfold nxtE
 cases hw:foW e with
 | none=>rw [hw] at h;cases h
 | some w =>
  rw [hw] at h
  simp only at h ⊢
  cases n with
  | zero=>omega
  | succ k =>
   rw [ends_memS] at h
   obtain ⟨c,hc,hst⟩:=h
   cases hq:hasM (nxW (runE w 0 (t.take m)) ((t.take m).length == 0)) b with
   | true=>rfl
   | false =>
    exfalso
    have hmt:m<t.length:=(List.getElem?_eq_some_iff.1 hb).1
    have hkt:k<t.length:=(List.getElem?_eq_some_iff.1 hc).1
    have hl:(t.take m).length=m:=by rw [List.length_take];omega
    rw [hl] at hq
    obtain ⟨d1,d2⟩:=nx_dead _ _ _ hq
    rcases Nat.lt_or_ge m k with hlt|hge
    ·have e1:t.take k=t.take m++b::((t.take k).drop (m+1)):=by
      have h1:(t.take k)[m]?=some b:=by rw [List.getElem?_take,if_pos hlt];exact hb
      have h2:(t.take k).drop m=b::(t.take k).drop (m+1):=by
       obtain ⟨h3,h4⟩:=List.getElem?_eq_some_iff.1 h1
       rw [List.drop_eq_getElem_cons h3,h4]
      have h5:(t.take k).take m=t.take m:=by rw [List.take_take,Nat.min_eq_left (by omega)]
      rw [← h2,← h5,List.take_append_drop]
     rw [e1,runE_app,hl,Nat.zero_add] at hst
     simp only [runE] at hst
     have hd:=dead_run ((t.take k).drop (m+1)) _ (m+1) (by omega) d1
     have hk0:(k == 0)=false:=beq_false_of_ne (by omega)
     rw [hk0] at hst
     rw [(dead_st _ c hd).2] at hst
     cases hst
    ·obtain rfl:k=m:=by omega
     rw [hb] at hc
     cases hc
     rw [d2] at hst
     cases hst
def openAt (e:E) (t:List Nat) (n:Nat):Bool:=(List.range n).all fun m=>match t[m]? with|some b=>hasM (nxtE e (t.take m)) b|none=>true
theorem open_s (e:E) (t:List Nat) (n b:Nat) (hb:t[n]?=some b):openAt e t (n+1)=(openAt e t n && hasM (nxtE e (t.take n)) b):=by
 simp [openAt,List.range_succ,hb]
theorem open_ok (e:E) (t:List Nat) (n:Nat) (h:(goodE e t).contains n=true):openAt e t n=true:=by
 rw [List.contains_iff_mem] at h
 simp only [openAt,List.all_eq_true,List.mem_range]
 intro m hm
 split
 ·rename_i b hb
  exact good_next e t n m b h hm hb
 ·rfl
end Go.Proofs.YtlnijcffanjieaaGreatDoor
namespace Go.Proofs.YtlnijcffanjieaaGreatDoor
set_option maxRecDepth 10000
open Go Go.Vm
theorem c27:Tryz.prog.cellsOf 27=10:=by kernel_rfl
theorem c24:Tryz.prog.cellsOf 24=4:=by kernel_rfl
theorem c22:Tryz.prog.cellsOf 22=1:=by kernel_rfl
theorem c25:Tryz.prog.cellsOf 25=1:=by kernel_rfl
theorem c28:Tryz.prog.cellsOf 28=1:=by kernel_rfl
theorem c34:Tryz.prog.cellsOf 34=1:=by kernel_rfl
theorem c30:Tryz.prog.cellsOf 30=11:=by kernel_rfl
theorem c9:Tryz.prog.cellsOf 9=1:=by kernel_rfl
theorem c3':Tryz.prog.cellsOf 3=1:=by kernel_rfl
theorem c5':Tryz.prog.cellsOf 5=1:=by kernel_rfl
theorem mk27 (cs:List V):mkEl Tryz.prog 27 cs=.agg cs:=by
 have:isAggT Tryz.prog 27=true:=by kernel_rfl
 simp only [mkEl,this,if_true]
theorem mk34 (x:V):mkEl Tryz.prog 34 [x]=x:=by
 have:isAggT Tryz.prog 34=false:=by kernel_rfl
 simp only [mkEl,this,Bool.false_eq_true,if_false];rfl
theorem mk5 (x:V):mkEl Tryz.prog 5 [x]=x:=by
 have:isAggT Tryz.prog 5=false:=by kernel_rfl
 simp only [mkEl,this,Bool.false_eq_true,if_false];rfl
theorem typed3 {n:Nat} {xs:List V} (h:Typed Tryz.prog n 3 xs):∃ z,xs=[.int .i64 z]:=by
 cases n with
 | zero=>exact h.elim
 | succ n =>
  simp only [Typed,Tryz.underlying3] at h
  obtain ⟨z,h,_⟩:=h;exact ⟨z,h⟩
theorem typed5 {n:Nat} {xs:List V} (h:Typed Tryz.prog n 5 xs):∃ z:Nat,xs=[.int .u8 z]∧z<256:=by
 cases n with
 | zero=>exact h.elim
 | succ n =>
  simp only [Typed,Tryz.underlying5] at h
  obtain ⟨z,h,hw⟩:=h
  have h1:0≤z∧z<256:=by
   simp [Lit.wf,IntKind.min,IntKind.max,IntKind.signed,IntKind.bits] at hw
   omega
  exact ⟨z.toNat,by rw [h,Int.toNat_of_nonneg h1.1],by omega⟩
theorem typed22 {n:Nat} {xs:List V} (h:Typed Tryz.prog n 22 xs):∃ z,xs=[.int .u64 z]∧r64 z:=by
 cases n with
 | zero=>exact h.elim
 | succ n =>
  simp only [Typed,Tryz.underlying22] at h
  obtain ⟨z,h,hw⟩:=h
  refine ⟨z,h,?_⟩
  simp [Lit.wf,IntKind.min,IntKind.max,IntKind.signed,IntKind.bits] at hw
  unfold r64
  omega
theorem typed9 {n:Nat} {xs:List V} (h:Typed Tryz.prog n 9 xs):∃ s,xs=[.str s]∧(∀ b∈s,b<256)∧s.length≤maxLen:=by
 cases n with
 | zero=>exact h.elim
 | succ n =>
  simp only [Typed,Tryz.underlying9] at h
  exact h
theorem typed24 {n:Nat} {xs:List V} (h:Typed Tryz.prog n 24 xs):∃ a b c d,xs=[.int .u64 a,.int .u64 b,.int .u64 c,.int .u64 d]∧RgS (a,b,c,d):=by
 cases n with
 | zero=>exact h.elim
 | succ n =>
  simp only [Typed,Tryz.underlying24,c24,c22] at h
  obtain ⟨hl,h⟩:=h
  match xs,hl with
  | [x,y,z,w],_ =>
   obtain ⟨a,ha,ra⟩:=typed22 (h 0 (by omega))
   obtain ⟨b,hb,rb⟩:=typed22 (h 1 (by omega))
   obtain ⟨c,hc,rc⟩:=typed22 (h 2 (by omega))
   obtain ⟨d,hd,rd⟩:=typed22 (h 3 (by omega))
   simp at ha hb hc hd
   exact ⟨a,b,c,d,by rw [ha,hb,hc,hd],ra,rb,rc,rd⟩
theorem encs_ex:∀ (ys:List V),(∀ y∈ys,∃ e,enc e=y∧GdE e∧Rg e)→∃ l,encs l=ys∧Wfs l∧Cans l∧Rgs l
 | [],_=>⟨[],rfl,trivial,trivial,trivial⟩
 | y::ys,h=>by
  obtain ⟨e,h1,h2,h5⟩:=h y List.mem_cons_self
  obtain ⟨l,h3,h4,h6,h7⟩:=encs_ex ys fun z hz=>h z (List.mem_cons_of_mem _ hz)
  exact ⟨e::l,by simp [encs,h1,h3],⟨h2.1,h4⟩,⟨h2.2,h6⟩,h5,h7⟩
theorem list_ex {α:Type} {h:α→V} {Q:α→Prop}:∀ (ys:List V),(∀ y∈ys,∃ a,h a=y∧Q a)→∃ l:List α,l.map h=ys∧∀ a∈l,Q a
 | [],_=>⟨[],rfl,fun _ h=>by simp at h⟩
 | y::ys,hy=>by
  obtain ⟨a,h1,h2⟩:=hy y (List.mem_cons_self ..)
  obtain ⟨l,h3,h4⟩:=list_ex ys fun z hz=>hy z (List.mem_cons_of_mem _ hz)
  refine ⟨a::l,by simp [h1,h3],fun b hb=>?_⟩
  rcases List.mem_cons.1 hb with rfl|hb
  ·exact h2
  ·exact h4 b hb
mutual
theorem typedE:∀ (n:Nat) (xs:List V),Typed Tryz.prog n 27 xs→∃ e,enc e=.agg xs∧GdE e∧Rg e
 | 0,_,h=>h.elim
 | n+1,xs,h=>by
  simp only [Typed,Tryz.underlying27,c27] at h
  obtain ⟨hl,h⟩:=h
  have f0:=h ⟨ "Op",3,0,false,"","",0⟩ (by simp)
  have f1:=h ⟨ "At",3,1,false,"","",8⟩ (by simp)
  have f2:=h ⟨ "Set",24,2,false,"","",16⟩ (by simp)
  have f3:=h ⟨ "Text",9,6,false,"","",48⟩ (by simp)
  have f4:=h ⟨ "Min",3,7,false,"","",64⟩ (by simp)
  have f5:=h ⟨ "Max",3,8,false,"","",72⟩ (by simp)
  have f6:=h ⟨ "Args",25,9,false,"","",80⟩ (by simp)
  clear h
  simp only [c3',c24,c9,c25] at f0 f1 f2 f3 f4 f5 f6
  match xs,hl with
  | [x0,x1,x2,x3,x4,x5,x6,x7,x8,x9],_ =>
   simp only [List.drop_succ_cons,List.drop_zero,List.take_succ_cons,List.take_zero] at f0 f1 f2 f3 f4 f5 f6
   obtain ⟨op,h0⟩:=typed3 f0
   obtain ⟨pl,h1⟩:=typed3 f1
   obtain ⟨a,b,c,d,h2,hr⟩:=typed24 f2
   obtain ⟨s,h3,_,hs⟩:=typed9 f3
   obtain ⟨mn,h4⟩:=typed3 f4
   obtain ⟨mx,h5⟩:=typed3 f5
   obtain ⟨nl,l,h6,h7,h8,h9,h10,h11⟩:=typedL n x9 f6
   simp only [List.cons.injEq,and_true] at h0 h1 h2 h3 h4 h5
   obtain ⟨rfl,rfl,rfl,rfl⟩:=h2
   subst h0 h1 h3 h4 h5 h6
   exact ⟨.mk op pl a b c d s mn mx nl l,rfl,⟨⟨hs,h7,h8⟩,h11,h9⟩,hr,h10⟩
theorem typedL:∀ (n:Nat) (v:V),Typed Tryz.prog n 25 [v]→∃ nl l,v=argV nl (encs l)∧l.length≤maxLen∧Wfs l∧Cans l∧Rgs l∧(nl=true→l=[])
 | 0,_,h=>h.elim
 | n+1,v,h=>by
  simp only [Typed,Tryz.underlying25,c27] at h
  rcases h with h|⟨ys,h,⟨hl,_⟩,hy⟩
  ·simp only [List.cons.injEq,and_true] at h
   exact ⟨true,[],by rw [h];rfl,by simp,trivial,trivial,trivial,fun _=>rfl⟩
  ·simp only [List.cons.injEq,and_true] at h
   obtain ⟨l,h1,h2,h3,h4⟩:=encs_ex ys fun y hyy=>by
    obtain ⟨cs,g1,g2⟩:=hy y hyy
    rw [mk27] at g2
    rw [g2]
    exact typedE n cs g1
   subst h1
   rw [encs_length] at hl
   exact ⟨false,l,by rw [h];rfl,hl,h2,h3,h4,fun h=>by cases h⟩
end
abbrev Tx:=Bool×List Nat
def txV (p:Tx):V:=bytV p.1 p.2
def txsV (nl:Bool) (l:List Tx):V:=Sx.lv 1 nl (l.map txV)
def TxOk (p:Tx):Prop:=p.2.length≤maxLen∧∀ b∈p.2,b<256
theorem typed34 {n:Nat} {xs:List V} (h:Typed Tryz.prog n 34 xs):∃ p:Tx,xs=[txV p]∧TxOk p:=by
 cases n with
 | zero=>exact h.elim
 | succ n =>
  simp only [Typed,Tryz.underlying34,c5'] at h
  rcases h with h|⟨ys,h,⟨hl,_⟩,hy⟩
  ·exact ⟨(true,[]),h,by simp [TxOk]⟩
  ·obtain ⟨l,h1,h2⟩:=list_ex (h:=fun b:Nat=>V.int .u8 (b:Nat)) (Q:=fun b=>b<256) ys fun y hyy=>by
    obtain ⟨ds,g1,g2⟩:=hy y hyy
    obtain ⟨z,g3,g4⟩:=typed5 g1
    rw [g3,mk5] at g2
    exact ⟨z,g2.symm,g4⟩
   subst h1
   rw [List.length_map] at hl
   exact ⟨(false,l),h,hl,h2⟩
theorem typed28 {n:Nat} {v:V} (h:Typed Tryz.prog n 28 [v]):∃ nl l,v=txsV nl l∧l.length≤maxLen∧∀ p∈l,TxOk p:=by
 cases n with
 | zero=>exact h.elim
 | succ n =>
  simp only [Typed,Tryz.underlying28,c34] at h
  rcases h with h|⟨ys,h,⟨hl,_⟩,hy⟩
  ·simp only [List.cons.injEq,and_true] at h
   exact ⟨true,[],by rw [h];rfl,by simp,by simp⟩
  ·simp only [List.cons.injEq,and_true] at h
   obtain ⟨l,h1,h2⟩:=list_ex (h:=txV) (Q:=TxOk) ys fun y hyy=>by
    obtain ⟨cs,g1,g2⟩:=hy y hyy
    obtain ⟨p,g3,g4⟩:=typed34 g1
    rw [g3,mk34] at g2
    exact ⟨p,g2.symm,g4⟩
   subst h1
   rw [List.length_map] at hl
   exact ⟨false,l,by rw [h];rfl,hl,h2⟩
theorem typed30 {n:Nat} {xs:List V} (h:Typed Tryz.prog n 30 xs):∃ e nl l,xs=ecells e++[txsV nl l]∧(GdE e∧Rg e)∧l.length≤maxLen∧∀ p∈l,TxOk p:=by
 cases n with
 | zero=>exact h.elim
 | succ n =>
  simp only [Typed,Tryz.underlying30,c30] at h
  obtain ⟨hl,h⟩:=h
  have f0:=h ⟨ "E",27,0,false,"","",0⟩ (by simp)
  have f1:=h ⟨ "Texts",28,10,false,"","",104⟩ (by simp)
  clear h
  simp only [c27,c28] at f0 f1
  rw [List.drop_zero] at f0
  obtain ⟨e,he,ge⟩:=typedE n _ f0
  obtain ⟨x,hx⟩:∃ x,(xs.drop 10).take 1=[x]:=by
   match xs,hl with
   | [_,_,_,_,_,_,_,_,_,_,x],_=>exact ⟨x,rfl⟩
  rw [hx] at f1
  obtain ⟨nl,l,rfl,k1,k2⟩:=typed28 f1
  rw [enc_cells,V.agg.injEq] at he
  refine ⟨e,nl,l,?_,ge,k1,k2⟩
  have e1:(xs.drop 10).take 1=xs.drop 10:=List.take_of_length_le (by simp [hl])
  rw [he,← hx,e1,List.take_append_drop]
end Go.Proofs.YtlnijcffanjieaaGreatDoor
namespace Go.Proofs.YtlnijcffanjieaaGreatDoor
set_option maxRecDepth 10000
open Go Go.Vm Go.Vm.Sx
theorem lent3:lentP Tryz.prog Tryz.f3.params.toList=some []:=by kernel_rfl
theorem par30 {x:V}:ParOk Tryz.prog [30] [.d x] 0:=by
 refine ⟨fun e=>?_,trivial⟩
 rw [Tryz.underlying30];simp
theorem k_txs (nl:Bool) (l:List Tx):kOk (.sl 1) (txsV nl l)=true:=k_lv ..
theorem vL_txs (nl:Bool) (l:List Tx):vL (txsV nl l)=l.map txV:=vL_lv ..
theorem tops_tx:∀ l:List Tx,tops (l.map txV)=0
 | []=>rfl
 | a::l=>by simp only [List.map_cons,tops];rw [tops_tx l];simp [txV,top_byt]
theorem top_txs (nl:Bool) (l:List Tx):(txsV nl l).top=0:=by unfold txsV;rw [top_lv];exact tops_tx l
theorem nth_txs {l:List Tx} {i:Nat} {p:Tx} (h:l[i]?=some p):nth (l.map txV) i=some (bytV p.1 p.2):=by rw [nth_eq,List.getElem?_map,h];rfl
theorem nth_byt {t:List Nat} {i b:Nat} (h:t[i]?=some b):nth (t.map fun b=>V.int .u8 (b:Nat)) i=some (.int .u8 (b:Nat)):=by rw [nth_eq,List.getElem?_map,h];rfl
theorem endV_ok {e:E} {t:List Nat} (h:okP e t=true):endV e t=.tup [nvL (goodE e t),.nili]:=by simp only [endV,h,if_true,own_nvL]
theorem nxtV_ok {e:E} {t:List Nat} (h:okP e t=true):nxtV e t=.tup [stV (nxtE e t),.nili]:=by simp only [nxtV,h,if_true]
theorem kIfc:kOk .ifc .nili=true:=rfl
theorem runE_rg:∀ (t:List Nat) (w:Wd) (i:Nat),RgW w→RgW (runE w i t)
 | [],w,i,h=>h
 | b::t,w,i,h=>by
  simp only [runE]
  exact runE_rg t _ _ (Rg_st (FW w) w _ b (Nat.le_refl _) h)
theorem nxtE_rg {e:E} {t:List Nat} (hc:Cor e) (hr:Rg e):RgS (nxtE e t):=by
 unfold nxtE
 cases hw:foW e with
 | none=>exact (by decide:RgS st0)
 | some w=>exact nx_rg _ _ (runE_rg t w 0 (foW_rg _ e w (Nat.le_refl _) hc hr hw))
theorem tx_take {t:List Nat} (h:∀ b∈t,b<256) (n:Nat):∀ b∈t.take n,b<256:=fun b hb=>h b (List.mem_of_mem_take hb)
theorem text_ok {t:List Nat} (h:∀ b∈t,b<256):∀ b∈textM t,b<256:=by
 unfold textM
 split
 ·exact tx_take h 40
 ·exact h
theorem ev3 (e:E) (he:GdE e) (hr:Rg e) (nl:Bool) (l:List Tx) (hl:l.length≤maxLen) (htx:∀ p∈l,TxOk p):Ev Tryz.prog gl1 3 [.d (.agg (ecells e++[txsV nl l]))] [] (.bool true) []:=by
 have hgl:=GL1
 have hml:=maxLen_le
 have hmg:41≤maxLen:=by decide
 have z0:lez 0 0=true:=by decide
 refine fun_pure (xs:=[.agg (ecells e++[txsV nl l])]) hgl.top (fun args=>hgl.no 3 rfl args) tree3_ok Tryz.func3 lent3 par30 (by simp [tops,V.top,tops_app,ecells_tops,top_txs]) (N:=l.length+42) ?_
 obtain ⟨op,pl,s0,s1,s2,s3,text,mn,mx,nl',args⟩:=e
 have c10:=phE_eq (ev10 hgl (.mk op pl s0 s1 s2 s3 text mn mx nl' args) he.1 0)
 have c11:=phE_eq (ev11 hgl (.mk op pl s0 s1 s2 s3 text mn mx nl' args) he.1)
 have c12:=phE_eq ev12
 simp only [enc] at c10 c11
 simp only [tree3,ecells,List.cons_append,List.nil_append]
 cases hs:ltz 600 (sizeM (.mk op pl s0 s1 s2 s3 text mn mx nl' args) 0) with
 | true=>simp only [ev_f,ev_out,ev_letv,ev_opn,ev_kin,ev_call,at_z,at_s,ks_cons,kInt,kStr,kBool,ks_nil,Bool.and_self,Bool.not_true,bif_t,cons_app,nil_app,evB,evI,evCs,evC,evSC,evAs,evA,evLent,evVE,vI_int,cm_gtr,joinL,sizesOk,clr_int,clr_str,kArg,k_txs,clr_argV,c10,c12,hs]
 | false =>
 cases hk:chkP (.mk op pl s0 s1 s2 s3 text mn mx nl' args) with
 | false =>
  rw [hk] at c11
  simp only [ev_t,ev_out,ev_letv,ev_opn,ev_kin,ev_call,at_z,at_s,ks_cons,kInt,kStr,kBool,ks_nil,Bool.and_self,Bool.not_false,bif_t,cons_app,nil_app,evB,evI,evCs,evC,evSC,evAs,evA,evLent,evVE,vI_int,vB_bool,cm_gtr,joinL,sizesOk,clr_int,clr_str,kArg,k_txs,clr_argV,c10,c11,c12,hs]
 | true =>
  rw [hk] at c11
  simp only [ev_t,ev_f,ev_opn,ev_kin,ev_call,ev_loop,at_z,at_s,ks_cons,kInt,kStr,kBool,ks_nil,Bool.and_self,Bool.not_true,Bool.not_false,bif_t,cons_app,nil_app,evB,evI,evCs,evC,evSC,evAs,evA,evLent,vI_int,vB_bool,cm_gtr,joinL,sizesOk,clr_int,clr_str,kArg,k_txs,clr_argV,c10,c11,hs]
  have hcor:=chk_cor hk
  refine loopT_up (st:=fun i=>[.int .i64 (i:Int)]) (m:=min l.length 4) (fun i hi=>?_) ?_ (by omega)
  ·have hil:i<l.length:=by omega
   obtain ⟨p,hp⟩:∃ p,l[i]?=some p:=⟨l[i],by simp [hil]⟩
   have hpt:=htx p (List.mem_of_getElem? hp)
   have h1:=ltn_t hil
   have h1b:ltz (i:Int) 4=true:=ltz_t (by omega)
   have h2:=nth_txs hp
   have h4:=w64s (i:=i) (by omega)
   have c13:=phE_eq (ev13 hgl p.1 p.2)
   obtain ⟨t,ht⟩:∃ t,t=textM p.2:=⟨_,rfl⟩
   obtain ⟨nb,hnb⟩:∃ nb,nb=(p.1 && p.2.isEmpty):=⟨_,rfl⟩
   rw [← ht,← hnb] at c13
   have htb:∀ b∈t,b<256:=by rw [ht];exact text_ok hpt.2
   simp only [lp3_2]
   by_cases hlen:40<t.length
   ·have h5:ltz 40 (t.length:Int)=true:=ltz_t (by omega)
    simp only [ev_t,ev_out,ev_elem,ev_kin,ev_call,at_z,at_s,ks_nil,Bool.and_self,bif_t,bif_f,cons_app,nil_app,evB,evI,evL,evCs,evC,evSC,evAs,evA,evLent,vI_int,cm_lss,cm_gtr,biI,ltn_0,joinL,sizesOk,vL_txs,vL_byt,h1,h1b,h2,h4,h5,c13,k_byt,clr_byt,List.length_map,Int.toNat_natCast]
   ·have h5:ltz 40 (t.length:Int)=false:=ltz_f (by omega)
    have hok:∀ n,okP (.mk op pl s0 s1 s2 s3 text mn mx nl' args) (t.take n)=true:=fun n=>by
     have:(t.take n).length≤t.length:=List.length_take_le' ..
     simp only [okP,hk,Bool.true_and,decide_eq_true_eq]
     omega
    have hokt:=hok t.length
    rw [List.take_length] at hokt
    have c14:=phE_eq (ev14 (nl:=nb) he hr htb)
    rw [endV_ok hokt] at c14
    simp only [enc] at c14
    simp only [ev_t,ev_f,ev_elem,ev_unt,ev_kin,ev_call,at_z,at_s,ks_cons,ks_nil,Bool.and_self,bif_t,bif_f,cons_app,nil_app,evB,evI,evL,evCs,evC,evSC,evAs,evA,evLent,vI_int,cm_lss,cm_gtr,ltn_0,joinL,sizesOk,clr_int,clr_str,vL_txs,vL_byt,h1,h1b,h2,h5,c13,c14,k_byt,k_nvL,kIfc,clr_byt,clr_argV,List.length_map,Int.toNat_natCast]
    rw [ev_f (by rfl)]
    simp only [ev_loop,evB,evI,evCs,evC]
    have hg1:=good_len (.mk op pl s0 s1 s2 s3 text mn mx nl' args) t
    refine (congrArg (loopT _ _ _ _ _) ?_).trans (loopT_up (st:=fun n=>[.bool (openAt (.mk op pl s0 s1 s2 s3 text mn mx nl' args) t (min n t.length)),.int .i64 (n:Int)]) (m:=t.length+1) (fun n hn=>?_) ?_ (by omega))
    ·simp [openAt]
    ·have hnt:n≤t.length:=by omega
     have hmin:min n t.length=n:=by omega
     have i1:lez (n:Int) (t.length:Int)=true:=lez_t (by omega)
     have i2:lez 0 (n:Int)=true:=lez_t (by omega)
     have i3:=slc_byt nb t n
     have i4:=w64s (i:=n) (by omega)
     have htk:=tx_take htb n
     have d14:=phE_eq (ev14 (nl:=nb && t.isEmpty) he hr htk)
     rw [endV_ok (hok n)] at d14
     have hg2:=good_len (.mk op pl s0 s1 s2 s3 text mn mx nl' args) (t.take n)
     have hg3:(t.take n).length≤t.length:=List.length_take_le' ..
     have c15a:=phE_eq (ev15 hgl (goodE (.mk op pl s0 s1 s2 s3 text mn mx nl' args) (t.take n)) n (by omega))
     rw [good_take _ t n hnt] at c15a
     have c15b:=phE_eq (ev15 hgl (goodE (.mk op pl s0 s1 s2 s3 text mn mx nl' args) t) n (by omega))
     have d16:=phE_eq (ev16 (nl:=nb && t.isEmpty) he hr htk)
     rw [nxtV_ok (hok n)] at d16
     have hrs:RgS (nxtE (.mk op pl s0 s1 s2 s3 text mn mx nl' args) (t.take n)):=nxtE_rg hcor hr
     simp only [enc,stV] at d14 d16
     have hop:(goodE (.mk op pl s0 s1 s2 s3 text mn mx nl' args) t).contains n=true→openAt (.mk op pl s0 s1 s2 s3 text mn mx nl' args) t n=true:=open_ok _ t n
     obtain ⟨o,ho⟩:∃ o,o=openAt (.mk op pl s0 s1 s2 s3 text mn mx nl' args) t n:=⟨_,rfl⟩
     obtain ⟨c,hcn⟩:∃ c,c=(goodE (.mk op pl s0 s1 s2 s3 text mn mx nl' args) t).contains n:=⟨_,rfl⟩
     simp only [lp3_1,hmin]
     rw [← hcn] at c15a c15b hop
     rw [← ho] at hop ⊢
     have hco:(c && !o)=false:=by
      cases c with
      | false=>rfl
      | true=>rw [hop rfl];rfl
     simp only [ev_t,ev_need,ev_letv,ev_unt,ev_call,at_z,at_s,ks_cons,ks_nil,Bool.and_self,bif_t,cons_app,nil_app,evB,evI,evL,evCs,evC,evSC,evAs,evA,evLent,evVE,vI_int,cm_leq,joinL,sizesOk,clr_int,clr_str,vL_byt,z0,i1,i2,i3,d14,k_nvL,kIfc,clr_byt,clr_argV,List.length_map]
     rw [ev_t (by rfl)]
     simp only [ev_t,ev_f,ev_kin,ev_call,at_z,at_s,kBool,ks_nil,Bool.and_self,bif_t,cons_app,nil_app,evB,evC,evSC,evAs,evA,evLent,vB_bool,joinL,sizesOk,clr_int,c15a,c15b,clr_nvL,beq_self_eq_true,hco]
     by_cases hlt:n<t.length
     ·obtain ⟨b,hb⟩:∃ b,t[n]?=some b:=⟨t[n],by simp [hlt]⟩
      have hb2:=htb b (List.mem_of_getElem? hb)
      have j1:=ltn_t hlt
      have j2:=nth_byt hb
      have c17:=phE_eq (ev17 hgl _ hrs b hb2)
      have hkr:kOk .raw (stV (nxtE (.mk op pl s0 s1 s2 s3 text mn mx nl' args) (t.take n)))=true:=by rfl
      simp only [stV] at c17 hkr
      have hmin2:min (n+1) t.length=n+1:=by omega
      have hos:=open_s (.mk op pl s0 s1 s2 s3 text mn mx nl' args) t n b hb
      rw [← ho] at hos
      rw [hmin2,hos]
      simp only [ev_t,ev_need,ev_letv,ev_opn,ev_unt,ev_call,at_z,at_s,ks_cons,kInt,ks_nil,Bool.and_self,bif_t,cons_app,nil_app,evB,evI,evL,evCs,evC,evSC,evAs,evA,evLent,evVE,vI_int,cm_lss,cm_leq,joinL,sizesOk,clr_int,clr_str,vL_byt,z0,i1,i2,i3,kIfc,clr_byt,clr_argV,List.length_map,j1,d16,hkr]
      rw [ev_f (by rfl)]
      cases o
      all_goals
       simp only [ev_t,ev_f,ev_out,ev_elem,ev_kin,ev_call,at_z,at_s,kInt,kBool,ks_nil,Bool.and_self,Bool.true_and,Bool.false_and,bif_t,bif_f,cons_app,nil_app,evB,evI,evL,evCs,evC,evSC,evAs,evA,evLent,vI_int,vB_bool,biI,ltn_0,joinL,sizesOk,clr_int,clr_bool,vL_byt,i4,Int.toNat_natCast,j2,c17]
     ·have j1:ltz (n:Int) (t.length:Int)=false:=ltz_f (by omega)
      have hmin2:min (n+1) t.length=n:=by omega
      rw [hmin2,← ho]
      simp only [ev_f,ev_out,at_z,at_s,evB,evI,evL,evCs,evC,vI_int,cm_lss,biI,vL_byt,i4,List.length_map,j1]
    ·have i1:lez ((t.length+1:Nat):Int) (t.length:Int)=false:=lez_f (by omega)
     simp only [lp3_1]
     simp only [ev_f,ev_out,ev_esc,at_z,at_s,cons_app,nil_app,evB,evI,evL,evCs,evC,vI_int,cm_leq,biI,vL_byt,i1,h4,List.length_map]
  ·have h1:(ltz ((min l.length 4:Nat):Int) (l.length:Int) && ltz ((min l.length 4:Nat):Int) 4)=false:=by
    rcases Nat.lt_or_ge l.length 4 with h|h
    ·rw [show ltz ((min l.length 4:Nat):Int) (l.length:Int)=false from ltz_f (by omega)];rfl
    ·rw [show ltz ((min l.length 4:Nat):Int) 4=false from ltz_f (by omega),Bool.and_false]
   simp only [lp3_2]
   simp only [ev_f,ev_out,ev_esc,ev_letv,ev_kin,ev_call,at_z,at_s,kBool,ks_nil,Bool.and_self,bif_t,cons_app,nil_app,evB,evI,evL,evCs,evC,evSC,evAs,evLent,evVE,vI_int,cm_lss,joinL,sizesOk,vL_txs,h1,c12,List.length_map]
end Go.Proofs.YtlnijcffanjieaaGreatDoor
namespace Go.Proofs.YtlnijcffanjieaaGreatDoor
set_option maxRecDepth 100000
open Go Go.Vm
def S0:List TypeId:=[3,5,9,22,24,25,27,28,34,30]
theorem closed0:S0.all (closedT Tryz.prog S0)=true:=by kernel_rfl
theorem rc_agg {g:Gh} {xs:List V} {cs:Array Value} (h:RC g xs cs.toList):RelV g (.agg xs) (.agg cs):=by
 refine .agg (by rw [RC.length h,Array.length_toList]) (fun j x hx=>?_) fun j x v hx hv=>?_
 ·obtain ⟨v,_,hg⟩:=h.get j x hx
  exact hg.1
 ·obtain ⟨v',hv',hg⟩:=h.get j x hx
  rw [Array.getElem?_toList,hv] at hv'
  cases hv'
  exact hg.2.1
theorem rc_tops {g:Gh}:∀ {xs:List V} {cs:List Value},RC g xs cs→tops xs=0
 | [],[],_=>rfl
 | x::xs,v::cs,h=>by simp [tops,h.1.2.2.1,rc_tops h.2]
 | [],_::_,h=>h.elim
 | _::_,[],h=>h.elim
theorem run3 (n:Nat) (xs:List V) (h:Typed Tryz.prog n 30 xs):∃ k,∀ m,k≤m→callA Tryz.prog gl1 m 3 [.agg xs] ⟨[],[]⟩=some (.ret (.bool true),⟨[],[]⟩):=by
 obtain ⟨e,nl,l,rfl,⟨hg,hr⟩,hl,htx⟩:=typed30 h
 exact Sx.Ev.run (xs:=[.agg (ecells e++[txsV nl l])]) (ev3 e hg hr nl l hl htx) ⟨[],[]⟩
end Go.Proofs.YtlnijcffanjieaaGreatDoor
namespace Go.Proofs.YtlnijcffanjieaaGreatDoor.Parts
set_option maxRecDepth 100000
set_option maxRecDepth 100000
open Go Go.Vm Go.ChangeShapes Go.WideShapes Go.ChangeAt Go.RowKit
theorem contract (H:Type) (enc:TypeId×Value→H) (W:World) (base:Nat) (args:Array Value) (ds gs:List (DataW H)) (before:List MemPlace)
  (hval:∀ (j:Nat) t v,Tryz.f3.params[j]?=some t→args[j]?=some v→Value.okWide Tryz.prog W .any base t v)
  (hW:DataW.Whole enc Tryz.prog Tryz.f3.params.toList Rows.matchPartsSpec.vars false W args.toList ds gs before)
  (hwt:(DataW.weightsEach Tryz.prog (Tryz.f3.params.toList++(OpenSpec.ofChange Rows.matchPartsSpec).bare.plain.varTypes Tryz.prog) (ds++gs)).all (·≤reachBytes)=true) (hL:laidMetH Tryz.prog Rows.matchPartsRow.laid W) :
  Calls Tryz.prog 3 args W fun e W'=>∃ v,e=.returned v∧Rows.matchPartsSpec.post enc Tryz.prog Tryz.f3 false true false false W args v W':=by
 have hW':=hW
 obtain ⟨p,q,hA0,hV,rfl,hfz,hnd⟩:=hW
 have hA:DataW.TrodAll enc Tryz.prog W 0 (fun _=>true) true Tryz.f3.params.toList args.toList ds p:=hA0
 rw [Tryz.params3] at hA
 obtain ⟨v0,vs0,d0,ds0,p0,q0,hargs,rfl,rfl,h0,r0⟩:=trodAll_cons hA
 obtain ⟨rfl,rfl,rfl⟩:=trodAll_nil r0
 obtain rfl:args=#[v0]:=by cases args;simp_all
 obtain ⟨n,hn⟩:=h0
 have hw0:∀ w∈d0.weights Tryz.prog 30,w≤reachBytes:=fun w hw=>by
  have:=List.all_eq_true.1 hwt w (by
   rw [Tryz.params3]
   show w∈DataW.weights Tryz.prog 30 d0++_
   exact List.mem_append_left _ hw)
  simpa using this
 obtain ⟨xs,x1,x2,x3⟩:=trod_rel (S:=S0) closed0 n 30 _ _ (by decide) hn hw0
 obtain ⟨cs,rfl,hsz,_⟩:∃ cs,v0=.agg cs∧cs.size=Tryz.prog.cellsOf 30∧Row.okWide Tryz.prog W .any base 30 cs:=by
  have h25:=hval 0 30 v0 (by rw [Tryz.params3];rfl) rfl
  simp only [Value.okWide,Tryz.underlying30] at h25
  exact h25
 have x2':RC (ghOf W) xs cs.toList:=x2
 obtain ⟨k,hk⟩:=run3 n xs x1
 refine (law_calls mixed numOk primOk hk1 (hk k (Nat.le_refl _)) (glOkP hL) ⟨rfl,fun j y v hy hv=>?_,?_,?_⟩).mono fun e W' ⟨he,hb⟩=>⟨_,he,?_⟩
 ·match j,hy,hv with
  | 0,hy,hv=>cases hy;cases hv;exact rc_agg x2'
  | j+1,hy,_=>simp at hy
 ·simp [tops,V.top,rc_tops x2']
 ·intro y hy sz ys e
  simp only [List.mem_singleton] at hy
  subst hy
  simp
 ·exact law_post rfl (show Tryz.f3.resultTypes=#[4] from rfl) Tryz.underlying4 laidOut (by rw [Tryz.params3];intro t ht;simp at ht;subst ht;exact ⟨by kernel_rfl,of_decide_eq_true (by kernel_rfl)⟩) rfl hW' hb
theorem lifted (os:Os) (started:os.Started) (H:Type) (enc:TypeId×Value→H) (F:Stop.Interp) :
  ReturnsInHanded {} Tryz.checked os 3 .any ((OpenSpec.ofChange Rows.matchPartsSpec).preRow enc Tryz.prog Tryz.f3 Rows.matchPartsRow.domain false Rows.matchPartsRow.laid) (((OpenSpec.ofChange Rows.matchPartsSpec).at F).post enc Tryz.prog Tryz.f3 false true false false):=by
 have hx:∃ places,DataW.whole enc Tryz.prog ((World.doorLaid Tryz.prog 320 os).forCall (fun _ _=>0) ⟨#[],#[.agg #[.int .i64 0,.int .i64 0,.int .u64 0,.int .u64 0,.int .u64 0,.int .u64 0,.string ByteArray.empty,.int .i64 0,.int .i64 0,.slice none 0 0,.slice none 0 0]],[]⟩).memory Tryz.f3.params.toList Rows.matchPartsSpec.vars false #[Value.agg #[.int .i64 0,.int .i64 0,.int .u64 0,.int .u64 0,.int .u64 0,.int .u64 0,.string ByteArray.empty,.int .i64 0,.int .i64 0,.slice none 0 0,.slice none 0 0]].toList 8=some ([.agg [.agg [.lit (.int .i64 0),.lit (.int .i64 0),.agg [.lit (.int .u64 0),.lit (.int .u64 0),.lit (.int .u64 0),.lit (.int .u64 0)],.lit (.string []),.lit (.int .i64 0),.lit (.int .i64 0),.nil],.nil]],[],places):=⟨[],by kernel_rfl⟩
 obtain ⟨places,hx⟩:=hx
 refine returnsInHanded_of_row (C:=Tryz.checked) (s:=OpenSpec.ofChange Rows.matchPartsSpec) own started (by kernel_rfl) Tryz.func3
  (witness_row_atRef (enc:=enc) (C:=Tryz.checked) false (World.doorLaid Tryz.prog 320 os) #[.agg #[.int .i64 0,.int .i64 0,.int .u64 0,.int .u64 0,.int .u64 0,.int .u64 0,.string ByteArray.empty,.int .i64 0,.int .i64 0,.slice none 0 0,.slice none 0 0]] rfl (by kernel_rfl) (by kernel_rfl) (by kernel_rfl)
   (OpenSpec.preRow_of_cond 8 hx (by kernel_rfl) (fun k hk=>by cases hk) (by kernel_rfl) (laidDoorP os _))) ?_
 intro W base args ds gs before hval hW _ _ hwt hL _ _
 exact contract H enc W base args ds gs before hval hW hwt hL
theorem said:Rows.MatchPartsSaid :=
 OpenClaim.holds_of_cond 3 Tryz.f3 rfl rfl rfl rfl rfl rfl rfl ⟨rfl,rfl,rfl,rfl,rfl⟩ rfl rfl rfl rfl rfl named Tryz.func3 facts
  (of_decide_eq_true (by kernel_rfl)) (by unfold Func.isWrapper;first|(rw [if_pos (by decide +kernel)];kernel_rfl)|(rw [if_neg (by decide +kernel)];exact ⟨rfl,rfl⟩))
  (fun os started H enc _ F=>by rw [OpenClaim.pre_eq_preRow];exact lifted os started H enc F)
theorem plain (f:FuncId) (fn:Func) (hf:Tryz.pinned.checked.prog.funcNamed "bolter/bolterlaw9.MatchParts"=some f) (hfn:Tryz.pinned.checked.prog.funcs[f]?=some fn) :
  true=Tryz.pinned.checked.prog.looks []∧∀ (j:Nat) t,fn.params[j]?=some t→Tryz.pinned.checked.prog.wantsStandIn t=false:=by
 obtain rfl:f=3:=Option.some.inj ((show Tryz.prog.funcNamed "bolter/bolterlaw9.MatchParts"=some 3 by kernel_rfl).symm.trans hf) |>.symm
 obtain rfl:fn=Tryz.f3:=(Option.some.inj (Tryz.func3.symm.trans hfn)).symm
 refine ⟨by kernel_rfl,fun j t ht=>?_⟩
 rw [Tryz.params3] at ht
 obtain rfl:t=30:=by simpa using Array.mem_of_getElem? ht
 exact (show Tryz.prog.wantsStandIn 30=false by kernel_rfl)
theorem card:Rows.MatchPartsCardSaid :=
 Claim7.holds_tied_plain_at .later [] _ _ _ _ said (fun _ h=>by cases h) (by kernel_rfl) (fun _ h=>by cases h) matchParts_row_tie rfl ⟨rfl,rfl⟩ (by kernel_rfl) rfl plain (by kernel_rfl)
end Go.Proofs.YtlnijcffanjieaaGreatDoor.Parts
