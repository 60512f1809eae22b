/- Seat 7: Ends and Next, known. Conditions: none but those that each theorem names. -/
import Derived.Test.YtlnijcffanjieaaGreatDoorVmD
import Derived.Test.YtlnijcffanjieaaGreatDoorVmL
import Derived.Test.YtlnijcffanjieaaGreatDoorVmM
import Derived.Test.YtlnijcffanjieaaGreatDoorVmP
namespace Go.Proofs.YtlnijcffanjieaaGreatDoor
set_option maxRecDepth 10000
open Go Go.Vm Go.Vm.Sx
open Classical in
noncomputable def hkX {α:Type} (en:α->List V) (Q:α->Prop) (F:α->V) (args:List V):Option V :=
 if h:∃ a,Q a/\args=en a then some (F (Classical.choose h)) else none
theorem zaD {α:Type} {en:α->List V} {Q:α->Prop} {F:α->V} (hi:∀ a b,Q a->Q b->en a=en b->F a=F b) {a:α} (h:Q a):hkX en Q F (en a)=some (F a):=by
 unfold hkX;have hex:∃ b,Q b/\en a=en b:=⟨a,h,rfl⟩;rw [dif_pos hex];have hs:=zBg hex;rw [hi _ _ hs.1 h hs.2.symm]
theorem kL {α:Type} {en:α->List V} {Q:α->Prop} {F:α->V} {args:List V} {v:V} (h:hkX en Q F args=some v):∃ a,Q a/\args=en a/\v=F a:=by
 unfold hkX at h;split at h
 ·rename_i hex;have hs:=zBg hex;exact ⟨_,hs.1,hs.2,(zA7 h).symm⟩
 ·cases h
def GdE (e:E):Prop:=Wf e/\Can e
def zi3 (e:E):List V:=[enc e]
def zow (p:St4×Nat):List V:=[stV p.1,.int .u8 (p.2:Nat)]
def zkk (p:St4×St4):List V:=[stV p.1,stV p.2]
def Q17 (p:St4×Nat):Prop:=RgS p.1/\p.2<256
def zpT (p:St4×St4):Prop:=RgS p.1/\RgS p.2
theorem zgF {s t:St4} (h:stV s=stV t):s=t:=by
 obtain ⟨a,b,c,d⟩:=s;obtain ⟨a',b',c',d'⟩:=t;simp only [stV,V.agg.injEq,zAu,V.int.injEq,zAc,zBO] at h;obtain ⟨rfl,rfl,rfl,rfl⟩:=h;rfl
theorem i11:∀ a b,GdE a->GdE b->zi3 a=zi3 b->V.bool (vd a)=V.bool (vd b):=fun a b ha hb h=>by
 rw [enc_inj a b ha.2 hb.2 (List.cons.inj h).1]
theorem i17:∀ a b,Q17 a->Q17 b->zow a=zow b->V.bool (zcy a.1 a.2)=V.bool (zcy b.1 b.2):=fun a b _ _ h=>by
 simp only [zow,zAu,V.int.injEq,zAc,zBO] at h;have h1:=zgF h.1;have h2:a.2=b.2:=by omega
 rw [h1,h2]
theorem i226:∀ a b,zpT a->zpT b->zkk a=zkk b->stV (zbr a.1 a.2)=stV (zbr b.1 b.2):=fun a b _ _ h=>by
 simp only [zkk,zAu,zBO] at h;rw [zgF h.1,zgF h.2]
noncomputable def glb:Gl:={ g:=glw,uq:=uqw,hk:=fun f args=>if Nat.beq f 11 then hkX zi3 GdE (fun e=>.bool (vd e)) args else if Nat.beq f 17 then hkX zow Q17 (fun p=>.bool (zcy p.1 p.2)) args else if Nat.beq f 226 then hkX zkk zpT (fun p=>stV (zbr p.1 p.2)) args else none }
def gl0:Gl:={ g:=glw,hk:=fun _ _=>none }
instance : NoU gl0:=⟨fun _=>rfl,fun _ _ _ _=>rfl⟩
theorem top_glw:∀ g off v,glw g off=some v->v.top=0:=by
 intro g off v h';unfold glw zlZ at h';split at h'<;>simp only [zAA,reduceCtorEq] at h';subst h';rfl
theorem GL0:GL gl0:=⟨top_glw,fun _ _ _=>rfl⟩
theorem hk0:HkOk Tryz.prog gl0:=⟨fun f args v h=>(by cases h),fun n f args H out H' h=>(by cases h),fun _ _ _ _ h=>(by cases h)⟩
theorem zkl (s:St4):(stV s).top=0:=rfl
theorem hkb:HkOk Tryz.prog glb:=by
 refine ⟨fun f args v h d H g w cargs lc h1 h2 h3=>?_,fun n f args H out H' h=>(by cases h),itOk⟩
 simp only [glb] at h;split at h
 ·rename_i hf;obtain rfl:f=11:=zAO hf;obtain ⟨e,hg,rfl,rfl⟩:=kL h;obtain ⟨k,hk⟩:=Sx.Ev.run (xs:=[enc e]) (zqN GL0 e hg.1) ⟨[],[]⟩;exact wi mixed numOk primOk hk0 (hk k (zAR _)) (by simp [tops,top_enc]) rfl h1 h2 h3
 ·split at h
  ·rename_i hf;obtain rfl:f=17:=zAO hf;obtain ⟨⟨s,b⟩,hg,rfl,rfl⟩:=kL h;obtain ⟨k,hk⟩:=Sx.Ev.run (xs:=[stV s,.int .u8 (b:Nat)]) (zrb GL0 s hg.1 b hg.2) ⟨[],[]⟩;exact wi mixed numOk primOk hk0 (hk k (zAR _)) (by simp [tops,zkl,V.top]) rfl h1 h2 h3
  ·split at h
   ·rename_i hf;obtain rfl:f=226:=zAO hf;obtain ⟨⟨s,t⟩,hg,rfl,rfl⟩:=kL h;obtain ⟨k,hk⟩:=Sx.Ev.run (xs:=[stV s,stV t]) (zqq GL0 s t hg.1 hg.2) ⟨[],[]⟩;exact wi mixed numOk primOk hk0 (hk k (zAR _)) (by simp [tops,zkl]) rfl h1 h2 h3
   ·cases h
theorem GWb:GWC glb where
 uq:=rfl
 hk2:=fun _ _ _ _=>rfl
 has:=fun s b hs hb=>zaD (a:=(s,b)) i17 ⟨hs,hb⟩
 uni:=fun s t hs ht=>zaD (a:=(s,t)) i226 ⟨hs,ht⟩
 chk:=fun e hw hc=>zaD (a:=e) i11 ⟨hw,hc⟩
 g0:=by rfl
 hk:=fun f args h=>by
  have:∀ k,k=11\/k=17\/k=226->Nat.beq f k=false:=fun k hk=>by
   cases hb:Nat.beq f k with
   | false=>rfl
   | true =>
    have:=zAO hb;subst this;rcases hk with rfl|rfl|rfl<;>revert h<;>decide
  simp only [glb,this 11 (.inl rfl),this 17 (.inr (.inl rfl)),this 226 (.inr (.inr rfl)),zAD,if_false]
 hkN:=fun f args h=>by
  have:∀ k,k=11\/k=17\/k=226->Nat.beq f k=false:=fun k hk=>by
   cases hb:Nat.beq f k with
   | false=>rfl
   | true =>
    have:=zAO hb;subst this;rcases hk with rfl|rfl|rfl<;>revert h<;>decide
  simp only [glb,this 11 (.inl rfl),this 17 (.inr (.inl rfl)),this 226 (.inr (.inr rfl)),zAD,if_false]
def Q14 (p:E×Bool×List Nat):Prop:=GdE p.1/\Rg p.1/\∀ b∈p.2.2,b<256
def zpU (p:E×Bool×List Nat):List V:=[enc p.1,qD p.2.1 p.2.2]
theorem zox {nl nl':Bool} {t t':List Nat} (h:qD nl t=qD nl' t'):t=t':=by
 have:=congrArg vL h;rw [zcA,zcA] at this;clear h
 induction t generalizing t' with
 | nil=>cases t' with
  | nil=>rfl
  | cons a t'=>simp at this
 | cons a t ih=>cases t' with
  | nil=>simp at this
  | cons b t' =>
   simp only [zAX,zAu,V.int.injEq,zAc] at this;rw [ih this.2,show a=b by omega]
theorem zh2 (e:E) (t:List Nat):(zeP e t).top=0:=by
 unfold zeP;split
 ·simp [V.top,tops,zkj,zot]
 ·rfl
theorem znh (e:E) (t:List Nat):(zgE e t).top=0:=by
 unfold zgE;split<;>rfl
noncomputable def gl1:Gl:={ g:=glw,hk:=fun f args=>if Nat.beq f 12 then (match args with|[]=>some (.bool true)|_=>none) else if Nat.beq f 14 then hkX zpU Q14 (fun p=>zeP p.1 p.2.2) args else if Nat.beq f 16 then hkX zpU Q14 (fun p=>zgE p.1 p.2.2) args else none }
theorem ok1:zaP Tryz.prog glw hooks1:=zbg mixed numOk primOk zkS (zlu 0) rfl rfl itOk
theorem ok2:zaP Tryz.prog glw (hooks2++hooks1):=zbg mixed numOk primOk ok1 (zng 0) rfl rfl itOk
theorem ok3:zaP Tryz.prog glw ((12,[],.bool true)::(hooks2++hooks1)):=zbg mixed numOk primOk ok2 (zlv 0) rfl rfl itOk
theorem hk1:HkOk Tryz.prog gl1:=by
 refine ⟨fun f args v h d H g w cargs lc h1 h2 h3=>?_,fun n f args H out H' h=>(by cases h),fun _ _ _ _ h=>(by cases h)⟩
 simp only [gl1] at h;split at h
 ·rename_i hf;obtain rfl:f=12:=zAO hf;split at h
  ·cases h;exact ok3.pure 12 [] (.bool true) rfl d H g w cargs lc h1 h2 h3
  ·cases h
 ·split at h
  ·rename_i hf;obtain rfl:f=14:=zAO hf;obtain ⟨⟨e,nl,t⟩,hq,rfl,rfl⟩:=kL h;obtain ⟨H',hc⟩:=e14 GWb (nl:=nl) hq.1.1 hq.1.2 hq.2.1 hq.2.2 (zAR _);exact wi mixed numOk primOk hkb hc (by simp [tops,top_enc,za0]) (zh2 e t) h1 h2 h3
  ·split at h
   ·rename_i hf;obtain rfl:f=16:=zAO hf;obtain ⟨⟨e,nl,t⟩,hq,rfl,rfl⟩:=kL h;obtain ⟨H',hc⟩:=e16 GWb (nl:=nl) hq.1.1 hq.1.2 hq.2.1 hq.2.2 (zAR _);exact wi mixed numOk primOk hkb hc (by simp [tops,top_enc,za0]) (znh e t) h1 h2 h3
   ·cases h
instance : NoU gl1:=⟨fun _=>rfl,fun _ _ _ _=>rfl⟩
end Go.Proofs.YtlnijcffanjieaaGreatDoor
