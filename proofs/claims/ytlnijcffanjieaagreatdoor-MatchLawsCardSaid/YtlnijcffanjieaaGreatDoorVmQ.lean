/- Seat 7: Ends and Next, known; Seat 7: MatchParts' law, plain: what ends shows of a beginning; where nothing goes on no end comes behind; Seat 7: an argument that reads as expressions with texts is one; and what follows from it. Conditions: none but those that each theorem names. -/
import Derived.Test.YtlnijcffanjieaaGreatDoorVmD
import Derived.Test.YtlnijcffanjieaaGreatDoorVmK
import Derived.Test.YtlnijcffanjieaaGreatDoorVmL
import Derived.Test.YtlnijcffanjieaaGreatDoorVmM
import Derived.Test.YtlnijcffanjieaaGreatDoorVmP
namespace Go.Proofs.YtlnijcffanjieaaGreatDoor
set_option maxRecDepth 10000
open Go Go.Vm Go.Vm.Sx
open Classical in
noncomputable def hkX {α:Type} (en:α→List V) (Q:α→Prop) (F:α→V) (args:List V):Option V :=
 if h:∃ a,Q a∧args=en a then some (F (Classical.choose h)) else none
theorem zep {α:Type} {en:α→List V} {Q:α→Prop} {F:α→V} (hi:∀ a b,Q a→Q b→en a=en b→F a=F b) {a:α} (h:Q a):hkX en Q F (en a)=some (F a):=by
 unfold hkX
 have hex:∃ b,Q b∧en a=en b:=⟨a,h,rfl⟩
 rw [dif_pos hex]
 have hs:=Classical.choose_spec hex
 rw [hi _ _ hs.1 h hs.2.symm]
theorem zar {α:Type} {en:α→List V} {Q:α→Prop} {F:α→V} {args:List V} {v:V} (h:hkX en Q F args=some v):∃ a,Q a∧args=en a∧v=F a:=by
 unfold hkX at h
 split at h
 ·rename_i hex
  have hs:=Classical.choose_spec hex
  exact ⟨_,hs.1,hs.2,(Option.some.inj h).symm⟩
 ·cases h
def GdE (e:E):Prop:=Wf e∧Can e
def zoU (e:E):List V:=[enc e]
def znG (p:St4×Nat):List V:=[stV p.1,.int .u8 (p.2:Nat)]
def zjG (p:St4×St4):List V:=[stV p.1,stV p.2]
def Q17 (p:St4×Nat):Prop:=RgS p.1∧p.2<256
def zoV (p:St4×St4):Prop:=RgS p.1∧RgS p.2
theorem zgn {s t:St4} (h:stV s=stV t):s=t:=by
 obtain ⟨a,b,c,d⟩:=s
 obtain ⟨a',b',c',d'⟩:=t
 simp only [stV,V.agg.injEq,List.cons.injEq,V.int.injEq,true_and,and_true] at h
 obtain ⟨rfl,rfl,rfl,rfl⟩:=h
 rfl
theorem i11:∀ a b,GdE a→GdE b→zoU a=zoU b→V.bool (zaQ a)=V.bool (zaQ b):=fun a b ha hb h=>by
 rw [enc_inj a b ha.2 hb.2 (List.cons.inj h).1]
theorem i17:∀ a b,Q17 a→Q17 b→znG a=znG b→V.bool (wg a.1 a.2)=V.bool (wg b.1 b.2):=fun a b _ _ h=>by
 simp only [znG,List.cons.injEq,V.int.injEq,true_and,and_true] at h
 have h1:=zgn h.1
 have h2:a.2=b.2:=by omega
 rw [h1,h2]
theorem i226:∀ a b,zoV a→zoV b→zjG a=zjG b→stV (xQ a.1 a.2)=stV (xQ b.1 b.2):=fun a b _ _ h=>by
 simp only [zjG,List.cons.injEq,and_true] at h
 rw [zgn h.1,zgn h.2]
noncomputable def glb:Gl:={ g:=glw,uq:=uqw,hk:=fun f args=>if Nat.beq f 11 then hkX zoU GdE (fun e=>.bool (zaQ e)) args else if Nat.beq f 17 then hkX znG Q17 (fun p=>.bool (wg p.1 p.2)) args else if Nat.beq f 226 then hkX zjG zoV (fun p=>stV (xQ p.1 p.2)) args else none }
def gl0:Gl:={ g:=glw,hk:=fun _ _=>none }
instance : NoU gl0:=⟨fun _=>rfl,fun _ _ _ _=>rfl⟩
theorem top_glw:∀ g off v,glw g off=some v→v.top=0:=by
 intro g off v h'
 unfold glw zla at h'
 split at h'<;>simp only [Option.some.injEq,reduceCtorEq] at h'
 subst h';rfl
theorem GL0:GL gl0:=⟨top_glw,fun _ _ _=>rfl⟩
theorem hk0:HkOk Tryz.prog gl0:=⟨fun f args v h=>(by cases h),fun n f args H out H' h=>(by cases h),fun _ _ _ _ h=>(by cases h)⟩
theorem zjH (s:St4):(stV s).top=0:=rfl
theorem hkb:HkOk Tryz.prog glb:=by
 refine ⟨fun f args v h d H g w cargs lc h1 h2 h3=>?_,fun n f args H out H' h=>(by cases h),itOk⟩
 simp only [glb] at h
 split at h
 ·rename_i hf
  obtain rfl:f=11:=Nat.eq_of_beq_eq_true hf
  obtain ⟨e,hg,rfl,rfl⟩:=zar h
  obtain ⟨k,hk⟩:=Sx.Ev.run (xs:=[enc e]) (zpO GL0 e hg.1) ⟨[],[]⟩
  exact zaC mixed numOk primOk hk0 (hk k (Nat.le_refl _)) (by simp [tops,top_enc]) rfl h1 h2 h3
 ·split at h
  ·rename_i hf
   obtain rfl:f=17:=Nat.eq_of_beq_eq_true hf
   obtain ⟨⟨s,b⟩,hg,rfl,rfl⟩:=zar h
   obtain ⟨k,hk⟩:=Sx.Ev.run (xs:=[stV s,.int .u8 (b:Nat)]) (zqc GL0 s hg.1 b hg.2) ⟨[],[]⟩
   exact zaC mixed numOk primOk hk0 (hk k (Nat.le_refl _)) (by simp [tops,zjH,V.top]) rfl h1 h2 h3
  ·split at h
   ·rename_i hf
    obtain rfl:f=226:=Nat.eq_of_beq_eq_true hf
    obtain ⟨⟨s,t⟩,hg,rfl,rfl⟩:=zar h
    obtain ⟨k,hk⟩:=Sx.Ev.run (xs:=[stV s,stV t]) (zpr GL0 s t hg.1 hg.2) ⟨[],[]⟩
    exact zaC mixed numOk primOk hk0 (hk k (Nat.le_refl _)) (by simp [tops,zjH]) rfl h1 h2 h3
   ·cases h
theorem GWb:GWC glb where
 uq:=rfl
 hk2:=fun _ _ _ _=>rfl
 has:=fun s b hs hb=>zep (a:=(s,b)) i17 ⟨hs,hb⟩
 uni:=fun s t hs ht=>zep (a:=(s,t)) i226 ⟨hs,ht⟩
 chk:=fun e hw hc=>zep (a:=e) i11 ⟨hw,hc⟩
 g0:=by rfl
 hk:=fun f args h=>by
  have:∀ k,k=11∨k=17∨k=226→Nat.beq f k=false:=fun k hk=>by
   cases hb:Nat.beq f k with
   | false=>rfl
   | true =>
    have:=Nat.eq_of_beq_eq_true hb
    subst this
    rcases hk with rfl|rfl|rfl<;>revert h<;>decide
  simp only [glb,this 11 (.inl rfl),this 17 (.inr (.inl rfl)),this 226 (.inr (.inr rfl)),Bool.false_eq_true,if_false]
 hkN:=fun f args h=>by
  have:∀ k,k=11∨k=17∨k=226→Nat.beq f k=false:=fun k hk=>by
   cases hb:Nat.beq f k with
   | false=>rfl
   | true =>
    have:=Nat.eq_of_beq_eq_true hb
    subst this
    rcases hk with rfl|rfl|rfl<;>revert h<;>decide
  simp only [glb,this 11 (.inl rfl),this 17 (.inr (.inl rfl)),this 226 (.inr (.inr rfl)),Bool.false_eq_true,if_false]
def Q14 (p:E×Bool×List Nat):Prop:=GdE p.1∧Rg p.1∧∀ b∈p.2.2,b<256
def ziy (p:E×Bool×List Nat):List V:=[enc p.1,jk p.2.1 p.2.2]
theorem znH {nl nl':Bool} {t t':List Nat} (h:jk nl t=jk nl' t'):t=t':=by
 have:=congrArg vL h
 rw [zaq,zaq] at this
 clear h
 induction t generalizing t' with
 | nil=>cases t' with
  | nil=>rfl
  | cons a t'=>simp at this
 | cons a t ih=>cases t' with
  | nil=>simp at this
  | cons b t' =>
   simp only [List.map_cons,List.cons.injEq,V.int.injEq,true_and] at this
   rw [ih this.2,show a=b by omega]
theorem i14 {F:E→List Nat→V}:∀ a b,Q14 a→Q14 b→ziy a=ziy b→F a.1 a.2.2=F b.1 b.2.2:=fun a b ha hb h=>by
 simp only [ziy,List.cons.injEq,and_true] at h
 rw [enc_inj _ _ ha.1.2 hb.1.2 h.1,znH h.2]
theorem zhP (e:E) (t:List Nat):(zcA e t).top=0:=by
 unfold zcA
 split
 ·simp [V.top,tops,zjF,zjE]
 ·rfl
theorem zhQ (e:E) (t:List Nat):(zcB e t).top=0:=by
 unfold zcB
 split<;>rfl
noncomputable def gl1:Gl:={ g:=glw,hk:=fun f args=>if Nat.beq f 12 then (match args with|[]=>some (.bool true)|_=>none) else if Nat.beq f 14 then hkX ziy Q14 (fun p=>zcA p.1 p.2.2) args else if Nat.beq f 16 then hkX ziy Q14 (fun p=>zcB p.1 p.2.2) args else none }
theorem ok1:zaD Tryz.prog glw hooks1:=za4 mixed numOk primOk zj7 (zkG 0) rfl rfl itOk
theorem ok2:zaD Tryz.prog glw (hooks2++hooks1):=za4 mixed numOk primOk ok1 (zmy 0) rfl rfl itOk
theorem ok3:zaD Tryz.prog glw ((12,[],.bool true)::(hooks2++hooks1)):=za4 mixed numOk primOk ok2 (zkH 0) rfl rfl itOk
theorem hk1:HkOk Tryz.prog gl1:=by
 refine ⟨fun f args v h d H g w cargs lc h1 h2 h3=>?_,fun n f args H out H' h=>(by cases h),fun _ _ _ _ h=>(by cases h)⟩
 simp only [gl1] at h
 split at h
 ·rename_i hf
  obtain rfl:f=12:=Nat.eq_of_beq_eq_true hf
  split at h
  ·cases h
   exact ok3.pure 12 [] (.bool true) rfl d H g w cargs lc h1 h2 h3
  ·cases h
 ·split at h
  ·rename_i hf
   obtain rfl:f=14:=Nat.eq_of_beq_eq_true hf
   obtain ⟨⟨e,nl,t⟩,hq,rfl,rfl⟩:=zar h
   obtain ⟨H',hc⟩:=e14 GWb (nl:=nl) hq.1.1 hq.1.2 hq.2.1 hq.2.2 (Nat.le_refl _)
   exact zaC mixed numOk primOk hkb hc (by simp [tops,top_enc,zdm]) (zhP e t) h1 h2 h3
  ·split at h
   ·rename_i hf
    obtain rfl:f=16:=Nat.eq_of_beq_eq_true hf
    obtain ⟨⟨e,nl,t⟩,hq,rfl,rfl⟩:=zar h
    obtain ⟨H',hc⟩:=e16 GWb (nl:=nl) hq.1.1 hq.1.2 hq.2.1 hq.2.2 (Nat.le_refl _)
    exact zaC mixed numOk primOk hkb hc (by simp [tops,top_enc,zdm]) (zhQ e t) h1 h2 h3
   ·cases h
instance : NoU gl1:=⟨fun _=>rfl,fun _ _ _ _=>rfl⟩
theorem GL1:GL gl1 where
 top:=top_glw
 no:=fun f hf args=>by
  simp only [List.any_cons,List.any_nil,Bool.or_false,Bool.or_eq_false_iff] at hf
  simp only [gl1,hf.1,hf.2.1,hf.2.2.1,Bool.false_eq_true,if_false]
theorem ev12:Ev Tryz.prog gl1 12 [] [] (.bool true) []:=Sx.Ev.hook (xs:=[]) rfl rfl
theorem zpQ {e:E} {nl:Bool} {t:List Nat} (h:GdE e) (hr:Rg e) (ht:∀ b∈t,b<256):Ev Tryz.prog gl1 14 [.d (enc e),.d (jk nl t)] [] (zcA e t) [] :=
 Sx.Ev.hook (xs:=[enc e,jk nl t]) (show gl1.hk 14 _=_ from zep (en:=ziy) (F:=fun p=>zcA p.1 p.2.2) (a:=(e,nl,t)) i14 ⟨h,hr,ht⟩) (zhP e t)
theorem zpR {e:E} {nl:Bool} {t:List Nat} (h:GdE e) (hr:Rg e) (ht:∀ b∈t,b<256):Ev Tryz.prog gl1 16 [.d (enc e),.d (jk nl t)] [] (zcB e t) [] :=
 Sx.Ev.hook (xs:=[enc e,jk nl t]) (show gl1.hk 16 _=_ from zep (en:=ziy) (F:=fun p=>zcB p.1 p.2.2) (a:=(e,nl,t)) i14 ⟨h,hr,ht⟩) (zhQ e t)
end Go.Proofs.YtlnijcffanjieaaGreatDoor
namespace Go.Proofs.YtlnijcffanjieaaGreatDoor
open Go Go.Vm
theorem goEnds_gt:∀ (t:List Nat) (w:Wd) (i x:Nat),x∈goEnds w i t→i<x
 | [],_,_,_,h=>by simp [goEnds] at h
 | b::t,w,i,x,h=>by
  simp only [goEnds,List.mem_append] at h
  rcases h with h|h
  ·split at h
   ·simp at h;omega
   ·cases h
  ·have:=goEnds_gt t _ _ _ h
   omega
theorem goEnds_mem:∀ (t:List Nat) (w:Wd) (i k:Nat),(i+k+1)∈goEnds w i t ↔ ∃ b,t[k]?=some b∧(stW (runE w i (t.take k)) (i+k == 0) b).2=true
 | [],_,_,_=>by simp [goEnds]
 | b::t,w,i,0=>by
  simp only [goEnds,List.mem_append,List.take_zero,runE,Nat.add_zero,List.getElem?_cons_zero,Option.some.injEq,exists_eq_left']
  constructor
  ·rintro (h|h)
   ·split at h
    ·assumption
    ·cases h
   ·have:=goEnds_gt t _ _ _ h
    omega
  ·intro h
   rw [if_pos h]
   exact .inl (by simp)
 | b::t,w,i,k+1=>by
  have ih:=goEnds_mem t (stW w (i == 0) b).1 (i+1) k
  have e1:i+1+k+1=i+(k+1)+1:=by omega
  have e2:i+1+k=i+(k+1):=by omega
  rw [e1,e2] at ih
  simp only [goEnds,List.mem_append,List.take_succ_cons,runE,List.getElem?_cons_succ]
  rw [← ih]
  constructor
  ·rintro (h|h)
   ·split at h
    ·simp at h
    ·cases h
   ·exact h
  ·exact .inr
theorem goEnds_len:∀ (t:List Nat) (w:Wd) (i:Nat),(goEnds w i t).length≤t.length
 | [],_,_=>by simp [goEnds]
 | b::t,w,i=>by
  have:=goEnds_len t (stW w (i == 0) b).1 (i+1)
  simp only [goEnds,List.length_append,List.length_cons]
  split<;>simp<;>omega
theorem zmz (w:Wd) (t:List Nat):(we w t).length≤t.length+1:=by
 have:=goEnds_len t w 0
 simp only [we,List.length_append]
 split<;>simp<;>omega
theorem zmA (e:E) (t:List Nat):(xm e t).length≤t.length+1:=by
 unfold xm
 split
 ·exact zmz ..
 ·simp
theorem zcC (w:Wd) (t:List Nat):0∈we w t ↔ emW w=true:=by
 simp only [we,List.mem_append]
 constructor
 ·rintro (h|h)
  ·split at h
   ·assumption
   ·cases h
  ·have:=goEnds_gt _ _ _ _ h;omega
 ·intro h;rw [if_pos h];exact .inl (by simp)
theorem zcD (w:Wd) (t:List Nat) (k:Nat):(k+1)∈we w t ↔ ∃ b,t[k]?=some b∧(stW (runE w 0 (t.take k)) (k == 0) b).2=true:=by
 have:=goEnds_mem t w 0 k
 rw [Nat.zero_add] at this
 rw [← this]
 simp only [we,List.mem_append]
 constructor
 ·rintro (h|h)
  ·split at h
   ·simp at h
   ·cases h
  ·exact h
 ·exact .inr
mutual
def Dead:Wd→Prop
 | .non=>True
 | .one _ m=>m=false
 | .both a b _ la=>Dead a∧Dead b∧la=false
 | .alt l _ la=>Deads l∧la=false
 | .rep w _ _=>Dead w
def Deads:List Wd→Prop
 | []=>True
 | w::l=>Dead w∧Deads l
end
theorem runE_app:∀ (a b:List Nat) (w:Wd) (i:Nat),runE w i (a++b)=runE (runE w i a) (i+a.length) b
 | [],b,w,i=>rfl
 | x::a,b,w,i=>by
  simp only [List.cons_append,runE,List.length_cons]
  rw [runE_app a b,show i+1+a.length=i+(a.length+1) by omega]
end Go.Proofs.YtlnijcffanjieaaGreatDoor
namespace Go.Proofs.YtlnijcffanjieaaGreatDoor
set_option maxRecDepth 10000
open Go Go.Vm
theorem c27:Tryz.prog.cellsOf 27=10:=by kernel_rfl
theorem c24:Tryz.prog.cellsOf 24=4:=by kernel_rfl
theorem c22:Tryz.prog.cellsOf 22=1:=by kernel_rfl
theorem c25:Tryz.prog.cellsOf 25=1:=by kernel_rfl
theorem c28:Tryz.prog.cellsOf 28=1:=by kernel_rfl
theorem c34:Tryz.prog.cellsOf 34=1:=by kernel_rfl
theorem c47:Tryz.prog.cellsOf 47=31:=by kernel_rfl
theorem c9:Tryz.prog.cellsOf 9=1:=by kernel_rfl
theorem c3':Tryz.prog.cellsOf 3=1:=by kernel_rfl
theorem c5':Tryz.prog.cellsOf 5=1:=by kernel_rfl
theorem zqC (cs:List V):xr Tryz.prog 27 cs=.agg cs:=by
 have:za3 Tryz.prog 27=true:=by kernel_rfl
 simp only [xr,this,if_true]
theorem zqD (x:V):xr Tryz.prog 34 [x]=x:=by
 have:za3 Tryz.prog 34=false:=by kernel_rfl
 simp only [xr,this,Bool.false_eq_true,if_false];rfl
theorem mk5 (x:V):xr Tryz.prog 5 [x]=x:=by
 have:za3 Tryz.prog 5=false:=by kernel_rfl
 simp only [xr,this,Bool.false_eq_true,if_false];rfl
theorem zgo {n:Nat} {xs:List V} (h:jg Tryz.prog n 3 xs):∃ z,xs=[.int .i64 z]:=by
 cases n with
 | zero=>exact h.elim
 | succ n =>
  simp only [jg,Tryz.underlying3] at h
  obtain ⟨z,h,_⟩:=h;exact ⟨z,h⟩
theorem zoW {n:Nat} {xs:List V} (h:jg Tryz.prog n 5 xs):∃ z:Nat,xs=[.int .u8 z]∧z<256:=by
 cases n with
 | zero=>exact h.elim
 | succ n =>
  simp only [jg,Tryz.underlying5] at h
  obtain ⟨z,h,hw⟩:=h
  have h1:0≤z∧z<256:=by
   simp [Lit.wf,IntKind.min,IntKind.max,IntKind.signed,IntKind.bits] at hw
   omega
  exact ⟨z.toNat,by rw [h,Int.toNat_of_nonneg h1.1],by omega⟩
theorem zdn {n:Nat} {xs:List V} (h:jg Tryz.prog n 22 xs):∃ z,xs=[.int .u64 z]∧r64 z:=by
 cases n with
 | zero=>exact h.elim
 | succ n =>
  simp only [jg,Tryz.underlying22] at h
  obtain ⟨z,h,hw⟩:=h
  refine ⟨z,h,?_⟩
  simp [Lit.wf,IntKind.min,IntKind.max,IntKind.signed,IntKind.bits] at hw
  unfold r64
  omega
theorem zoX {n:Nat} {xs:List V} (h:jg Tryz.prog n 9 xs):∃ s,xs=[.str s]∧(∀ b∈s,b<256)∧s.length≤maxLen:=by
 cases n with
 | zero=>exact h.elim
 | succ n =>
  simp only [jg,Tryz.underlying9] at h
  exact h
theorem znI {n:Nat} {xs:List V} (h:jg Tryz.prog n 24 xs):∃ a b c d,xs=[.int .u64 a,.int .u64 b,.int .u64 c,.int .u64 d]∧RgS (a,b,c,d):=by
 cases n with
 | zero=>exact h.elim
 | succ n =>
  simp only [jg,Tryz.underlying24,c24,c22] at h
  obtain ⟨hl,h⟩:=h
  match xs,hl with
  | [x,y,z,w],_ =>
   obtain ⟨a,ha,ra⟩:=zdn (h 0 (by omega))
   obtain ⟨b,hb,rb⟩:=zdn (h 1 (by omega))
   obtain ⟨c,hc,rc⟩:=zdn (h 2 (by omega))
   obtain ⟨d,hd,rd⟩:=zdn (h 3 (by omega))
   simp at ha hb hc hd
   exact ⟨a,b,c,d,by rw [ha,hb,hc,hd],ra,rb,rc,rd⟩
theorem encs_ex:∀ (ys:List V),(∀ y∈ys,∃ e,enc e=y∧GdE e∧Rg e)→∃ l,encs l=ys∧Wfs l∧Cans l∧Rgs l
 | [],_=>⟨[],rfl,trivial,trivial,trivial⟩
 | y::ys,h=>by
  obtain ⟨e,h1,h2,h5⟩:=h y List.mem_cons_self
  obtain ⟨l,h3,h4,h6,h7⟩:=encs_ex ys fun z hz=>h z (List.mem_cons_of_mem _ hz)
  exact ⟨e::l,by simp [encs,h1,h3],⟨h2.1,h4⟩,⟨h2.2,h6⟩,h5,h7⟩
theorem zgp {α:Type} {h:α→V} {Q:α→Prop}:∀ (ys:List V),(∀ y∈ys,∃ a,h a=y∧Q a)→∃ l:List α,l.map h=ys∧∀ a∈l,Q a
 | [],_=>⟨[],rfl,fun _ h=>by simp at h⟩
 | y::ys,hy=>by
  obtain ⟨a,h1,h2⟩:=hy y (List.mem_cons_self ..)
  obtain ⟨l,h3,h4⟩:=zgp ys fun z hz=>hy z (List.mem_cons_of_mem _ hz)
  refine ⟨a::l,by simp [h1,h3],fun b hb=>?_⟩
  rcases List.mem_cons.1 hb with rfl|hb
  ·exact h2
  ·exact h4 b hb
mutual
theorem typedE:∀ (n:Nat) (xs:List V),jg Tryz.prog n 27 xs→∃ e,enc e=.agg xs∧GdE e∧Rg e
 | 0,_,h=>h.elim
 | n+1,xs,h=>by
  simp only [jg,Tryz.underlying27,c27] at h
  obtain ⟨hl,h⟩:=h
  have f0:=h ⟨ "Op",3,0,false,"","",0⟩ (by simp)
  have f1:=h ⟨ "At",3,1,false,"","",8⟩ (by simp)
  have f2:=h ⟨ "Set",24,2,false,"","",16⟩ (by simp)
  have f3:=h ⟨ "Text",9,6,false,"","",48⟩ (by simp)
  have f4:=h ⟨ "Min",3,7,false,"","",64⟩ (by simp)
  have f5:=h ⟨ "Max",3,8,false,"","",72⟩ (by simp)
  have f6:=h ⟨ "Args",25,9,false,"","",80⟩ (by simp)
  clear h
  simp only [c3',c24,c9,c25] at f0 f1 f2 f3 f4 f5 f6
  match xs,hl with
  | [x0,x1,x2,x3,x4,x5,x6,x7,x8,x9],_ =>
   simp only [List.drop_succ_cons,List.drop_zero,List.take_succ_cons,List.take_zero] at f0 f1 f2 f3 f4 f5 f6
   obtain ⟨op,h0⟩:=zgo f0
   obtain ⟨pl,h1⟩:=zgo f1
   obtain ⟨a,b,c,d,h2,hr⟩:=znI f2
   obtain ⟨s,h3,_,hs⟩:=zoX f3
   obtain ⟨mn,h4⟩:=zgo f4
   obtain ⟨mx,h5⟩:=zgo f5
   obtain ⟨nl,l,h6,h7,h8,h9,h10,h11⟩:=typedL n x9 f6
   simp only [List.cons.injEq,and_true] at h0 h1 h2 h3 h4 h5
   obtain ⟨rfl,rfl,rfl,rfl⟩:=h2
   subst h0 h1 h3 h4 h5 h6
   exact ⟨.mk op pl a b c d s mn mx nl l,rfl,⟨⟨hs,h7,h8⟩,h11,h9⟩,hr,h10⟩
theorem typedL:∀ (n:Nat) (v:V),jg Tryz.prog n 25 [v]→∃ nl l,v=qW nl (encs l)∧l.length≤maxLen∧Wfs l∧Cans l∧Rgs l∧(nl=true→l=[])
 | 0,_,h=>h.elim
 | n+1,v,h=>by
  simp only [jg,Tryz.underlying25,c27] at h
  rcases h with h|⟨ys,h,⟨hl,_⟩,hy⟩
  ·simp only [List.cons.injEq,and_true] at h
   exact ⟨true,[],by rw [h];rfl,by simp,trivial,trivial,trivial,fun _=>rfl⟩
  ·simp only [List.cons.injEq,and_true] at h
   obtain ⟨l,h1,h2,h3,h4⟩:=encs_ex ys fun y hyy=>by
    obtain ⟨cs,g1,g2⟩:=hy y hyy
    rw [zqC] at g2
    rw [g2]
    exact typedE n cs g1
   subst h1
   rw [encs_length] at hl
   exact ⟨false,l,by rw [h];rfl,hl,h2,h3,h4,fun h=>by cases h⟩
end
abbrev Tx:=Bool×List Nat
def txV (p:Tx):V:=jk p.1 p.2
def zeG (nl:Bool) (l:List Tx):V:=Sx.lv 1 nl (l.map txV)
def zhR (p:Tx):Prop:=p.2.length≤maxLen∧∀ b∈p.2,b<256
theorem znJ {n:Nat} {xs:List V} (h:jg Tryz.prog n 34 xs):∃ p:Tx,xs=[txV p]∧zhR p:=by
 cases n with
 | zero=>exact h.elim
 | succ n =>
  simp only [jg,Tryz.underlying34,c5'] at h
  rcases h with h|⟨ys,h,⟨hl,_⟩,hy⟩
  ·exact ⟨(true,[]),h,by simp [zhR]⟩
  ·obtain ⟨l,h1,h2⟩:=zgp (h:=fun b:Nat=>V.int .u8 (b:Nat)) (Q:=fun b=>b<256) ys fun y hyy=>by
    obtain ⟨ds,g1,g2⟩:=hy y hyy
    obtain ⟨z,g3,g4⟩:=zoW g1
    rw [g3,mk5] at g2
    exact ⟨z,g2.symm,g4⟩
   subst h1
   rw [List.length_map] at hl
   exact ⟨(false,l),h,hl,h2⟩
theorem znK {n:Nat} {v:V} (h:jg Tryz.prog n 28 [v]):∃ nl l,v=zeG nl l∧l.length≤maxLen∧∀ p∈l,zhR p:=by
 cases n with
 | zero=>exact h.elim
 | succ n =>
  simp only [jg,Tryz.underlying28,c34] at h
  rcases h with h|⟨ys,h,⟨hl,_⟩,hy⟩
  ·simp only [List.cons.injEq,and_true] at h
   exact ⟨true,[],by rw [h];rfl,by simp,by simp⟩
  ·simp only [List.cons.injEq,and_true] at h
   obtain ⟨l,h1,h2⟩:=zgp (h:=txV) (Q:=zhR) ys fun y hyy=>by
    obtain ⟨cs,g1,g2⟩:=hy y hyy
    obtain ⟨p,g3,g4⟩:=znJ g1
    rw [g3,zqD] at g2
    exact ⟨p,g2.symm,g4⟩
   subst h1
   rw [List.length_map] at hl
   exact ⟨false,l,by rw [h];rfl,hl,h2⟩
end Go.Proofs.YtlnijcffanjieaaGreatDoor
namespace Go.Proofs.YtlnijcffanjieaaGreatDoor
set_option maxRecDepth 10000
open Go Go.Vm Go.Vm.Sx
theorem zhS (nl:Bool) (l:List Tx):kOk (.sl 1) (zeG nl l)=true:=zoC ..
theorem ziz (nl:Bool) (l:List Tx):vL (zeG nl l)=l.map txV:=zl4 ..
theorem tops_tx:∀ l:List Tx,tops (l.map txV)=0
 | []=>rfl
 | a::l=>by simp only [List.map_cons,tops];rw [tops_tx l];simp [txV,zdm]
theorem znL (nl:Bool) (l:List Tx):(zeG nl l).top=0:=by unfold zeG;rw [zit];exact tops_tx l
theorem znM {l:List Tx} {i:Nat} {p:Tx} (h:l[i]?=some p):nth (l.map txV) i=some (jk p.1 p.2):=by rw [zl,List.getElem?_map,h];rfl
theorem zjI {e:E} {t:List Nat} (h:okP e t=true):zcA e t=.tup [nvL (xm e t),.nili]:=by simp only [zcA,h,if_true,zjF]
theorem zjJ {e:E} {t:List Nat} (h:okP e t=true):zcB e t=.tup [stV (zhM e t),.nili]:=by simp only [zcB,h,if_true]
theorem kIfc:kOk .ifc .nili=true:=rfl
theorem znN {t:List Nat} (h:∀ b∈t,b<256) (n:Nat):∀ b∈t.take n,b<256:=fun b hb=>h b (List.mem_of_mem_take hb)
theorem znO {t:List Nat} (h:∀ b∈t,b<256):∀ b∈zeo t,b<256:=by
 unfold zeo
 split
 ·exact znN h 40
 ·exact h
end Go.Proofs.YtlnijcffanjieaaGreatDoor
namespace Go.Proofs.YtlnijcffanjieaaGreatDoor
open Go Go.Vm
abbrev Wo:=List Nat
inductive Plus (L:Wo→Prop):Wo→Prop
 |one {u:Wo}:L u→Plus L u
 |more {u v:Wo}:L u→Plus L v→Plus L (u++v)
theorem Plus.app {L:Wo→Prop} {u v:Wo} (h:Plus L u) (k:Plus L v):Plus L (u++v):=by
 induction h with
 | one h=>exact .more h k
 | more h _ ih=>rw [List.append_assoc];exact .more h ih
theorem Plus.mono {L M:Wo→Prop} {u:Wo} (hm:∀ u,L u→M u) (h:Plus L u):Plus M u:=by
 induction h with
 | one h=>exact .one (hm _ h)
 | more h _ ih=>exact .more (hm _ h) ih
theorem Plus.nil {L:Wo→Prop} {u:Wo} (h:Plus L u) (hu:u=[]):L []:=by
 induction h with
 | one h=>rw [hu] at h;exact h
 | more h _ ih=>rw [List.append_eq_nil_iff] at hu;rw [← hu.1];exact h
mutual
def LW:Wd→Wo→Prop
 | .non=>fun u=>u=[]
 | .one s _=>fun u=>∃ c,u=[c]∧wg s c=true
 | .both a b _ _=>fun u=>∃ x y,u=x++y∧LW a x∧LW b y
 | .alt l _ _=>LWs l
 | .rep w lp nl=>fun u=>(nl=true∧u=[])∨(if lp then Plus (LW w) u else LW w u)
def LWs:List Wd→Wo→Prop
 | []=>fun _=>False
 | w::l=>fun u=>LW w u∨LWs l u
end
mutual
def OkW:Wd→Prop
 | .non=>True
 | .one s _=>∃ c,wg s c=true
 | .both a b nl _=>OkW a∧OkW b∧nl=(emW a && emW b)
 | .alt l nl _=>OkWs l∧l≠[]∧nl=l.any emW
 | .rep w _ nl=>OkW w∧(emW w=true→nl=true)
def OkWs:List Wd→Prop
 | []=>True
 | w::l=>OkW w∧OkWs l
end
mutual
theorem em_LW:∀ {w:Wd},OkW w→(emW w=true ↔ LW w [])
 | .non,_=>by simp [emW,LW]
 | .one s m,_=>by simp [emW,LW]
 | .both a b nl la,h=>by
  have ha:=em_LW h.1
  have hb:=em_LW h.2.1
  rw [show emW (.both a b nl la)=nl from rfl,h.2.2,Bool.and_eq_true,ha,hb]
  constructor
  ·rintro ⟨h1,h2⟩;exact ⟨[],[],rfl,h1,h2⟩
  ·rintro ⟨x,y,hxy,h1,h2⟩
   obtain ⟨rfl,rfl⟩:=List.append_eq_nil_iff.1 hxy.symm
   exact ⟨h1,h2⟩
 | .alt l nl la,h=>by
  rw [show emW (.alt l nl la)=nl from rfl,h.2.2]
  exact ems_LW h.1
 | .rep w lp nl,h=>by
  have hw:=em_LW h.1
  rw [show emW (.rep w lp nl)=nl from rfl]
  constructor
  ·exact fun h=>.inl ⟨h,rfl⟩
  ·rintro (h1|h1)
   ·exact h1.1
   ·refine h.2 (hw.2 ?_)
    split at h1
    ·exact h1.nil rfl
    ·exact h1
theorem ems_LW:∀ {l:List Wd},OkWs l→(l.any emW=true ↔ LWs l [])
 | [],_=>by simp [LWs]
 | w::l,h=>by
  have h1:=em_LW h.1
  have h2:=ems_LW h.2
  simp only [List.any_cons,Bool.or_eq_true,LWs,h1,h2]
end
mutual
theorem some_LW:∀ {w:Wd},OkW w→∃ u,LW w u
 | .non,_=>⟨[],by simp [LW]⟩
 | .one s m,h=>by
  obtain ⟨c,hc⟩:=h
  exact ⟨[c],c,rfl,hc⟩
 | .both a b nl la,h=>by
  obtain ⟨x,hx⟩:=some_LW h.1
  obtain ⟨y,hy⟩:=some_LW h.2.1
  exact ⟨x++y,x,y,rfl,hx,hy⟩
 | .alt l nl la,h=>someS_LW h.1 h.2.1
 | .rep w lp nl,h=>by
  obtain ⟨x,hx⟩:=some_LW h.1
  refine ⟨x,.inr ?_⟩
  cases lp with
  | true=>exact .one hx
  | false=>exact hx
theorem someS_LW:∀ {l:List Wd},OkWs l→l≠[]→∃ u,LWs l u
 | [],_,h=>(h rfl).elim
 | w::l,h,_=>by
  obtain ⟨x,hx⟩:=some_LW h.1
  exact ⟨x,.inl hx⟩
end
theorem zoY (w:Wd) (bg:Bool) (c:Nat):emW (stW w bg c).1=emW w:=by cases w<;>simp only [stW,emW]
theorem st_en:∀ (w:Wd) (bg:Bool) (c:Nat),(stW w bg c).2=enW (stW w bg c).1
 | .non,_,_=>by simp only [stW,enW]
 | .one _ _,_,_=>by simp only [stW,enW]
 | .both _ _ _ _,_,_=>by simp only [stW,enW]
 | .alt _ _ _,_,_=>by simp only [stW,enW]
 | .rep w lp n,bg,c=>by simp only [stW,enW];exact st_en w _ c
def rn (w:Wd) (bg:Nat→Bool) (t:Nat→Nat):Nat→Wd
 | 0=>w
 | n+1=>(stW (rn w bg t n) (bg n) (t n)).1
theorem zjK (w:Wd) (bg:Nat→Bool) (t:Nat→Nat):∀ n,emW (rn w bg t n)=emW w
 | 0=>rfl
 | n+1=>by rw [rn,zoY,zjK w bg t n]
def sg (t:Nat→Nat) (i n:Nat):Wo:=(List.range' i (n - i)).map t
theorem zas (t:Nat→Nat) (i n:Nat):(sg t i n).length=n - i:=by simp [sg]
theorem xJ (t:Nat→Nat) (n:Nat):sg t n n=[]:=by simp [sg]
theorem xn (t:Nat→Nat) {i j n:Nat} (h1:i≤j) (h2:j≤n):sg t i n=sg t i j++sg t j n:=by
 unfold sg
 rw [← List.map_append]
 have:List.range' i (n - i)=List.range' i (j - i)++List.range' j (n - j):=by
  have h:=List.range'_append_1 (s:=i) (m:=j - i) (n:=n - j)
  rw [show i+(j - i)=j by omega,show j - i+(n - j)=n - i by omega] at h
  exact h.symm
 rw [this]
theorem zgq (t:Nat→Nat) {i n:Nat} (h:i≤n):sg t i (n+1)=sg t i n++[t n]:=by
 rw [xn t h (Nat.le_succ n)]
 congr 1
 simp [sg]
theorem zgr {t:Nat→Nat} {i n:Nat} {x y:Wo} (h:i≤n) (hx:sg t i n=x++y):∃ j,i≤j∧j≤n∧x=sg t i j∧y=sg t j n:=by
 have hl:=congrArg List.length hx
 rw [zas,List.length_append] at hl
 have h1:i≤i+x.length:=by omega
 have h2:i+x.length≤n:=by omega
 have hs:=xn t h1 h2
 rw [hx] at hs
 have:=List.append_inj hs (by rw [zas];omega)
 exact ⟨i+x.length,h1,h2,this.1,this.2⟩
def Acc (L:Wo→Prop) (bg:Nat→Bool) (t:Nat→Nat) (n:Nat):Prop:=∃ i,i<n∧bg i=true∧L (sg t i n)
def bgB (a:Wd) (bg:Nat→Bool) (t:Nat→Nat) (i:Nat):Bool:=bg i && emW a || enW (rn a bg t i)
theorem zgs (a b:Wd) (nl la:Bool) (bg:Nat→Bool) (t:Nat→Nat):∀ n,∃ la',rn (.both a b nl la) bg t n=.both (rn a bg t n) (rn b (bgB a bg t) t n) nl la'
 | 0=>⟨la,rfl⟩
 | n+1=>by
  obtain ⟨la',h⟩:=zgs a b nl la bg t n
  simp only [rn,h,stW,zjK,bgB]
  exact ⟨_,rfl⟩
theorem znP (a b:Wd) (nl la:Bool) (bg:Nat→Bool) (t:Nat→Nat) (n:Nat):enW (rn (.both a b nl la) bg t (n+1))=(enW (rn b (bgB a bg t) t (n+1)) || enW (rn a bg t (n+1)) && emW b):=by
 obtain ⟨la',h⟩:=zgs a b nl la bg t n
 simp only [rn,h,stW,zjK,bgB,enW,st_en]
theorem ziA (l:List Wd) (nl la:Bool) (bg:Nat→Bool) (t:Nat→Nat):∀ n,∃ la',rn (.alt l nl la) bg t n=.alt (l.map fun w=>rn w bg t n) nl la'
 | 0=>⟨la,by simp [rn]⟩
 | n+1=>by
  obtain ⟨la',h⟩:=ziA l nl la bg t n
  simp only [rn,h,stW,stWs_1,List.map_map]
  exact ⟨_,rfl⟩
theorem any_stWs:∀ (l:List Wd) (bg:Bool) (c:Nat),(stWs l bg c).2=l.any fun w=>(stW w bg c).2
 | [],_,_=>rfl
 | w::l,bg,c=>by simp only [stWs,List.any_cons,any_stWs l]
theorem zoZ (l:List Wd) (nl la:Bool) (bg:Nat→Bool) (t:Nat→Nat) (n:Nat):enW (rn (.alt l nl la) bg t (n+1))=l.any fun w=>enW (rn w bg t (n+1)):=by
 obtain ⟨la',h⟩:=ziA l nl la bg t n
 simp only [rn,h,stW,any_stWs,List.any_map,enW]
 congr 1
 funext w
 simp only [Function.comp_apply,st_en]
def bgR (w:Wd) (lp nl:Bool) (bg:Nat→Bool) (t:Nat→Nat) (i:Nat):Bool:=bg i || lp && enW (rn (.rep w lp nl) bg t i)
theorem zeq (w:Wd) (lp nl:Bool) (bg:Nat→Bool) (t:Nat→Nat):∀ n,rn (.rep w lp nl) bg t n=.rep (rn w (bgR w lp nl bg t) t n) lp nl
 | 0=>rfl
 | n+1=>by
  have h:=zeq w lp nl bg t n
  simp only [rn,h,stW,bgR,enW]
theorem zbh (w:Wd) (lp nl:Bool) (bg:Nat→Bool) (t:Nat→Nat) (i:Nat):bgR w lp nl bg t i=(bg i || lp && enW (rn w (bgR w lp nl bg t) t i)):=by
 conv=>lhs;unfold bgR
 rw [zeq]
 rfl
mutual
theorem en_ok7:∀ (w:Wd),OkW w→Dead w→∀ (bg:Nat→Bool) (t:Nat→Nat) (n:Nat),enW (rn w bg t n)=true ↔ Acc (LW w) bg t n
 | .non,_,_,bg,t,n=>by
  have:∀ n,rn .non bg t n=.non:=fun n=>by
   induction n with
   | zero=>rfl
   | succ n ih=>simp only [rn,ih,stW]
  rw [this]
  simp only [enW,Bool.false_eq_true,false_iff]
  rintro ⟨i,hi,_,h⟩
  have:=congrArg List.length (show sg t i n=[] from h)
  rw [zas,List.length_nil] at this
  omega
 | .one s m,_,hd,bg,t,0=>by
  have hm:m=false:=hd
  subst hm
  simp only [rn,enW,Bool.false_eq_true,false_iff]
  rintro ⟨i,hi,_⟩;omega
 | .one s m,_,hd,bg,t,n+1=>by
  have:∃ m',rn (.one s m) bg t n=.one s m':=by
   clear hd
   induction n with
   | zero=>exact ⟨m,rfl⟩
   | succ n ih =>
    obtain ⟨m',h⟩:=ih
    simp only [rn,h,stW]
    exact ⟨_,rfl⟩
  obtain ⟨m',h⟩:=this
  simp only [rn,h,stW,enW,Bool.and_eq_true]
  constructor
  ·rintro ⟨h1,h2⟩
   exact ⟨n,Nat.lt_succ_self n,h1,t n,by rw [zgq t (Nat.le_refl n),xJ];rfl,h2⟩
  ·rintro ⟨i,hi,h1,c,h2,h3⟩
   have hl:=congrArg List.length h2
   rw [zas] at hl
   simp at hl
   obtain rfl:i=n:=by omega
   rw [zgq t (Nat.le_refl i),xJ] at h2
   simp at h2
   rw [h2]
   exact ⟨h1,h3⟩
 | .both a b nl la,hok,hd,bg,t,0=>by
  have hm:la=false:=hd.2.2
  subst hm
  simp only [rn,enW,Bool.false_eq_true,false_iff]
  rintro ⟨i,hi,_⟩;omega
 | .both a b nl la,hok,hd,bg,t,n+1=>by
  have hA:=en_ok7 a hok.1 hd.1 bg t
  have hB:=en_ok7 b hok.2.1 hd.2.1 (bgB a bg t) t (n+1)
  have ea:=em_LW hok.1
  have eb:=em_LW hok.2.1
  rw [znP,Bool.or_eq_true,Bool.and_eq_true,hB,hA,eb]
  constructor
  ·rintro (⟨i,hi,h1,h2⟩|⟨⟨i,hi,h1,h2⟩,h3⟩)
   ·simp only [bgB,Bool.or_eq_true,Bool.and_eq_true] at h1
    rcases h1 with ⟨h1,h4⟩|h1
    ·exact ⟨i,hi,h1,[],_,rfl,ea.1 h4,h2⟩
    ·obtain ⟨j,hj,h5,h6⟩:=(hA i).1 h1
     exact ⟨j,by omega,h5,_,_,xn t (Nat.le_of_lt hj) (Nat.le_of_lt hi),h6,h2⟩
   ·exact ⟨i,hi,h1,_,[],(List.append_nil _).symm,h2,h3⟩
  ·rintro ⟨i,hi,h1,x,y,hxy,hx,hy⟩
   obtain ⟨j,h2,h3,rfl,rfl⟩:=zgr (Nat.le_of_lt hi) hxy
   rcases Nat.lt_or_ge j (n+1) with h4|h4
   ·refine .inl ⟨j,h4,?_,hy⟩
    simp only [bgB,Bool.or_eq_true,Bool.and_eq_true]
    rcases Nat.lt_or_ge i j with h5|h5
    ·exact .inr ((hA j).2 ⟨i,h5,h1,hx⟩)
    ·obtain rfl:i=j:=by omega
     rw [xJ] at hx
     exact .inl ⟨h1,ea.2 hx⟩
   ·obtain rfl:j=n+1:=by omega
    rw [xJ] at hy
    exact .inr ⟨⟨i,hi,h1,hx⟩,hy⟩
 | .alt l nl la,hok,hd,bg,t,0=>by
  have hm:la=false:=hd.2
  subst hm
  simp only [rn,enW,Bool.false_eq_true,false_iff]
  rintro ⟨i,hi,_⟩;omega
 | .alt l nl la,hok,hd,bg,t,n+1=>by
  rw [zoZ]
  exact ens_ok7 l hok.1 hd.1 bg t (n+1)
 | .rep w lp nl,hok,hd,bg,t,n=>by
  have hA:=en_ok7 w hok.1 hd (bgR w lp nl bg t) t
  have key:∀ n,enW (rn w (bgR w lp nl bg t) t n)=true ↔ Acc (LW (.rep w lp nl)) bg t n:=by
   intro n
   induction n using Nat.strongRecOn with
   | ind n ih =>
    rw [hA]
    constructor
    ·rintro ⟨i,hi,h1,h2⟩
     rw [zbh,Bool.or_eq_true,Bool.and_eq_true] at h1
     rcases h1 with h1|⟨h1,h3⟩
     ·refine ⟨i,hi,h1,.inr ?_⟩
      split
      ·exact .one h2
      ·exact h2
     ·obtain ⟨j,hj,h4,h5⟩:=(ih i hi).1 h3
      refine ⟨j,by omega,h4,.inr ?_⟩
      rw [if_pos h1,xn t (Nat.le_of_lt hj) (Nat.le_of_lt hi)]
      rcases h5 with ⟨_,h5⟩|h5
      ·have:=congrArg List.length h5
       rw [zas,List.length_nil] at this
       omega
      ·rw [if_pos h1] at h5
       exact h5.app (.one h2)
    ·rintro ⟨i,hi,h1,h2⟩
     have hb:bgR w lp nl bg t i=true:=by rw [zbh,h1];rfl
     rcases h2 with ⟨_,h2⟩|h2
     ·have:=congrArg List.length h2
      rw [zas,List.length_nil] at this
      omega
     ·split at h2
      ·rename_i hlp
       obtain ⟨u,hu⟩:∃ u,u=sg t i n:=⟨_,rfl⟩
       rw [← hu] at h2
       clear h1
       induction h2 generalizing i with
       | one h=>exact ⟨i,hi,hb,by rw [← hu];exact h⟩
       | more h k ih2 =>
        obtain ⟨j,g1,g2,rfl,rfl⟩:=zgr (Nat.le_of_lt hi) hu.symm
        rcases Nat.lt_or_ge j n with g3|g3
        ·refine ih2 j g3 ?_ rfl
         rcases Nat.lt_or_ge i j with g4|g4
         ·rw [zbh,Bool.or_eq_true,Bool.and_eq_true];exact .inr ⟨hlp,(hA j).2 ⟨i,g4,hb,h⟩⟩
         ·obtain rfl:i=j:=by omega
          exact hb
        ·obtain rfl:j=n:=by omega
         exact ⟨i,hi,hb,h⟩
      ·exact ⟨i,hi,hb,h2⟩
  rw [zeq]
  exact key n
theorem ens_ok7:∀ (l:List Wd),OkWs l→Deads l→∀ (bg:Nat→Bool) (t:Nat→Nat) (n:Nat),(l.any fun w=>enW (rn w bg t n))=true ↔ Acc (LWs l) bg t n
 | [],_,_,bg,t,n=>by
  simp only [List.any_nil,Bool.false_eq_true,false_iff]
  rintro ⟨_,_,_,h⟩
  exact h
 | w::l,hok,hd,bg,t,n=>by
  have h1:=en_ok7 w hok.1 hd.1 bg t n
  have h2:=ens_ok7 l hok.2 hd.2 bg t n
  simp only [List.any_cons,Bool.or_eq_true,h1,h2]
  constructor
  ·rintro (⟨i,a,b,c⟩|⟨i,a,b,c⟩)
   ·exact ⟨i,a,b,.inl c⟩
   ·exact ⟨i,a,b,.inr c⟩
  ·rintro ⟨i,a,b,c|c⟩
   ·exact .inl ⟨i,a,b,c⟩
   ·exact .inr ⟨i,a,b,c⟩
end
end Go.Proofs.YtlnijcffanjieaaGreatDoor
namespace Go.Proofs.YtlnijcffanjieaaGreatDoor
open Go Go.Vm
def Nx (L:Wo→Prop) (bg:Nat→Bool) (t:Nat→Nat) (n c:Nat):Prop:=∃ i,i≤n∧bg i=true∧∃ v,L (sg t i n++c::v)
theorem zfk {a:Wo}:∀ {x y v:Wo} {c:Nat},a++c::v=x++y→(∃ v',x=a++c::v')∨∃ z,a=x++z∧y=z++c::v:=by
 intro x y v c h
 rcases List.append_eq_append_iff.1 h with ⟨z,h1,h2⟩|⟨z,h1,h2⟩
 ·cases z with
  | nil=>exact .inr ⟨[],by simpa using h1.symm,by simpa using h2.symm⟩
  | cons b z =>
   simp only [List.cons_append,List.cons.injEq] at h2
   exact .inl ⟨z,by rw [h1,← h2.1]⟩
 ·exact .inr ⟨z,h1,h2⟩
mutual
theorem nx_ok7:∀ (w:Wd),OkW w→Dead w→∀ (bg:Nat→Bool) (t:Nat→Nat) (n c:Nat),wg (nxW (rn w bg t n) (bg n)) c=true ↔ Nx (LW w) bg t n c
 | .non,_,_,bg,t,n,c=>by
  have:∀ n,rn .non bg t n=.non:=fun n=>by
   induction n with
   | zero=>rfl
   | succ n ih=>simp only [rn,ih,stW]
  rw [this]
  simp only [nxW,zb3,Bool.false_eq_true,false_iff]
  rintro ⟨i,_,_,v,h⟩
  have h':sg t i n++c::v=[]:=h
  simp at h'
 | .one s m,_,hd,bg,t,n,c=>by
  have:∃ m',rn (.one s m) bg t n=.one s m':=by
   clear hd
   induction n with
   | zero=>exact ⟨m,rfl⟩
   | succ n ih =>
    obtain ⟨m',h⟩:=ih
    simp only [rn,h,stW]
    exact ⟨_,rfl⟩
  obtain ⟨m',h⟩:=this
  rw [h]
  simp only [nxW]
  constructor
  ·intro h1
   cases hb:bg n with
   | false=>rw [hb] at h1;simp [zb3] at h1
   | true =>
    rw [hb] at h1
    exact ⟨n,Nat.le_refl n,hb,[],c,by rw [xJ];rfl,by simpa using h1⟩
  ·rintro ⟨i,hi,hb,v,c',h1,h2⟩
   have hl:=congrArg List.length h1
   rw [List.length_append,zas] at hl
   simp at hl
   obtain rfl:i=n:=by omega
   rw [xJ] at h1
   simp only [List.nil_append,List.cons.injEq] at h1
   rw [hb,h1.1]
   exact h2
 | .both a b nl la,hok,hd,bg,t,n,c=>by
  have hA:=nx_ok7 a hok.1 hd.1 bg t n c
  have hB:=nx_ok7 b hok.2.1 hd.2.1 (bgB a bg t) t n c
  have hE:=en_ok7 a hok.1 hd.1 bg t
  have ea:=em_LW hok.1
  obtain ⟨la',h⟩:=zgs a b nl la bg t n
  rw [h]
  simp only [nxW,zjw,Bool.or_eq_true,zjK]
  have e1:(bg n && emW a || enW (rn a bg t n))=bgB a bg t n:=rfl
  rw [e1,hA,hB]
  constructor
  ·rintro (⟨i,hi,h1,v,h2⟩|⟨i,hi,h1,v,h2⟩)
   ·obtain ⟨y,hy⟩:=some_LW hok.2.1
    exact ⟨i,hi,h1,v++y,_,y,by simp,h2,hy⟩
   ·simp only [bgB,Bool.or_eq_true,Bool.and_eq_true] at h1
    rcases h1 with ⟨h1,h4⟩|h1
    ·exact ⟨i,hi,h1,v,[],_,rfl,ea.1 h4,h2⟩
    ·obtain ⟨j,hj,h5,h6⟩:=(hE i).1 h1
     refine ⟨j,by omega,h5,v,_,_,?_,h6,h2⟩
     rw [xn t (Nat.le_of_lt hj) hi,List.append_assoc]
  ·rintro ⟨i,hi,h1,v,x,y,hxy,hx,hy⟩
   rcases zfk hxy with ⟨v',rfl⟩|⟨z,h2,rfl⟩
   ·exact .inl ⟨i,hi,h1,v',hx⟩
   ·obtain ⟨j,g1,g2,rfl,rfl⟩:=zgr hi h2
    refine .inr ⟨j,g2,?_,v,hy⟩
    simp only [bgB,Bool.or_eq_true,Bool.and_eq_true]
    rcases Nat.lt_or_ge i j with h5|h5
    ·exact .inr ((hE j).2 ⟨i,h5,h1,hx⟩)
    ·obtain rfl:i=j:=by omega
     rw [xJ] at hx
     exact .inl ⟨h1,ea.2 hx⟩
 | .alt l nl la,hok,hd,bg,t,n,c=>by
  obtain ⟨la',h⟩:=ziA l nl la bg t n
  rw [h]
  simp only [nxW]
  rw [nxs_ok7 l hok.1 hd.1 bg t n c st0,zb3]
  simp [LW]
 | .rep w lp nl,hok,hd,bg,t,n,c=>by
  have hA:=nx_ok7 w hok.1 hd (bgR w lp nl bg t) t n c
  have hE:=en_ok7 w hok.1 hd (bgR w lp nl bg t) t
  have hR:=en_ok7 (.rep w lp nl) hok hd bg t
  rw [zeq]
  simp only [nxW]
  rw [← zbh,hA]
  constructor
  ·rintro ⟨i,hi,h1,v,h2⟩
   rw [zbh,Bool.or_eq_true,Bool.and_eq_true] at h1
   rcases h1 with h1|⟨h1,h3⟩
   ·refine ⟨i,hi,h1,v,.inr ?_⟩
    split
    ·exact .one h2
    ·exact h2
   ·have h3':enW (rn (.rep w lp nl) bg t i)=true:=by rw [zeq];exact h3
    obtain ⟨j,hj,h4,h5⟩:=(hR i).1 h3'
    refine ⟨j,by omega,h4,v,.inr ?_⟩
    rw [if_pos h1,xn t (Nat.le_of_lt hj) hi,List.append_assoc]
    rcases h5 with ⟨_,h5⟩|h5
    ·have:=congrArg List.length h5
     rw [zas,List.length_nil] at this
     omega
    ·rw [if_pos h1] at h5
     exact h5.app (.one h2)
  ·rintro ⟨i,hi,h1,v,h2⟩
   have hb:bgR w lp nl bg t i=true:=by rw [zbh,h1];rfl
   rcases h2 with ⟨_,h2⟩|h2
   ·simp at h2
   ·split at h2
    ·rename_i hlp
     obtain ⟨u,hu⟩:∃ u,u=sg t i n++c::v:=⟨_,rfl⟩
     rw [← hu] at h2
     clear h1
     induction h2 generalizing i with
     | one h=>exact ⟨i,hi,hb,v,by rw [← hu];exact h⟩
     | more h k ih2 =>
      rcases zfk hu.symm with ⟨v',rfl⟩|⟨z,h2,rfl⟩
      ·exact ⟨i,hi,hb,v',h⟩
      ·obtain ⟨j,g1,g2,rfl,rfl⟩:=zgr hi h2
       refine ih2 j g2 ?_ rfl
       rcases Nat.lt_or_ge i j with g4|g4
       ·rw [zbh,Bool.or_eq_true,Bool.and_eq_true];exact .inr ⟨hlp,(hE j).2 ⟨i,g4,hb,h⟩⟩
       ·obtain rfl:i=j:=by omega
        exact hb
    ·exact ⟨i,hi,hb,v,h2⟩
theorem nxs_ok7:∀ (l:List Wd),OkWs l→Deads l→∀ (bg:Nat→Bool) (t:Nat→Nat) (n c:Nat) (s:St4),wg (nxWs (l.map fun w=>rn w bg t n) (bg n) s) c=true ↔ wg s c=true∨Nx (LWs l) bg t n c
 | [],_,_,bg,t,n,c,s=>by
  simp only [List.map_nil,nxWs]
  constructor
  ·exact .inl
  ·rintro (h|⟨_,_,_,_,h⟩)
   ·exact h
   ·exact h.elim
 | w::l,hok,hd,bg,t,n,c,s=>by
  have h1:=nx_ok7 w hok.1 hd.1 bg t n c
  simp only [List.map_cons,nxWs]
  rw [nxs_ok7 l hok.2 hd.2 bg t n c,zjw,Bool.or_eq_true,h1]
  constructor
  ·rintro ((h|⟨i,a,b,v,d⟩)|⟨i,a,b,v,d⟩)
   ·exact .inl h
   ·exact .inr ⟨i,a,b,v,.inl d⟩
   ·exact .inr ⟨i,a,b,v,.inr d⟩
  ·rintro (h|⟨i,a,b,v,d|d⟩)
   ·exact .inl (.inl h)
   ·exact .inl (.inr ⟨i,a,b,v,d⟩)
   ·exact .inr ⟨i,a,b,v,d⟩
end
def bg0 (i:Nat):Bool:=i == 0
def tf (t:Wo) (i:Nat):Nat:=t.getD i 0
theorem zdo (t:Wo):∀ (n:Nat),n≤t.length→sg (tf t) 0 n=t.take n
 | 0,_=>by simp [sg]
 | n+1,h=>by
  rw [zgq _ (Nat.zero_le n),zdo t n (by omega),List.take_succ_eq_append_getElem (by omega)]
  congr 1
  simp [tf,List.getElem?_eq_getElem (show n<t.length by omega)]
theorem zgt (w:Wd) (t:Wo):∀ (n:Nat),n≤t.length→runE w 0 (t.take n)=rn w bg0 (tf t) n
 | 0,_=>by simp [runE,rn]
 | n+1,h=>by
  have hl:(t.take n).length=n:=by rw [List.length_take];omega
  rw [List.take_succ_eq_append_getElem (by omega),runE_app,zgt w t n (by omega),hl]
  simp only [runE,rn,Nat.zero_add,bg0]
  congr 2
  simp [tf,List.getElem?_eq_getElem (show n<t.length by omega)]
theorem zpS {L:Wo→Prop} {t:Nat→Nat} {n:Nat}:Acc L bg0 t n ↔ 0<n∧L (sg t 0 n):=by
 constructor
 ·rintro ⟨i,h1,h2,h3⟩
  obtain rfl:i=0:=by simpa [bg0] using h2
  exact ⟨h1,h3⟩
 ·rintro ⟨h1,h2⟩
  exact ⟨0,h1,rfl,h2⟩
theorem zjL {w:Wd} (hok:OkW w) (hd:Dead w) (t:Wo) (n:Nat):n∈we w t ↔ n≤t.length∧LW w (t.take n):=by
 cases n with
 | zero=>rw [zcC,em_LW hok];simp
 | succ k =>
  rw [zcD]
  constructor
  ·rintro ⟨b,hb,h⟩
   have hk:k<t.length:=(List.getElem?_eq_some_iff.1 hb).1
   rw [st_en,zgt w t k (by omega)] at h
   have e:(stW (rn w bg0 (tf t) k) (k == 0) b).1=rn w bg0 (tf t) (k+1):=by
    simp only [rn,bg0]
    congr 2
    simp [tf,hb]
   rw [e,en_ok7 w hok hd,zpS,zdo t (k+1) hk] at h
   exact ⟨hk,h.2⟩
  ·rintro ⟨hk,h⟩
   obtain ⟨b,hb⟩:∃ b,t[k]?=some b:=⟨t[k],by simp [show k<t.length from hk]⟩
   refine ⟨b,hb,?_⟩
   rw [st_en,zgt w t k (by omega)]
   have e:(stW (rn w bg0 (tf t) k) (k == 0) b).1=rn w bg0 (tf t) (k+1):=by
    simp only [rn,bg0]
    congr 2
    simp [tf,hb]
   rw [e,en_ok7 w hok hd,zpS,zdo t (k+1) hk]
   exact ⟨Nat.succ_pos k,h⟩
theorem zn8 {w:Wd} (hok:OkW w) (hd:Dead w) (t:Wo) (c:Nat):wg (nxW (runE w 0 t) (t.length == 0)) c=true ↔ ∃ v,LW w (t++c::v):=by
 have h:=zgt w t t.length (Nat.le_refl _)
 rw [List.take_length] at h
 rw [h]
 have:=nx_ok7 w hok hd bg0 (tf t) t.length c
 rw [show (t.length == 0)=bg0 t.length from rfl,this]
 have hs:=zdo t t.length (Nat.le_refl _)
 rw [List.take_length] at hs
 constructor
 ·rintro ⟨i,_,h2,v,h3⟩
  obtain rfl:i=0:=by simpa [bg0] using h2
  rw [hs] at h3
  exact ⟨v,h3⟩
 ·rintro ⟨v,h3⟩
  exact ⟨0,Nat.zero_le _,rfl,v,by rw [hs];exact h3⟩
theorem goEnds_eq:∀ (t:Wo) (w w':Wd) (i:Nat),(∀ k,(i+k+1)∈goEnds w i t ↔ (i+k+1)∈goEnds w' i t)→goEnds w i t=goEnds w' i t
 | [],_,_,_,_=>rfl
 | b::t,w,w',i,h=>by
  have h0:=h 0
  rw [goEnds_mem (b::t) w i 0,goEnds_mem (b::t) w' i 0] at h0
  simp only [List.getElem?_cons_zero,Option.some.injEq,exists_eq_left',List.take_zero,runE,Nat.add_zero] at h0
  have e0:(stW w (i == 0) b).2=(stW w' (i == 0) b).2:=by rw [Bool.eq_iff_iff];exact h0
  simp only [goEnds,e0]
  congr 1
  refine goEnds_eq t _ _ (i+1) fun k=>?_
  have hk:=h (k+1)
  simp only [goEnds,List.mem_append,e0] at hk
  have hn:¬ (i+(k+1)+1)∈(if (stW w' (i == 0) b).2=true then [i+1] else []):=by
   split<;>simp
  rw [or_iff_right hn,or_iff_right hn] at hk
  rw [show i+1+k+1=i+(k+1)+1 by omega]
  exact hk
theorem znQ {w w':Wd} {t:Wo} (h:∀ n,n∈we w t ↔ n∈we w' t):we w t=we w' t:=by
 have h0:=h 0
 rw [zcC,zcC,← Bool.eq_iff_iff] at h0
 unfold we
 rw [h0]
 congr 1
 refine goEnds_eq t w w' 0 fun k=>?_
 have hk:=h (k+1)
 rw [zcD,zcD] at hk
 rw [goEnds_mem,goEnds_mem,Nat.zero_add]
 exact hk
end Go.Proofs.YtlnijcffanjieaaGreatDoor
namespace Go.Proofs.YtlnijcffanjieaaGreatDoor
open Go Go.Vm Go.Vm.Sx
mutual
def nodes:E→Nat
 | .mk _ _ _ _ _ _ _ _ _ _ args=>1+nodesF args
def nodesF:List E→Nat
 | []=>0
 | a::l=>nodes a+nodesF l
end
def Bd (d:Int):Int:=1048576 * (5003 - d)
mutual
theorem size_bd:∀ (e:E) (d:Int),Wf e→0≤d→d≤5001→1≤sizeM e d∧sizeM e d≤Bd d
 | .mk _ _ _ _ _ _ _ _ _ _ args,d,hw,h0,h1=>by
  simp only [sizeM]
  cases hd:ltz 5000 d with
  | true=>simp only [if_true,Bd];omega
  | false =>
   have hd':d≤5000:=by
    rcases Int.lt_or_le 5000 d with h|h
    ·rw [ltz_t h] at hd;cases hd
    ·exact h
   simp only [Bool.false_eq_true,if_false]
   rw [w64 (x:=d+1) (by omega) (by omega)]
   have:=sizeF_bd args (d+1) 1 hw.2.2 (by omega) (by omega) (by omega) (by simp only [Bd];omega)
   refine ⟨by omega,?_⟩
   have:=this.2
   simp only [Bd] at this ⊢
   omega
theorem sizeF_bd:∀ (l:List E) (d n:Int),Wfs l→0≤d→d≤5001→1≤n→n≤Bd (d - 1)→n≤sizeF d n l∧sizeF d n l≤Bd (d - 1)
 | [],d,n,_,h0,h1,hn,hb=>by simp only [sizeF];omega
 | a::l,d,n,hw,h0,h1,hn,hb=>by
  obtain ⟨a1,a2⟩:=size_bd a d hw.1 h0 h1
  simp only [sizeF]
  cases hc:ltz n 1048576 with
  | false=>simp only [Bool.false_eq_true,if_false];omega
  | true =>
   have hc':=ltz_i.1 hc
   simp only [if_true]
   simp only [Bd] at a2 hb
   rw [w64 (by omega) (by omega)]
   have:=sizeF_bd l d (n+sizeM a d) hw.2 h0 h1 (by omega) (by simp only [Bd];omega)
   exact ⟨by omega,this.2⟩
end
mutual
theorem size_nodes:∀ (e:E) (d:Int),Wf e→0≤d→d≤5001→sizeM e d≤20000→(nodes e:Int)≤sizeM e d
 | .mk _ _ _ _ _ _ _ _ _ _ args,d,hw,h0,h1,hs=>by
  simp only [sizeM] at hs ⊢
  cases hd:ltz 5000 d with
  | true=>rw [hd] at hs;simp only [if_true] at hs;omega
  | false =>
   rw [hd] at hs
   have hd':d≤5000:=by
    rcases Int.lt_or_le 5000 d with h|h
    ·rw [ltz_t h] at hd;cases hd
    ·exact h
   simp only [Bool.false_eq_true,if_false] at hs ⊢
   rw [w64 (x:=d+1) (by omega) (by omega)] at hs ⊢
   have g1:=sizeF_nodes args (d+1) 1 hw.2.2 (by omega) (by omega) (by omega) (by simp only [Bd];omega) hs
   simp only [nodes];omega
theorem sizeF_nodes:∀ (l:List E) (d n:Int),Wfs l→0≤d→d≤5001→1≤n→n≤Bd (d - 1)→sizeF d n l≤20000→n+(nodesF l:Int)≤sizeF d n l
 | [],d,n,hw,h0,h1,hn,hb,hs=>by simp only [sizeF,nodesF] at hs ⊢;omega
 | a::l,d,n,hw,h0,h1,hn,hb,hs=>by
  obtain ⟨a1,a2⟩:=size_bd a d hw.1 h0 h1
  simp only [sizeF] at hs ⊢
  cases hc:ltz n 1048576 with
  | false =>
   rw [hc] at hs
   simp only [Bool.false_eq_true,if_false] at hs
   rw [ltz_t (by omega)] at hc;cases hc
  | true =>
   have hc':=ltz_i.1 hc
   rw [hc] at hs
   simp only [if_true] at hs ⊢
   simp only [Bd] at a2 hb
   rw [w64 (by omega) (by omega)] at hs ⊢
   have hb':n+sizeM a d≤Bd (d - 1):=by simp only [Bd];omega
   have:=(sizeF_bd l d (n+sizeM a d) hw.2 h0 h1 (by omega) hb').1
   have g1:=sizeF_nodes l d (n+sizeM a d) hw.2 h0 h1 (by omega) hb' hs
   have f1:=size_nodes a d hw.1 h0 h1 (by omega)
   simp only [nodesF];omega
end
mutual
theorem parts_ok:∀ (e:E) (d n s:Int),Cor e→0≤d→d+(nodes e:Int)≤4097→0≤n→n+(nodes e:Int)≤65536→(partsM e d n s).1=true∧(partsM e d n s).2.1=n+nodes e
 | .mk op pl s0 s1 s2 s3 text mn mx nl args,d,n,s,hc,h0,h1,h2,h3=>by
  obtain ⟨hl,hk,_,hcs⟩:=hc
  simp only [nodes] at h1 h3 ⊢
  have e1:ltz 65536 (IntKind.i64.wrap (n+1))=false:=by rw [w64 (by omega) (by omega)];exact zbT (by omega)
  have e2:ltz 4096 d=false:=zbT (by omega)
  simp only [partsM,e1,e2,hl,hk,Bool.or_false,Bool.false_eq_true,if_false,if_true]
  rw [w64 (x:=n+1) (by omega) (by omega),w64 (x:=d+1) (by omega) (by omega)]
  have:=partsF_ok args (d+1) (n+1) (if (op == 2)=true then IntKind.i64.wrap (s+1) else s) hcs (by omega) (by omega) (by omega) (by omega)
  exact ⟨this.1,by rw [this.2];omega⟩
theorem partsF_ok:∀ (l:List E) (d n s:Int),Cors l→0≤d→d+(nodesF l:Int)≤4097→0≤n→n+(nodesF l:Int)≤65536→(partsF d l n s).1=true∧(partsF d l n s).2.1=n+nodesF l
 | [],d,n,s,_,_,_,_,_=>by simp [partsF,nodesF]
 | a::l,d,n,s,hc,h0,h1,h2,h3=>by
  simp only [nodesF] at h1 h3 ⊢
  obtain ⟨a1,a2⟩:=parts_ok a d n s hc.1 h0 (by omega) h2 (by omega)
  simp only [partsF,a1,if_true]
  rw [a2]
  have:=partsF_ok l d (n+nodes a) (partsM a d n s).2.2 hc.2 h0 (by omega) (by omega) (by omega)
  exact ⟨this.1,by rw [this.2];omega⟩
end
theorem zmB {e:E} (hc:Cor e) (hn:nodes e≤4000):zaQ e=true:=(parts_ok e 1 0 0 hc (by decide) (by omega) (by decide) (by omega)).1
theorem zbi {e:E} (hw:Wf e) (h:sizeM e 0≤20000):(nodes e:Int)≤sizeM e 0:=size_nodes e 0 hw (by decide) (by decide) h
theorem zer {e:E} (hw:Wf e):1≤sizeM e 0∧sizeM e 0≤Bd 0:=size_bd e 0 hw (by decide) (by decide)
end Go.Proofs.YtlnijcffanjieaaGreatDoor
namespace Go.Proofs.YtlnijcffanjieaaGreatDoor
open Go Go.Vm
mutual
def Lang:E→Wo→Prop
 | .mk op _ s0 s1 s2 s3 _ mn mx _ args=>fun u =>
  if op=2 then ∃ c,u=[c]∧wg (s0,s1,s2,s3) c=true
  else if op=5 then LCat args u
  else if op=6 then LAlt args u
  else if op=7 then (mn=0∧u=[])∨(if mx<0 then Plus (LHead args) u else LHead args u)
  else u=[]
def LCat:List E→Wo→Prop
 | []=>fun u=>u=[]
 | e::l=>fun u=>∃ x y,u=x++y∧Lang e x∧LCat l y
def LAlt:List E→Wo→Prop
 | []=>fun _=>False
 | e::l=>fun u=>Lang e u∨LAlt l u
def LHead:List E→Wo→Prop
 | []=>fun _=>False
 | e::_=>Lang e
end
def zmC (L:Wo→Prop):Option Wd→Prop
 | none=>∀ u,¬ L u
 | some w=>OkW w∧Dead w∧LW w=L
theorem zkI {L:Wo→Prop} (h:∀ u,¬ L u):∀ u,¬ Plus L u:=fun u hp=>by
 induction hp with
 | one k=>exact h _ k
 | more k _ _=>exact h _ k
theorem cat_ok:∀ (l:List E),(∀ a∈l,zmC (Lang a) (foW a))→zmC (LCat l) (foCat l)
 | [],_=>⟨trivial,trivial,rfl⟩
 | a::l,h=>by
  have ha:=h a (List.mem_cons_self ..)
  have hl:=cat_ok l fun b hb=>h b (List.mem_cons_of_mem _ hb)
  simp only [foCat]
  cases h1:foCat l with
  | none =>
   rw [h1] at hl
   rintro u ⟨x,y,_,_,hy⟩
   exact hl y hy
  | some w =>
   rw [h1] at hl
   cases h2:foW a with
   | none =>
    rw [h2] at ha
    rintro u ⟨x,y,_,hx,_⟩
    exact ha x hx
   | some x =>
    rw [h2] at ha
    obtain ⟨a1,a2,a3⟩:=ha
    obtain ⟨b1,b2,b3⟩:=hl
    refine ⟨⟨a1,b1,rfl⟩,⟨a2,b2,rfl⟩,?_⟩
    simp only [LW,LCat,a3,b3]
theorem alt_ok:∀ (l:List E),(∀ a∈l,zmC (Lang a) (foW a))→OkWs (foAlt l)∧Deads (foAlt l)∧LWs (foAlt l)=LAlt l
 | [],_=>⟨trivial,trivial,rfl⟩
 | a::l,h=>by
  have ha:=h a (List.mem_cons_self ..)
  obtain ⟨b1,b2,b3⟩:=alt_ok l fun b hb=>h b (List.mem_cons_of_mem _ hb)
  simp only [foAlt]
  cases h2:foW a with
  | none =>
   rw [h2] at ha
   refine ⟨b1,b2,?_⟩
   funext u
   simp only [LAlt,b3]
   exact propext ⟨.inr,fun h=>h.resolve_left (ha u)⟩
  | some x =>
   rw [h2] at ha
   obtain ⟨a1,a2,a3⟩:=ha
   exact ⟨⟨a1,b1⟩,⟨a2,b2⟩,by simp only [LWs,LAlt,a3,b3]⟩
theorem zpT {pl s0 s1 s2 s3 mn mx:Int} {tx:List Nat} {nl:Bool} {args:List E} (h:kindB (.mk 7 pl s0 s1 s2 s3 tx mn mx nl args)=true):(∃ a,args=[a])∧(mn=0∨mn=1):=by
 simp [kindB] at h
 obtain ⟨h1,h2⟩:=h
 refine ⟨List.length_eq_one_iff.1 (by omega),?_⟩
 omega
theorem fo_Lang:∀ (N:Nat) (e:E),YtlnijcffanjieaaGreatDoor.hg e≤N→Cor e→Rg e→zmC (Lang e) (foW e)
 | 0,e,h,_,_=>by cases e;simp only [YtlnijcffanjieaaGreatDoor.hg] at h;omega
 | N+1,.mk op pl s0 s1 s2 s3 text mn mx nl args,h,hc,hr=>by
  simp only [YtlnijcffanjieaaGreatDoor.hg] at h
  have hm:∀ a∈args,zmC (Lang a) (foW a):=fun a ha=>by
   have h1:=zcZ ha
   exact fo_Lang N a (by omega) (hc.2.2.2.mem ha) (hr.2.mem ha)
  simp only [foW]
  split
  ·rename_i h2
   split
   ·rename_i h3
    rintro u hu
    simp only [Lang,if_pos h2] at hu
    obtain ⟨c,_,hu⟩:=hu
    rw [h3,zb3] at hu
    cases hu
   ·rename_i h3
    obtain ⟨b,_,hb⟩:=zmg hr.1 h3
    refine ⟨⟨b,hb⟩,rfl,?_⟩
    funext u
    simp only [LW,Lang,if_pos h2]
  ·rename_i n2
   split
   ·rename_i h5
    have:=cat_ok args hm
    have e:Lang (.mk op pl s0 s1 s2 s3 text mn mx nl args)=LCat args:=by funext u;simp only [Lang,if_neg n2,if_pos h5]
    rw [e]
    exact this
   ·rename_i n5
    split
    ·rename_i h6
     have e:Lang (.mk op pl s0 s1 s2 s3 text mn mx nl args)=LAlt args:=by funext u;simp only [Lang,if_neg n2,if_neg n5,if_pos h6]
     obtain ⟨b1,b2,b3⟩:=alt_ok args hm
     rw [e,← b3]
     split
     ·rename_i hem
      have:foAlt args=[]:=List.isEmpty_iff.1 hem
      rw [this]
      exact fun u hu=>hu
     ·rename_i hem
      refine ⟨⟨b1,fun h=>hem (by rw [h];rfl),rfl⟩,⟨b2,rfl⟩,?_⟩
      simp only [LW]
    ·rename_i n6
     split
     ·rename_i h7
      subst h7
      obtain ⟨⟨a,rfl⟩,hmn⟩:=zpT hc.2.1
      have ha:=hm a (by simp)
      have e:Lang (.mk 7 pl s0 s1 s2 s3 text mn mx nl [a])=fun u=>(mn=0∧u=[])∨(if mx<0 then Plus (Lang a) u else Lang a u):=by
       funext u
       simp only [Lang,LHead]
       simp
      rw [e]
      simp only [foHead]
      cases hf:foW a with
      | none =>
       rw [hf] at ha
       simp only
       have hno:∀ u,¬ (if mx<0 then Plus (Lang a) u else Lang a u):=fun u=>by
        split
        ·exact zkI ha u
        ·exact ha u
       by_cases hp:0<mn
       ·rw [if_pos hp]
        rintro u (⟨h0,_⟩|h0)
        ·omega
        ·exact hno u h0
       ·rw [if_neg hp]
        refine ⟨trivial,trivial,?_⟩
        funext u
        simp only [LW]
        exact propext ⟨fun h0=>.inl ⟨by omega,h0⟩,fun h0=>(h0.resolve_right (hno u)).2⟩
      | some x =>
       rw [hf] at ha
       obtain ⟨a1,a2,a3⟩:=ha
       refine ⟨⟨a1,fun hx=>by simp [hx]⟩,a2,?_⟩
       funext u
       simp only [LW,a3,decide_eq_true_eq,Bool.or_eq_true,beq_iff_eq]
       refine propext ⟨?_,?_⟩
       ·rintro (⟨h0|h0,h1⟩|h0)
        ·exact .inl ⟨h0,h1⟩
        ·refine .inr ?_
         have:=(em_LW a1).1 h0
         rw [a3] at this
         rw [h1]
         split
         ·exact .one this
         ·exact this
        ·exact .inr h0
       ·rintro (⟨h0,h1⟩|h0)
        ·exact .inl ⟨.inl h0,h1⟩
        ·exact .inr h0
     ·rename_i n7
      refine ⟨trivial,trivial,?_⟩
      funext u
      simp only [LW,Lang,if_neg n2,if_neg n5,if_neg n6,if_neg n7]
theorem runE_rg7:∀ (t:List Nat) (w:Wd) (i:Nat),RgW w→RgW (runE w i t)
 | [],w,i,h=>h
 | b::t,w,i,h=>by
  simp only [runE]
  exact runE_rg7 t _ _ (Rg_st (FW w) w _ b (Nat.le_refl _) h)
theorem zmD {e e':E} (hc:Cor e) (hr:Rg e) (hc':Cor e') (hr':Rg e') (h:∀ u,Lang e u ↔ Lang e' u) (t:Wo):xm e t=xm e' t∧zhM e t=zhM e' t:=by
 have f:=fo_Lang _ e (Nat.le_refl _) hc hr
 have f':=fo_Lang _ e' (Nat.le_refl _) hc' hr'
 have hL:Lang e=Lang e':=funext fun u=>propext (h u)
 rw [hL] at f
 unfold xm zhM
 cases h1:foW e with
 | none =>
  rw [h1] at f
  cases h2:foW e' with
  | none=>exact ⟨rfl,rfl⟩
  | some w' =>
   rw [h2] at f'
   obtain ⟨u,hu⟩:=some_LW f'.1
   rw [f'.2.2] at hu
   exact (f u hu).elim
 | some w =>
  rw [h1] at f
  cases h2:foW e' with
  | none =>
   rw [h2] at f'
   obtain ⟨u,hu⟩:=some_LW f.1
   rw [f.2.2] at hu
   exact (f' u hu).elim
  | some w' =>
   rw [h2] at f'
   obtain ⟨a1,a2,a3⟩:=f
   obtain ⟨b1,b2,b3⟩:=f'
   have hLW:LW w=LW w':=by rw [a3,b3]
   refine ⟨znQ fun n=>by rw [zjL a1 a2,zjL b1 b2,hLW],?_⟩
   have r1:=foW_rg _ e w (Nat.le_refl _) hc hr h1
   have r2:=foW_rg _ e' w' (Nat.le_refl _) hc' hr' h2
   refine zjy (nx_rg _ _ (runE_rg7 t w 0 r1)) (nx_rg _ _ (runE_rg7 t w' 0 r2)) fun b _=>?_
   rw [Bool.eq_iff_iff,zn8 a1 a2,zn8 b1 b2,hLW]
end Go.Proofs.YtlnijcffanjieaaGreatDoor
namespace Go.Proofs.YtlnijcffanjieaaGreatDoor
open Go Go.Vm
structure Fine (e:E):Prop where
 wf:Wf e
 can:Can e
 rg:Rg e
 cor:Cor e
theorem zn9 {l:List E} (h:∀ a∈l,Fine a):Wfs l∧Cans l∧Rgs l∧Cors l:=by
 induction l with
 | nil=>exact ⟨trivial,trivial,trivial,trivial⟩
 | cons a l ih =>
  have ha:=h a (List.mem_cons_self ..)
  obtain ⟨h1,h2,h3,h4⟩:=ih fun b hb=>h b (List.mem_cons_of_mem _ hb)
  exact ⟨⟨ha.wf,h1⟩,⟨ha.can,h2⟩,⟨ha.rg,h3⟩,⟨ha.cor,h4⟩⟩
theorem ml9:9≤maxLen:=by decide
theorem zmE {l:List E} (h:∀ a∈l,Fine a) (h1:2≤l.length) (h2:l.length≤9):Fine (jY l):=by
 obtain ⟨f1,f2,f3,f4⟩:=zn9 h
 have:=ml9
 refine ⟨⟨by simp,by omega,f1⟩,⟨by simp,f2⟩,⟨by decide,f3⟩,⟨rfl,?_,by omega,f4⟩⟩
 have:Sx.ltz 1 (l.length:Int)=true:=Sx.ltz_t (by omega)
 simp [kindB,this]
theorem zhT {l:List E} (h:∀ a∈l,Fine a) (h1:2≤l.length) (h2:l.length≤9):Fine (jK l):=by
 obtain ⟨f1,f2,f3,f4⟩:=zn9 h
 have:=ml9
 refine ⟨⟨by simp,by omega,f1⟩,⟨by simp,f2⟩,⟨by decide,f3⟩,⟨rfl,?_,by omega,f4⟩⟩
 have:Sx.ltz 1 (l.length:Int)=true:=Sx.ltz_t (by omega)
 simp [kindB,this]
theorem zes {e:E} {mn mx:Int} (h:Fine e) (hm:(mn=0∧mx = -1)∨(mn=1∧mx = -1)∨(mn=0∧mx=1)):Fine (vm mn mx e):=by
 have:=ml9
 refine ⟨⟨by simp,by simp;omega,h.wf,trivial⟩,⟨by simp,h.can,trivial⟩,⟨by decide,h.rg,trivial⟩,⟨?_,?_,by simp,h.cor,trivial⟩⟩
 ·rcases hm with ⟨rfl,rfl⟩|⟨rfl,rfl⟩|⟨rfl,rfl⟩<;>rfl
 ·rcases hm with ⟨rfl,rfl⟩|⟨rfl,rfl⟩|⟨rfl,rfl⟩<;>rfl
def empE:E:=.mk 1 0 0 0 0 0 [] 0 0 true []
theorem fine_emp:Fine empE:=⟨⟨by simp,by simp,trivial⟩,⟨fun _=>rfl,trivial⟩,⟨by decide,trivial⟩,⟨rfl,rfl,by simp,trivial⟩⟩
theorem zpU (l:List E):Lang (jY l)=LCat l:=by funext u;simp [jY,Lang]
theorem zoa (l:List E):Lang (jK l)=LAlt l:=by funext u;simp [jK,Lang]
theorem zjM (u:Wo):Lang empE u ↔ u=[]:=by simp [empE,Lang]
theorem vn (e:E) (u:Wo):Lang (vm 0 (-1) e) u ↔ u=[]∨Plus (Lang e) u:=by simp [vm,Lang,LHead]
theorem zmF (e:E) (u:Wo):Lang (vm 1 (-1) e) u ↔ Plus (Lang e) u:=by simp [vm,Lang,LHead]
theorem zpV (e:E) (u:Wo):Lang (vm 0 1 e) u ↔ u=[]∨Lang e u:=by simp [vm,Lang,LHead]
theorem zcE (a b:E) (u:Wo):Lang (jY [a,b]) u ↔ ∃ x y,u=x++y∧Lang a x∧Lang b y:=by
 rw [zpU]
 simp only [LCat]
 constructor
 ·rintro ⟨x,y,rfl,hx,z,w,rfl,hz,rfl⟩
  exact ⟨x,z,by simp,hx,hz⟩
 ·rintro ⟨x,y,rfl,hx,hy⟩
  exact ⟨x,y,rfl,hx,y,[],by simp,hy,rfl⟩
theorem zat (a b:E) (u:Wo):Lang (jK [a,b]) u ↔ Lang a u∨Lang b u:=by
 rw [zoa]
 simp only [LAlt,or_false]
theorem zo0 (a b c:E) (u:Wo):Lang (jK [a,b,c]) u ↔ Lang a u∨Lang b u∨Lang c u:=by
 rw [zoa]
 simp only [LAlt,or_false]
variable (A B C:E)
abbrev kx (e:E):E:=vm 0 (-1) e
def lftE:List E:=[jY [jY [A,B],C],jK [jK [A,B],C],jK [A,B],jY [A,jK [B,C]],kx A,vm 1 (-1) A,vm 0 1 A,jY [A,empE],kx (kx A),kx (jK [A,B])]
def rgtE:List E:=[jY [A,jY [B,C]],jK [A,B,C],jK [B,A],jK [jY [A,B],jY [A,C]],jK [empE,jY [A,kx A]],jY [A,kx A],jK [A,empE],A,kx A,kx (jY [kx A,kx B])]
theorem zhU {e:E} {u v:Wo} (h:Lang (kx e) u) (k:Lang (kx e) v):Lang (kx e) (u++v):=by
 rw [vn] at h k ⊢
 rcases h with rfl|h
 ·simpa using k
 ·rcases k with rfl|k
  ·rw [List.append_nil];exact .inr h
  ·exact .inr (h.app k)
theorem zca {L:Wo→Prop} {e:E} (h:∀ u,L u→Lang (kx e) u) {u:Wo} (hp:u=[]∨Plus L u):Lang (kx e) u:=by
 rcases hp with rfl|hp
 ·exact (vn e []).2 (.inl rfl)
 ·induction hp with
  | one k=>exact h _ k
  | more k _ ih=>exact zhU (h _ k) ih
theorem xo {e:E} {u:Wo} (h:Lang e u):Lang (kx e) u:=(vn e u).2 (.inr (.one h))
theorem zqE (u:Wo):Lang (jY [jY [A,B],C]) u ↔ Lang (jY [A,jY [B,C]]) u:=by
 simp only [zcE]
 constructor
 ·rintro ⟨_,z,rfl,⟨x,y,rfl,hx,hy⟩,hz⟩
  exact ⟨x,y++z,by simp,hx,y,z,rfl,hy,hz⟩
 ·rintro ⟨x,_,rfl,hx,y,z,rfl,hy,hz⟩
  exact ⟨x++y,z,by simp,⟨x,y,rfl,hx,hy⟩,hz⟩
theorem zqF (u:Wo):Lang (jK [jK [A,B],C]) u ↔ Lang (jK [A,B,C]) u:=by
 simp only [zat,zo0,or_assoc]
theorem zqG (u:Wo):Lang (jK [A,B]) u ↔ Lang (jK [B,A]) u:=by
 simp only [zat]
 exact or_comm
theorem zqH (u:Wo):Lang (jY [A,jK [B,C]]) u ↔ Lang (jK [jY [A,B],jY [A,C]]) u:=by
 simp only [zcE,zat]
 constructor
 ·rintro ⟨x,y,h,hx,hy|hy⟩
  ·exact .inl ⟨x,y,h,hx,hy⟩
  ·exact .inr ⟨x,y,h,hx,hy⟩
 ·rintro (⟨x,y,h,hx,hy⟩|⟨x,y,h,hx,hy⟩)
  ·exact ⟨x,y,h,hx,.inl hy⟩
  ·exact ⟨x,y,h,hx,.inr hy⟩
theorem zpW (u:Wo):Lang (vm 1 (-1) A) u ↔ Lang (jY [A,kx A]) u:=by
 rw [zmF,zcE]
 constructor
 ·intro h
  cases h with
  | one h=>exact ⟨u,[],by simp,h,(vn A []).2 (.inl rfl)⟩
  | @more x y h k=>exact ⟨x,y,rfl,h,(vn A y).2 (.inr k)⟩
 ·rintro ⟨x,y,rfl,hx,hy⟩
  rw [vn] at hy
  rcases hy with rfl|hy
  ·rw [List.append_nil];exact .one hx
  ·exact .more hx hy
theorem zqI (u:Wo):Lang (kx A) u ↔ Lang (jK [empE,jY [A,kx A]]) u:=by
 rw [zat,← zpW,zjM,zmF,vn]
theorem zqJ (u:Wo):Lang (vm 0 1 A) u ↔ Lang (jK [A,empE]) u:=by
 rw [zat,zjM,zpV,or_comm]
theorem zqK (u:Wo):Lang (jY [A,empE]) u ↔ Lang A u:=by
 rw [zcE]
 constructor
 ·rintro ⟨x,y,rfl,hx,hy⟩
  rw [zjM] at hy
  rw [hy,List.append_nil]
  exact hx
 ·intro h
  exact ⟨u,[],by simp,h,(zjM []).2 rfl⟩
theorem zqL (u:Wo):Lang (kx (kx A)) u ↔ Lang (kx A) u:=by
 constructor
 ·intro h
  rw [vn] at h
  exact zca (fun _ h=>h) h
 ·exact xo
theorem zpX (u:Wo):Lang (kx (jK [A,B])) u ↔ Lang (kx (jY [kx A,kx B])) u:=by
 have hn:∀ e,Lang (kx e) []:=fun e=>(vn e []).2 (.inl rfl)
 constructor
 ·intro h
  rw [vn] at h
  refine zca (fun v hv=>?_) h
  rw [zat] at hv
  refine xo ((zcE _ _ v).2 ?_)
  rcases hv with hv|hv
  ·exact ⟨v,[],by simp,xo hv,hn B⟩
  ·exact ⟨[],v,by simp,hn A,xo hv⟩
 ·intro h
  rw [vn] at h
  refine zca (fun v hv=>?_) h
  rw [zcE] at hv
  obtain ⟨x,y,rfl,hx,hy⟩:=hv
  rw [vn] at hx hy
  exact zhU (zca (fun w hw=>xo ((zat A B w).2 (.inl hw))) hx) (zca (fun w hw=>xo ((zat A B w).2 (.inr hw))) hy)
variable {A B C}
structure Pair (l r:E):Prop where
 lf:Fine l
 rf:Fine r
 ln:nodes l≤4000
 rn:nodes r≤4000
 same:∀ u,Lang l u ↔ Lang r u
theorem zkJ (hA:Fine A) (hB:Fine B) (hC:Fine C) (nA:nodes A≤300) (nB:nodes B≤300) (nC:nodes C≤300):∀ (k:Nat) (l r:E),(lftE A B C)[k]?=some l→(rgtE A B C)[k]?=some r→Pair l r:=by
 have c2:∀ {a b:E},Fine a→Fine b→Fine (jY [a,b]):=fun ha hb=>zmE (by intro a h;simp at h;rcases h with rfl|rfl<;>assumption) (by simp) (by simp)
 have a2:∀ {a b:E},Fine a→Fine b→Fine (jK [a,b]):=fun ha hb=>zhT (by intro a h;simp at h;rcases h with rfl|rfl<;>assumption) (by simp) (by simp)
 have a3:Fine (jK [A,B,C]):=zhT (by intro a h;simp at h;rcases h with rfl|rfl|rfl<;>assumption) (by simp) (by simp)
 have s:∀ {a:E},Fine a→Fine (kx a):=fun ha=>zes ha (.inl ⟨rfl,rfl⟩)
 have sA:=s hA
 intro k l r hl hr
 match k with
 | 0=>cases hl;cases hr;exact ⟨c2 (c2 hA hB) hC,c2 hA (c2 hB hC),by simp [jY,nodes,nodesF];omega,by simp [jY,nodes,nodesF];omega,zqE A B C⟩
 | 1=>cases hl;cases hr;exact ⟨a2 (a2 hA hB) hC,a3,by simp [jK,nodes,nodesF];omega,by simp [jK,nodes,nodesF];omega,zqF A B C⟩
 | 2=>cases hl;cases hr;exact ⟨a2 hA hB,a2 hB hA,by simp [jK,nodes,nodesF];omega,by simp [jK,nodes,nodesF];omega,zqG A B⟩
 | 3=>cases hl;cases hr;exact ⟨c2 hA (a2 hB hC),a2 (c2 hA hB) (c2 hA hC),by simp [jK,jY,nodes,nodesF];omega,by simp [jK,jY,nodes,nodesF];omega,zqH A B C⟩
 | 4=>cases hl;cases hr;exact ⟨sA,a2 fine_emp (c2 hA sA),by simp [kx,vm,nodes,nodesF];omega,by simp [kx,vm,jK,jY,empE,nodes,nodesF];omega,zqI A⟩
 | 5=>cases hl;cases hr;exact ⟨zes hA (.inr (.inl ⟨rfl,rfl⟩)),c2 hA sA,by simp [vm,nodes,nodesF];omega,by simp [kx,vm,jY,nodes,nodesF];omega,zpW A⟩
 | 6=>cases hl;cases hr;exact ⟨zes hA (.inr (.inr ⟨rfl,rfl⟩)),a2 hA fine_emp,by simp [vm,nodes,nodesF];omega,by simp [empE,jK,nodes,nodesF];omega,zqJ A⟩
 | 7=>cases hl;cases hr;exact ⟨c2 hA fine_emp,hA,by simp [empE,jY,nodes,nodesF];omega,by omega,zqK A⟩
 | 8=>cases hl;cases hr;exact ⟨s sA,sA,by simp [kx,vm,nodes,nodesF];omega,by simp [kx,vm,nodes,nodesF];omega,zqL A⟩
 | 9=>cases hl;cases hr;exact ⟨s (a2 hA hB),s (c2 sA (s hB)),by simp [kx,vm,jK,nodes,nodesF];omega,by simp [kx,vm,jY,nodes,nodesF];omega,zpX A B⟩
 | k+10=>simp [lftE] at hl
end Go.Proofs.YtlnijcffanjieaaGreatDoor
