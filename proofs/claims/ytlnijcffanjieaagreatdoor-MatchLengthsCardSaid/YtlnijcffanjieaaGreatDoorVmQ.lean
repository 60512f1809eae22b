/- Seat 7: Ends and Next, known; Trees of bodies, as they are told of the program's code; Seat 7: slices.Sorted of slices.Values: what it hands back; and what follows from it. Conditions: none but those that each theorem names. -/
import Derived.Test.YtlnijcffanjieaaGreatDoorProg
import Derived.KernelRfl
import Derived.Maps.AppendAt
import Derived.RangeFuncGives
import Derived.Sort.OwnSortedInts
import Derived.Shelf.Sort.Plain
import Derived.Test.YtlnijcffanjieaaGreatDoorVmD
import Derived.Test.YtlnijcffanjieaaGreatDoorVmF
import Derived.Test.YtlnijcffanjieaaGreatDoorVmI
import Derived.Test.YtlnijcffanjieaaGreatDoorVmK
import Derived.Test.YtlnijcffanjieaaGreatDoorVmL
import Derived.Test.YtlnijcffanjieaaGreatDoorVmM
import Derived.Test.YtlnijcffanjieaaGreatDoorVmP
namespace Go.Proofs.YtlnijcffanjieaaGreatDoor
set_option maxRecDepth 10000
open Go Go.Vm Go.Vm.Sx
open Classical in
noncomputable def hkX {α:Type} (en:α->List V) (Q:α->Prop) (F:α->V) (args:List V):Option V :=
 if h:∃ a,Q a/\args=en a then some (F (Classical.choose h)) else none
theorem kM {α:Type} {en:α->List V} {Q:α->Prop} {F:α->V} (hi:∀ a b,Q a->Q b->en a=en b->F a=F b) {a:α} (h:Q a):hkX en Q F (en a)=some (F a):=by
 unfold hkX;have hex:∃ b,Q b/\en a=en b:=⟨a,h,rfl⟩;rw [dif_pos hex];have hs:=zBf hex;rw [hi _ _ hs.1 h hs.2.symm]
theorem yo {α:Type} {en:α->List V} {Q:α->Prop} {F:α->V} {args:List V} {v:V} (h:hkX en Q F args=some v):∃ a,Q a/\args=en a/\v=F a:=by
 unfold hkX at h;split at h
 ·rename_i hex;have hs:=zBf hex;exact ⟨_,hs.1,hs.2,(zA1 h).symm⟩
 ·cases h
def GdE (e:E):Prop:=Wf e/\Can e
def zc7 (e:E):List V:=[enc e]
def znU (p:St4×Nat):List V:=[stV p.1,.int .u8 (p.2:Nat)]
def zjM (p:St4×St4):List V:=[stV p.1,stV p.2]
def Q17 (p:St4×Nat):Prop:=RgS p.1/\p.2<256
def zpc (p:St4×St4):Prop:=RgS p.1/\RgS p.2
theorem zgq {s t:St4} (h:stV s=stV t):s=t:=by
 obtain ⟨a,b,c,d⟩:=s;obtain ⟨a',b',c',d'⟩:=t;simp only [stV,V.agg.injEq,zAm,V.int.injEq,zAa,zBF] at h;obtain ⟨rfl,rfl,rfl,rfl⟩:=h;rfl
theorem i11:∀ a b,GdE a->GdE b->zc7 a=zc7 b->V.bool (zaR a)=V.bool (zaR b):=fun a b ha hb h=>by
 rw [enc_inj a b ha.2 hb.2 (List.cons.inj h).1]
theorem i17:∀ a b,Q17 a->Q17 b->znU a=znU b->V.bool (wb a.1 a.2)=V.bool (wb b.1 b.2):=fun a b _ _ h=>by
 simp only [znU,zAm,V.int.injEq,zAa,zBF] at h;have h1:=zgq h.1;have h2:a.2=b.2:=by omega
 rw [h1,h2]
theorem i226:∀ a b,zpc a->zpc b->zjM a=zjM b->stV (xV a.1 a.2)=stV (xV b.1 b.2):=fun a b _ _ h=>by
 simp only [zjM,zAm,zBF] at h;rw [zgq h.1,zgq h.2]
noncomputable def glb:Gl:={ g:=glw,uq:=uqw,hk:=fun f args=>if Nat.beq f 11 then hkX zc7 GdE (fun e=>.bool (zaR e)) args else if Nat.beq f 17 then hkX znU Q17 (fun p=>.bool (wb p.1 p.2)) args else if Nat.beq f 226 then hkX zjM zpc (fun p=>stV (xV p.1 p.2)) args else none }
def gl0:Gl:={ g:=glw,hk:=fun _ _=>none }
instance : NoU gl0:=⟨fun _=>rfl,fun _ _ _ _=>rfl⟩
theorem top_glw:∀ g off v,glw g off=some v->v.top=0:=by
 intro g off v h';unfold glw zlm at h';split at h'<;>simp only [zAA,reduceCtorEq] at h';subst h';rfl
theorem GL0:GL gl0:=⟨top_glw,fun _ _ _=>rfl⟩
theorem hk0:HkOk Tryz.prog gl0:=⟨fun f args v h=>(by cases h),fun n f args H out H' h=>(by cases h),fun _ _ _ _ h=>(by cases h)⟩
theorem zjN (s:St4):(stV s).top=0:=rfl
theorem hkb:HkOk Tryz.prog glb:=by
 refine ⟨fun f args v h d H g w cargs lc h1 h2 h3=>?_,fun n f args H out H' h=>(by cases h),itOk⟩
 simp only [glb] at h;split at h
 ·rename_i hf;obtain rfl:f=11:=zAQ hf;obtain ⟨e,hg,rfl,rfl⟩:=yo h;obtain ⟨k,hk⟩:=Sx.Ev.run (xs:=[enc e]) (zo9 GL0 e hg.1) ⟨[],[]⟩;exact yx mixed numOk primOk hk0 (hk k (zAR _)) (by simp [tops,top_enc]) rfl h1 h2 h3
 ·split at h
  ·rename_i hf;obtain rfl:f=17:=zAQ hf;obtain ⟨⟨s,b⟩,hg,rfl,rfl⟩:=yo h;obtain ⟨k,hk⟩:=Sx.Ev.run (xs:=[stV s,.int .u8 (b:Nat)]) (zqB GL0 s hg.1 b hg.2) ⟨[],[]⟩;exact yx mixed numOk primOk hk0 (hk k (zAR _)) (by simp [tops,zjN,V.top]) rfl h1 h2 h3
  ·split at h
   ·rename_i hf;obtain rfl:f=226:=zAQ hf;obtain ⟨⟨s,t⟩,hg,rfl,rfl⟩:=yo h;obtain ⟨k,hk⟩:=Sx.Ev.run (xs:=[stV s,stV t]) (zpM GL0 s t hg.1 hg.2) ⟨[],[]⟩;exact yx mixed numOk primOk hk0 (hk k (zAR _)) (by simp [tops,zjN]) rfl h1 h2 h3
   ·cases h
theorem GWb:GWC glb where
 uq:=rfl
 hk2:=fun _ _ _ _=>rfl
 has:=fun s b hs hb=>kM (a:=(s,b)) i17 ⟨hs,hb⟩
 uni:=fun s t hs ht=>kM (a:=(s,t)) i226 ⟨hs,ht⟩
 chk:=fun e hw hc=>kM (a:=e) i11 ⟨hw,hc⟩
 g0:=by rfl
 hk:=fun f args h=>by
  have:∀ k,k=11\/k=17\/k=226->Nat.beq f k=false:=fun k hk=>by
   cases hb:Nat.beq f k with
   | false=>rfl
   | true =>
    have:=zAQ hb;subst this;rcases hk with rfl|rfl|rfl<;>revert h<;>decide
  simp only [glb,this 11 (.inl rfl),this 17 (.inr (.inl rfl)),this 226 (.inr (.inr rfl)),zAD,if_false]
 hkN:=fun f args h=>by
  have:∀ k,k=11\/k=17\/k=226->Nat.beq f k=false:=fun k hk=>by
   cases hb:Nat.beq f k with
   | false=>rfl
   | true =>
    have:=zAQ hb;subst this;rcases hk with rfl|rfl|rfl<;>revert h<;>decide
  simp only [glb,this 11 (.inl rfl),this 17 (.inr (.inl rfl)),this 226 (.inr (.inr rfl)),zAD,if_false]
def Q14 (p:E×Bool×List Nat):Prop:=GdE p.1/\Rg p.1/\∀ b∈p.2.2,b<256
def ziC (p:E×Bool×List Nat):List V:=[enc p.1,jo p.2.1 p.2.2]
theorem znV {nl nl':Bool} {t t':List Nat} (h:jo nl t=jo nl' t'):t=t':=by
 have:=congrArg vL h;rw [zau,zau] at this;clear h
 induction t generalizing t' with
 | nil=>cases t' with
  | nil=>rfl
  | cons a t'=>simp at this
 | cons a t ih=>cases t' with
  | nil=>simp at this
  | cons b t' =>
   simp only [zAX,zAm,V.int.injEq,zAa] at this;rw [ih this.2,show a=b by omega]
theorem i14 {F:E->List Nat->V}:∀ a b,Q14 a->Q14 b->ziC a=ziC b->F a.1 a.2.2=F b.1 b.2.2:=fun a b ha hb h=>by
 simp only [ziC,zAm,zBF] at h;rw [enc_inj _ _ ha.1.2 hb.1.2 h.1,znV h.2]
theorem zhR (e:E) (t:List Nat):(zcA e t).top=0:=by
 unfold zcA;split
 ·simp [V.top,tops,zjL,znQ]
 ·rfl
theorem zhS (e:E) (t:List Nat):(zcB e t).top=0:=by
 unfold zcB;split<;>rfl
noncomputable def gl1:Gl:={ g:=glw,hk:=fun f args=>if Nat.beq f 12 then (match args with|[]=>some (.bool true)|_=>none) else if Nat.beq f 14 then hkX ziC Q14 (fun p=>zcA p.1 p.2.2) args else if Nat.beq f 16 then hkX ziC Q14 (fun p=>zcB p.1 p.2.2) args else none }
theorem ok1:zaG Tryz.prog glw hooks1:=za7 mixed numOk primOk zkh (zkP 0) rfl rfl itOk
theorem ok2:zaG Tryz.prog glw (hooks2++hooks1):=za7 mixed numOk primOk ok1 (zmJ 0) rfl rfl itOk
theorem ok3:zaG Tryz.prog glw ((12,[],.bool true)::(hooks2++hooks1)):=za7 mixed numOk primOk ok2 (zkQ 0) rfl rfl itOk
theorem hk1:HkOk Tryz.prog gl1:=by
 refine ⟨fun f args v h d H g w cargs lc h1 h2 h3=>?_,fun n f args H out H' h=>(by cases h),fun _ _ _ _ h=>(by cases h)⟩
 simp only [gl1] at h;split at h
 ·rename_i hf;obtain rfl:f=12:=zAQ hf;split at h
  ·cases h;exact ok3.pure 12 [] (.bool true) rfl d H g w cargs lc h1 h2 h3
  ·cases h
 ·split at h
  ·rename_i hf;obtain rfl:f=14:=zAQ hf;obtain ⟨⟨e,nl,t⟩,hq,rfl,rfl⟩:=yo h;obtain ⟨H',hc⟩:=e14 GWb (nl:=nl) hq.1.1 hq.1.2 hq.2.1 hq.2.2 (zAR _);exact yx mixed numOk primOk hkb hc (by simp [tops,top_enc,zdn]) (zhR e t) h1 h2 h3
  ·split at h
   ·rename_i hf;obtain rfl:f=16:=zAQ hf;obtain ⟨⟨e,nl,t⟩,hq,rfl,rfl⟩:=yo h;obtain ⟨H',hc⟩:=e16 GWb (nl:=nl) hq.1.1 hq.1.2 hq.2.1 hq.2.2 (zAR _);exact yx mixed numOk primOk hkb hc (by simp [tops,top_enc,zdn]) (zhS e t) h1 h2 h3
   ·cases h
instance : NoU gl1:=⟨fun _=>rfl,fun _ _ _ _=>rfl⟩
end Go.Proofs.YtlnijcffanjieaaGreatDoor
namespace Go.Proofs.YtlnijcffanjieaaGreatDoor
set_option maxRecDepth 100000
open Go Go.Vm Go.Vm.Sx
end Go.Proofs.YtlnijcffanjieaaGreatDoor
namespace Go.Proofs.YtlnijcffanjieaaGreatDoor
open Go Go.Vm Go.RowKit Go.Maps Go.Sort Go.Shelf
attribute [local go_sem] Oper.semAt_some
noncomputable def apc:Code:=c1 (c2 (c1 (c2 (Tryz.f100.body.getD .skip))))
noncomputable def apAssign:Code:=c1 apc
noncomputable def apBody:Code:=c2 apc
noncomputable def zqe (fn:FuncId) (sv:Value) (Bs D:Nat) (st:LoopState) (pend:Option Code):Loop :=
 {state:=st,pending:=pend,fn,tmps:=#[.slice none 0 0,sv,.pointer (some ⟨Bs,0,none⟩),undef,.slice none 0 0,undef,sv,undef,undef,undef,undef,undef,undef],params:=#[7],assign:=apAssign,body:=apBody,defers:=D }
structure ApAt (w0:World) (fn:FuncId) (sv:Value) (Bs l D:Nat) (ss:List Int) (W:World):Prop where
 box:∃ v,W.heap[Bs]?=some (.cells #[v] 36 (0,0))/\W.ownsRow w0.heap.size 3 1 v ss.length (ss.map (Value.int .i64))/\(v=.slice none 0 0 ↔ ss=[])
 L:W.heap[l]?=some (.loop (zqe fn sv Bs D .ready none))
 K:W.heap[D]?=some (.deferred (some []))
 below:Below w0.heap.size w0 W
end Go.Proofs.YtlnijcffanjieaaGreatDoor
namespace Go.Proofs.YtlnijcffanjieaaGreatDoor
open Go Go.Shelf
end Go.Proofs.YtlnijcffanjieaaGreatDoor
namespace Go.Proofs.YtlnijcffanjieaaGreatDoor
open Go Go.Vm Go.RowKit Go.Maps Go.Sort Go.Shelf
attribute [local go_sem] Oper.semAt_some
end Go.Proofs.YtlnijcffanjieaaGreatDoor
namespace Go.Proofs.YtlnijcffanjieaaGreatDoor
open Go Go.Vm
variable {d:Nat} {H H':Hp} {g:Gh} {w w':World} {l:Vm.Loc}
end Go.Proofs.YtlnijcffanjieaaGreatDoor
namespace Go.Proofs.YtlnijcffanjieaaGreatDoor
set_option maxRecDepth 10000
open Go Go.Vm Go.Vm.Sx
structure Co where
 hd:E
 ht:Bool
 tl:E
variable {gl:Gl} [NoU gl]
def smS (n:Int) (c:Co):Int:=IntKind.i64.wrap (IntKind.i64.wrap (n+sizeM c.hd 0)+sizeM c.tl 0)
end Go.Proofs.YtlnijcffanjieaaGreatDoor
namespace Go.Proofs.YtlnijcffanjieaaGreatDoor
set_option maxRecDepth 100000
open Go Go.Vm
def ziD (cx:Cx) (H:Hp) (lk:List (Nat×Nat)) (df:List (V×List V)) (env:List V):Option V->Option (List V)->Option (OR×St)
 | some fv,some l=>je lk df env (cx.callV (clr fv) l H)
 | _,_=>none
theorem zhT {cx:Cx} {H:Hp} {lk:List (Nat×Nat)} {df:List (V×List V)} {env:List V} {fv:V} {l:List V}:ziD cx H lk df env (some fv) (some l)=je lk df env (cx.callV (clr fv) l H):=rfl
theorem zmK {cx:Cx} {takes:List Tmp} {dst:Option Tmp} {type:TypeId} {pos:String} {after:Array Edge} {guard:Option (Nat×Bool)} {env:List V} {H:Hp} {lk:List (Nat×Nat)} {df:List (V×List V)} {t:Tmp} {args:Array Operand} {ts:Array TypeId} :
  cx.op takes ⟨dst,.call ⟨.value (.tmp t),args,ts⟩,type,pos,after,guard⟩ env H lk df=ziD cx H lk df env (nth env t) (peeks env args.toList):=by
 simp only [Cx.op,peek];cases nth env t with
 | none=>rfl
 | some fv=>cases peeks env args.toList with
  | none=>rfl
  | some l=>simp only [ziD,je];cases cx.callV (clr fv) l H with
   | none=>rfl
   | some q=>obtain ⟨a,b⟩:=q;rfl
end Go.Proofs.YtlnijcffanjieaaGreatDoor
namespace Go.Proofs.YtlnijcffanjieaaGreatDoor
set_option maxRecDepth 100000
open Go Go.Vm
end Go.Proofs.YtlnijcffanjieaaGreatDoor
namespace Go.Proofs.YtlnijcffanjieaaGreatDoor
set_option maxRecDepth 100000
open Go Go.Vm Go.Vm.Sx
def lookH:List (Nat×(List V->Option V))->Nat->List V->Option V
 | [],_,_=>none
 | (k,g)::l,f,args=>if Nat.beq f k then g args else lookH l f args
theorem zhU {Q:Nat->List V->V->Prop}:∀ (l:List (Nat×(List V->Option V))),(∀ p∈l,∀ args v,p.2 args=some v->Q p.1 args v)->∀ {f:Nat} {args:List V} {v:V},lookH l f args=some v->Q f args v
 | [],_,f,args,v,h=>by cases h
 | (k,g)::l,hl,f,args,v,h=>by
  simp only [lookH] at h;split at h
  ·rename_i hf;obtain rfl:f=k:=zAQ hf;exact hl _ (zAL ..) _ _ h
  ·exact zhU l (fun p hp=>hl p (zAE _ hp)) h
theorem lookH_none:∀ (l:List (Nat×(List V->Option V))) {f:Nat} {args:List V},(l.map Prod.fst).any (Nat.beq f)=false->lookH l f args=none
 | [],_,_,_=>rfl
 | (k,g)::l,f,args,h=>by
  simp only [zAX,List.any_cons,zBX] at h;simp only [lookH,h.1,zAD,if_false];exact lookH_none l h.2
def enU (_:Unit):List V:=[]
def zeG (p:Ln×Ln):List V:=[lnV p.1,lnV p.2]
def zmL (p:Int×Int×Bool×List E×Ln):List V:=[.agg [.int .i64 p.1,.int .i64 p.2.1,zW p.2.2.1 (encs p.2.2.2.1)],lnV p.2.2.2.2]
def zjO (p:Int×Int×Int×Int):List V:=[.agg [.int .u64 p.1,.int .u64 p.2.1,.int .u64 p.2.2.1,.int .u64 p.2.2.2]]
def za1 (p:Bool×List E):List V:=[.agg [zW p.1 (encs p.2)]]
def zhV (p:Int×Int×Bool×List E):List V:=[.agg [.int .i64 p.1,.int .i64 p.2.1,zW p.2.2.1 (encs p.2.2.2)]]
def zjP (_:Unit):List V:=[.agg []]
def T {α:Type} (_:α):Prop:=True
noncomputable def tabN:List (Nat×(List V->Option V)) :=
  [(11,hkX zc7 GdE (fun e=>.bool (zaR e))),(74,hkX zc7 T formV),(75,hkX enU T (fun _=>lnV noL)),(77,hkX zeG T (fun p=>lnV (zes p.1 p.2))),(78,hkX zeG T (fun p=>lnV (zbo p.1 p.2))),
   (79,hkX zmL T (fun p=>lnV (xo p.1 p.2.1 p.2.2.2.2))),(292,hkX zjO T (fun _=>.snil)),(293,hkX za1 T (fun p=>zW p.1 (encs p.2))),(294,hkX za1 T (fun p=>zW p.1 (encs p.2))),(295,hkX zhV T (fun p=>zW p.2.2.1 (encs p.2.2.2))),(304,hkX zjP T (fun _=>.snil))]
noncomputable def glN:Gl:={ g:=glw,hk:=lookH tabN }
def PureA (f:Nat) (args:List V) (v:V):Prop:=(∃ k,zx Tryz.prog gl0 k f args ⟨[],[]⟩=some (.ret v,⟨[],[]⟩))/\tops args=0/\v.top=0
theorem PureA.of {f:Nat} {xs:List V} {v:V} (h:Ev Tryz.prog gl0 f (xs.map .d) [] v []) (h1:tops xs=0) (h2:v.top=0):PureA f xs v:=by
 obtain ⟨k,hk⟩:=h.run ⟨[],[]⟩;exact ⟨⟨k,hk k (zAR _)⟩,h1,h2⟩
theorem zav {α:Type} {en:α->List V} {Q:α->Prop} {F:α->V} {f:Nat} (h:∀ a,Q a->PureA f (en a) (F a)):∀ args v,hkX en Q F args=some v->PureA f args v:=fun args v hh=>by
 obtain ⟨a,hq,rfl,rfl⟩:=yo hh;exact h a hq
theorem top_formV:∀ (e:E),(formV e).top=0
 | .mk op pl s0 s1 s2 s3 text mn mx nl args=>by
  simp only [formV];cases (op == 2)<;>cases (op == 5)<;>cases (op == 6)<;>cases (op == 7)<;>simp [V.top,tops,jA,tops_encs]
theorem tabN_ok:∀ p∈tabN,∀ args v,p.2 args=some v->PureA p.1 args v:=by
 unfold tabN;refine zBO.2 ⟨zav fun (e:E) h=>PureA.of (xs:=[enc e]) (zo9 GL0 e h.1) (by simp [tops,top_enc]) rfl,?_⟩
 refine zBO.2 ⟨zav fun (e:E) h=>PureA.of (xs:=[enc e]) (zqZ GL0 (fun _=>rfl) e) (by simp [tops,top_enc]) (top_formV e),?_⟩
 refine zBO.2 ⟨zav fun (_:Unit) h=>PureA.of (xs:=[]) (zp8 GL0 (fun _=>rfl)) rfl rfl,?_⟩;refine zBO.2 ⟨zav fun (p:Ln×Ln) h=>PureA.of (xs:=[lnV p.1,lnV p.2]) (zqX GL0 (fun _=>rfl) (fun _=>rfl) p.1 p.2) rfl rfl,?_⟩;refine zBO.2 ⟨zav fun (p:Ln×Ln) h=>PureA.of (xs:=[lnV p.1,lnV p.2]) (zpb GL0 (fun _=>rfl) p.1 p.2) rfl rfl,?_⟩
 refine zBO.2 ⟨zav fun (p:Int×Int×Bool×List E×Ln) h=>PureA.of (xs:=[_,_]) (zqY GL0 (fun _=>rfl) (fun _=>rfl) p.1 p.2.1 p.2.2.1 (encs p.2.2.2.1) (tops_encs _) p.2.2.2.2) (by simp [tops,V.top,jA,tops_encs,lnV]) rfl,?_⟩
 refine zBO.2 ⟨zav fun (p:Int×Int×Int×Int) h=>PureA.of (xs:=[_]) (zp9 GL0 (fun _=>rfl) p.1 p.2.1 p.2.2.1 p.2.2.2) rfl rfl,?_⟩;refine zBO.2 ⟨zav fun (p:Bool×List E) h=>PureA.of (xs:=[_]) (zqa GL0 (fun _=>rfl) p.1 p.2) (by simp [tops,V.top,jA,tops_encs]) (by rw [jA,tops_encs]),?_⟩
 refine zBO.2 ⟨zav fun (p:Bool×List E) h=>PureA.of (xs:=[_]) (zqb GL0 (fun _=>rfl) p.1 p.2) (by simp [tops,V.top,jA,tops_encs]) (by rw [jA,tops_encs]),?_⟩
 refine zBO.2 ⟨zav fun (p:Int×Int×Bool×List E) h=>PureA.of (xs:=[_]) (zqc GL0 (fun _=>rfl) p.1 p.2.1 p.2.2.1 p.2.2.2) (by simp [tops,V.top,jA,tops_encs]) (by rw [jA,tops_encs]),?_⟩
 refine zBO.2 ⟨zav fun (_:Unit) h=>PureA.of (xs:=[.agg []]) (zqd GL0 (fun _=>rfl)) rfl rfl,?_⟩;exact fun p hp=>by cases hp
theorem hkN:HkOk Tryz.prog glN:=by
 refine ⟨fun f args v h d H g w cargs lc h1 h2 h3=>?_,fun n f args H out H' h=>(by cases h),fun _ _ _ _ h=>(by cases h)⟩
 obtain ⟨⟨k,hk⟩,ht,hv⟩:=zhU (Q:=PureA) tabN tabN_ok h;exact yx mixed numOk primOk hk0 hk ht hv h1 h2 h3
theorem zmM {f:FuncId} (h:((tabN.map Prod.fst).any (Nat.beq f))=false) (args:List V):glN.hk f args=none:=lookH_none tabN h
theorem zmN {e e':E} (h:enc e=enc e'):formV e=formV e':=by
 obtain ⟨op,pl,s0,s1,s2,s3,tx,mn,mx,nl,args⟩:=e;obtain ⟨op',pl',s0',s1',s2',s3',tx',mn',mx',nl',args'⟩:=e';simp only [enc,V.agg.injEq,zAm,V.int.injEq,V.str.injEq,zAa,zBF] at h;obtain ⟨rfl,rfl,rfl,rfl,rfl,rfl,rfl,rfl,rfl,h⟩:=h;simp only [formV,h]
theorem zcb {a b:Ln} (h:lnV a=lnV b):a=b:=by
 obtain ⟨a1,a2,a3⟩:=a;obtain ⟨b1,b2,b3⟩:=b;simp only [lnV,V.agg.injEq,zAm,V.int.injEq,V.bool.injEq,zAa,zBF] at h;obtain ⟨rfl,rfl,rfl⟩:=h;rfl
theorem zq0 {e:E} (h:GdE e):glN.hk 11 [enc e]=some (.bool (zaR e)):=kM (a:=e) i11 h
theorem zq1 (e:E):glN.hk 74 [enc e]=some (formV e):=(show hkX zc7 T formV (zc7 e)=_ from kM (en:=zc7) (a:=e) (fun _a _b _ _ h=>zmN (List.cons.inj h).1) trivial)
theorem N_75:glN.hk 75 []=some (lnV noL):=(show hkX enU T (fun _=>lnV noL) (enU ())=_ from kM (en:=enU) (a:=()) (fun _a _b _ _ _h=>rfl) trivial)
theorem zq2 (a b:Ln):glN.hk 77 [lnV a,lnV b]=some (lnV (zes a b)):=(show hkX zeG T (fun p=>lnV (zes p.1 p.2)) (zeG (a,b))=_ from kM (en:=zeG) (a:=(a,b)) (fun a b _ _ h=>by
 simp only [zeG,zAm,zBF] at h
 rw [zcb h.1,zcb h.2]) trivial)
theorem zq3 (a b:Ln):glN.hk 78 [lnV a,lnV b]=some (lnV (zbo a b)):=(show hkX zeG T (fun p=>lnV (zbo p.1 p.2)) (zeG (a,b))=_ from kM (en:=zeG) (a:=(a,b)) (fun a b _ _ h=>by
 simp only [zeG,zAm,zBF] at h
 rw [zcb h.1,zcb h.2]) trivial)
theorem zq4 (mn mx:Int) (nl:Bool) (l:List E) (a:Ln):glN.hk 79 [.agg [.int .i64 mn,.int .i64 mx,zW nl (encs l)],lnV a]=some (lnV (xo mn mx a)):=(show hkX zmL T (fun p=>lnV (xo p.1 p.2.1 p.2.2.2.2)) (zmL (mn,mx,nl,l,a))=_ from kM (en:=zmL) (a:=(mn,mx,nl,l,a)) (fun a b _ _ h=>by
 simp only [zmL,zAm,V.agg.injEq,V.int.injEq,zAa,zBF] at h
 rw [h.1.1,h.1.2.1,zcb h.2]) trivial)
theorem zqf (s0 s1 s2 s3:Int):glN.hk 292 [.agg [.int .u64 s0,.int .u64 s1,.int .u64 s2,.int .u64 s3]]=some .snil:=(show hkX zjO T (fun _=>.snil) (zjO (s0,s1,s2,s3))=_ from kM (en:=zjO) (a:=(s0,s1,s2,s3)) (fun _a _b _ _ _h=>rfl) trivial)
theorem zqg (nl:Bool) (l:List E):glN.hk 293 [.agg [zW nl (encs l)]]=some (zW nl (encs l)):=(show hkX za1 T (fun p=>zW p.1 (encs p.2)) (za1 (nl,l))=_ from kM (en:=za1) (a:=(nl,l)) (fun a b _ _ h=>by
 simp only [za1,zAm,V.agg.injEq,zBF] at h
 exact h) trivial)
theorem zqh (nl:Bool) (l:List E):glN.hk 294 [.agg [zW nl (encs l)]]=some (zW nl (encs l)):=(show hkX za1 T (fun p=>zW p.1 (encs p.2)) (za1 (nl,l))=_ from kM (en:=za1) (a:=(nl,l)) (fun a b _ _ h=>by
 simp only [za1,zAm,V.agg.injEq,zBF] at h
 exact h) trivial)
theorem zqi (mn mx:Int) (nl:Bool) (l:List E):glN.hk 295 [.agg [.int .i64 mn,.int .i64 mx,zW nl (encs l)]]=some (zW nl (encs l)):=(show hkX zhV T (fun p=>zW p.2.2.1 (encs p.2.2.2)) (zhV (mn,mx,nl,l))=_ from kM (en:=zhV) (a:=(mn,mx,nl,l)) (fun a b _ _ h=>by
 simp only [zhV,zAm,V.agg.injEq,V.int.injEq,zAa,zBF] at h
 exact h.2.2) trivial)
theorem N_304:glN.hk 304 [.agg []]=some .snil:=(show hkX zjP T (fun _=>.snil) (zjP ())=_ from kM (en:=zjP) (a:=()) (fun _a _b _ _ _h=>rfl) trivial)
theorem cN {n:Nat} (hn:1<=n) {f:Nat} {fn:Func} {body:Code} {args:List V} {v:V} (hf:Tryz.prog.funcs[f]?=some fn) (hb:fn.body=some body) (h:glN.hk f args=some v) (H:Hp):Cx.callF ⟨Tryz.prog,glN.g,zx Tryz.prog glN n,glN.uq⟩ f args H=some (.val v,H):=by
 obtain ⟨m,rfl⟩:∃ m,n=m+1:=⟨n - 1,by omega⟩
 exact z7 hf hb (xi h)
end Go.Proofs.YtlnijcffanjieaaGreatDoor
namespace Go.Proofs.YtlnijcffanjieaaGreatDoor
set_option maxRecDepth 100000
open Go Go.Vm
def lc (x:Ln):List V:=[.bool x.no,.int .i64 x.le,.int .i64 x.mo]
def zaS (l:List Ln):V:=.sl 3 (l.map lnV) .no
theorem zgr (l:List Ln):clr (zaS l)=zaS l:=rfl
theorem ag63:jG Tryz.prog 63=some true:=by kernel_rfl
theorem sz63:qc Tryz.prog 63=some 3:=by kernel_rfl
theorem uq146:uqT Tryz.prog glN.uq 146=false:=by kernel_rfl
theorem z63:∃ z,qi Tryz.prog 63=some z/\okC z=true/\z.cells.length=3/\z.cells.all (fun c=>!(locked c))=true:=by
 refine ⟨_,(show qi Tryz.prog 63=some (lnV ⟨false,0,0⟩) by kernel_rfl),rfl,rfl,rfl⟩
theorem alc63:∃ cs,(cs.length=3/\cs.all (fun c=>!(locked c))=true)/\∀ {env:List V} {H:Hp} {lk:List (Nat×Nat)} {df:List (V×List V)},zec 63 env H lk df (qi Tryz.prog 63)=some (.val (.ptr H.blks.length 0),⟨env,H.push (.cells cs 63),lk,df⟩):=by
 obtain ⟨z,h1,h2,h3,h4⟩:=z63;exact ⟨z.cells,⟨h3,h4⟩,by rw [h1];exact wU h2⟩
theorem zaw {B:List Blk} {b:Nat} {es:List (Nat×Nat)} {cs:List V} {x:Ln} {env:List V} {lk:List (Nat×Nat)} {df:List (V×List V)} (h:nth B b=some (.cells cs 63)) (h1:cs.length=3) (h2:cs.all (fun c=>!(locked c))=true):qQ Tryz.prog 63 ⟨B,es⟩ lk df (some (lnV x,env)) (some (.ptr b 0))=some (.skip,⟨env,⟨B.set b (.cells (lc x) 63),es⟩,lk,df⟩):=by
 have hl:(lnV x).laid=lc x:=rfl;rw [jF sz63 (H:=⟨B,es⟩) (b:=b) (off:=0) (cs:=cs) (ty:=63) h rfl rfl (by omega) (vq h2 (by omega)),kq (znS x),hl,zb7 (by rw [h1];rfl),Hp.set]
theorem zkR {B:List Blk} {b:Nat} {es:List (Nat×Nat)} {g:Nat->Nat->Option V} {x:Ln} (h:nth B b=some (.cells (lc x) 63)):zJ Tryz.prog ⟨B,es⟩ g 63 (.ptr b 0)=some (lnV x) :=
 wI (H:=⟨B,es⟩) ag63 sz63 h (by simp [lc])
theorem ziE {l:List Ln} {k:Nat} {x:Ln} (h:l[k]?=some x):z8 Tryz.prog 146 (zaS l) (k:Int)=some (.vp (lc x)):=by
 have hk:¬ ((k:Int)<0):=by omega
 have hn:nth (l.map lnV) k=some (lnV x):=by rw [zq,zAl,h];rfl
 simp [zaS,z8,sz63,hk,hn,lnV,V.cells,lc]
theorem ziF {H:Hp} {g:Nat->Nat->Option V} {x:Ln}:zJ Tryz.prog H g 63 (.vp (lc x))=some (lnV x):=by
 simp [zJ,wE,ag63,sz63,zcR,lc,lnV]
theorem zpd {H:Hp} {l:List Ln}:kO Tryz.prog H 146 (zaS l)=some (l.length:Int):=by simp [kO,zaS]
theorem zpe {l:List Ln} {x:Ln}:xq Tryz.prog 146 (zaS (x::l)) (some (.int .i64 1)) none=some (zaS l):=by
 simp [xq,zaS,j7,sz63]
theorem kN {env:List V} {t:Nat} {x:Ln}:jV env t (some (lnV x))=some (lnV x,env):=rfl
def fnV (f:Nat):V:=.fn (.func f) [] []
theorem znW (f:Nat):clr (fnV f)=fnV f:=rfl
structure OpN (f:Nat) (F:Ln->Ln->Ln):Prop where
 hk:∀ a b,glN.hk f [lnV a,lnV b]=some (lnV (F a b))
 fn:∃ fn body,Tryz.prog.funcs[f]?=some fn/\fn.body=some body
theorem op77:OpN 77 zes:=⟨zq2,_,_,Tryz.func77,rfl⟩
theorem op78:OpN 78 zbo:=⟨zq3,_,_,Tryz.func78,rfl⟩
theorem vN {f:Nat} {F:Ln->Ln->Ln} (h:OpN f F) {n:Nat} (hn:1<=n) (a b:Ln) (H:Hp):Cx.callV ⟨Tryz.prog,glN.g,zx Tryz.prog glN n,glN.uq⟩ (fnV f) [lnV a,lnV b] H=some (.val (lnV (F a b)),H):=by
 simp only [Cx.callV,fnV,fL_eq,zAW,zAY,zAX,zAp,wK];obtain ⟨fn,body,h1,h2⟩:=h.fn;exact cN hn h1 h2 (h.hk a b) H
theorem e76 {f:Nat} {F:Ln->Ln->Ln} (hF:OpN f F) {n:Nat} {bs:List Blk} {es:List (Nat×Nat)} {x:Ln} {l:List Ln} (hn:l.length+1<n) (hl:l.length<2 ^ 60) :
  zx Tryz.prog glN (n+1) 76 [zaS (x::l),fnV f] ⟨bs,es⟩=some (.ret (lnV (l.foldl F x)),⟨bs,es⟩):=by
 suffices hmain:go ⟨Tryz.prog,glN.g,zx Tryz.prog glN n,glN.uq⟩ n (Fx Tryz.prog Tryz.f76.results.toList fun u H1=>u=lnV (l.foldl F x)/\∃ ls,H1=⟨bs++ls,[]⟩) [.c (Tryz.f76.body.getD .skip)] .normal ⟨[zaS (x::l),fnV f]++List.replicate 22 (.tup []),⟨bs,[]⟩,[],[]⟩ by
  obtain ⟨u,H1,h1,rfl,ls,rfl⟩:=kR (gl:=glN) (f:=76) (bs:=bs) (es:=es) (args:=[zaS (x::l),fnV f]) (n:=n) (zmM rfl _) (fun H=>rfl) Tryz.func76 rfl hmain;rw [h1];exact congrArg some (congrArg (Prod.mk _) (qq (zAU _)))
 obtain ⟨cz,⟨hz1,hz2⟩,hz3⟩:=alc63;simp only [Tryz.f76,zA8,zd];refine zc (tk:=[]) (by kernel_rfl) ?_
 simp only [zi,go_os_nil,zd,z9,opQ_val,zl,qg,zAY,zAW,zAI,zAJ,List.replicate,hz3]
 have hs1:∀ env,qQ Tryz.prog 63 ⟨bs++[.cells cz 63,.cells cz 63],[]⟩ [] [] (some (lnV x,env)) (some (.ptr (bs.length+1) 0))=some (.skip,⟨env,⟨bs++[.cells cz 63,.cells (lc x) 63],[]⟩,[],[]⟩):=fun env=>by
  rw [zaw (by rw [show nth (bs++[Blk.cells cz 63,Blk.cells cz 63]) (bs.length+1)=Hp.get ⟨bs++[Blk.cells cz 63,Blk.cells cz 63],[]⟩ (bs.length+1) from rfl,Vm.get_at];rfl) hz1 hz2]
  rw [zBH _ _ (by omega)]
  simp
 refine zc (tk:=[]) (by kernel_rfl) ?_
 simp only [zi,go_os_nil,zd,zk,zt,z9,zw,qh,peek,ze,ofVal,zb,opQ_val,opQ_skip,zl,zp,yL,zAB,zAC,wv,qg,zAi,zAS,List.length_nil,zAT,zAb,zAY,zAW,zf,zm,zAI,zAJ,zgr,wv,show z8 Tryz.prog 146 (zaS (x::l)) 0=some (.vp (lc x)) from ziE (k:=0) rfl,ziF,wK,hz3,kN,hs1]
 refine zc (tk:=[]) (by kernel_rfl) ?_
 simp only [zi,go_os_nil,qb,zk,kF,peek,ofVal,zb,opQ_val,zl,zAB,zAC,zf,zm,zAI,zAJ,zgr,Sx.op_slice (cx:=⟨Tryz.prog,glN.g,zx Tryz.prog glN n,glN.uq⟩) uq146,peekO,zpe,zpd]
 refine xI (fun m s=>∃ k env B,m+k=l.length/\s=⟨env,⟨B,[]⟩,[],[]⟩/\env.length=24/\nth env 1=some (fnV f)/\nth env 4=some (.ptr bs.length 0)/\nth env 5=some (.ptr (bs.length+1) 0)/\nth env 12=some (zaS l)/\nth env 13=some (.int .i64 l.length)/\nth env 14=some (.int .i64 (k:Nat))/\(∃ ls,B=bs++ls)/\nth B bs.length=some (.cells cz 63)/\nth B (bs.length+1)=some (.cells (lc ((l.take k).foldl F x)) 63)) l.length (by omega) ⟨0,_,_,rfl,rfl,rfl,rfl,rfl,rfl,rfl,rfl,rfl,⟨_,rfl⟩,?_,?_⟩ ?_
 ·exact Vm.get_at0 (es:=[])
 ·exact Vm.get_at (es:=[]) (k:=1)
 rintro m s ⟨k,env,B,hmk,rfl,hel,e1,e4,e5,e12,e13,e14,⟨ls,hB⟩,n0,n1⟩;have hBl:bs.length+1<B.length:=wk (H:=⟨B,[]⟩) n1;simp only [zd];refine zc (tk:=[]) (by kernel_rfl) ?_
 simp only [zi,go_os_nil,zd,go_skip,qb,zA,peek,zb,opQ_val,zl,zv,zh,zG,zK,if_true,za,Nat.reduceLT,if_true,e13,e14,hel,vQ]
 by_cases hk:k<l.length
 ·refine .inl ⟨by simp;omega,?_⟩
  obtain ⟨y,hy⟩:∃ y,l[k]?=some y:=⟨l[k],by simp [hk]⟩
  have htk:l.take (k+1)=l.take k++[y]:=by rw [List.take_add_one,hy];rfl
  generalize hA:(l.take k).foldl F x=A at n1;have hs2:∀ env,qQ Tryz.prog 63 ⟨B++[.cells cz 63],[]⟩ [] [] (some (lnV y,env)) (some (.ptr B.length 0))=some (.skip,⟨env,⟨B++[.cells (lc y) 63],[]⟩,[],[]⟩):=fun env=>by
   rw [zaw (B:=B++[Blk.cells cz 63]) (b:=B.length) (Vm.get_at0 (bs:=B) (ls:=[Blk.cells cz 63]) (es:=[])) hz1 hz2,zBH _ _ (by omega)]
   simp
  have n1':nth (B++[Blk.cells (lc y) 63]) (bs.length+1)=some (.cells (lc A) 63):=(Vm.get_old (es:=[]) hBl).trans n1;have n2':nth (B++[Blk.cells (lc y) 63]) B.length=some (.cells (lc y) 63):=Vm.get_at0 (es:=[])
  have hs3:∀ env,qQ Tryz.prog 63 ⟨B++[.cells (lc y) 63],[]⟩ [] [] (some (lnV (F A y),env)) (some (.ptr (bs.length+1) 0))=some (.skip,⟨env,⟨(B++[Blk.cells (lc y) 63]).set (bs.length+1) (Blk.cells (lc (F A y)) 63),[]⟩,[],[]⟩):=fun env=>zaw n1' rfl rfl;have hv:=vN hF (n:=n) (by omega) A y ⟨B++[Blk.cells (lc y) 63],[]⟩
  try simp only [go_skip,zd,qb]
  refine zc (tk:=[]) (by kernel_rfl) ?_
  simp only [zi,go_os_nil,zt,z9,zw,qh,Nat.reduceEqDiff,peek,ze,zb,opQ_val,opQ_skip,zl,zv,zp,yL,zAB,zAC,wv,qg,if_true,za,zAN,Nat.reduceLT,if_true,if_false,e12,e14,hel,zgr,wv,ziE hy,ziF,wK,hz3,kN,hs2]
  refine zc (tk:=[]) (by kernel_rfl) ?_
  simp only [zi,go_os_nil,jX,zk,zt,zw,Nat.reduceEqDiff,peeks,zO,peek,ze,zb,opQ_val,opQ_skip,zl,zp,zAB,zAC,je,if_true,za,zAN,Nat.reduceLT,if_true,if_false,e1,e5,hel,znW,zkR n1',zkR n2',wK,zmK,zhT,hv,kN,hs3]
  try simp only [jX,zbi]
  refine zc (tk:=[]) (by kernel_rfl) ?_
  simp only [zi,go_os_nil,zk,zA,Nat.reduceEqDiff,peek,ofVal,zb,opQ_val,zl,zv,if_true,za,zAN,Nat.reduceLT,if_true,if_false,e14,hel,jy (show k<2 ^ 60 by omega),zD,thn_normal]
  refine ⟨m - 1,by omega,k+1,_,_,by omega,rfl,?_,?_,?_,?_,?_,?_,?_,?_,?_,?_⟩
  ·simp [hel]
  ·simp [za,e1]
  ·simp [za,e4]
  ·simp [za,e5]
  ·simp [za,e12]
  ·simp [za,e13]
  ·simp [za,hel]
  ·rw [hB,zAb,zBH _ _ (by omega)]
   exact ⟨_,rfl⟩
  ·rw [qf (by omega)]
   exact (Vm.get_old (es:=[]) (by omega)).trans n0
  ·rw [qz (by simp;omega),htk,List.foldl_append,hA];rfl
 ·refine .inr ⟨by simp;omega,?_⟩
  obtain rfl:k=l.length:=by omega
  rw [zBc] at n1;simp only [xH,wT,wj,zD,thn_exit,zd,zBS,if_true,zD];have hs4:∀ env,qQ Tryz.prog 63 ⟨B,[]⟩ [] [] (some (lnV (l.foldl F x),env)) (some (.ptr bs.length 0))=some (.skip,⟨env,⟨B.set bs.length (Blk.cells (lc (l.foldl F x)) 63),[]⟩,[],[]⟩):=fun env=>zaw n0 hz1 hz2;refine zc (tk:=[]) (by kernel_rfl) ?_
  simp only [zi,go_os_nil,zt,zw,Nat.reduceEqDiff,peek,ze,zb,opQ_val,opQ_skip,zl,zp,zAB,zAC,if_true,za,zAN,Nat.reduceLT,if_true,if_false,e4,e5,hel,zkR n1,wK,kN,hs4]
  simp only [go_ret,zD,Fx]
  have hld:∀ g,zJ Tryz.prog ⟨B.set bs.length (Blk.cells (lc (l.foldl F x)) 63),[]⟩ g 63 (.ptr bs.length 0)=some (lnV (l.foldl F x)):=fun g=>zkR (qz (by omega))
  refine ⟨trivial,[lnV (l.foldl F x)],?_,rfl,ls.set 0 (Blk.cells (lc (l.foldl F x)) 63),?_⟩
  ·simp [zM,za,e4,hld,wK]
  ·rw [hB,zBH _ _ (by omega),Nat.sub_self]
end Go.Proofs.YtlnijcffanjieaaGreatDoor
namespace Go.Proofs.YtlnijcffanjieaaGreatDoor
open Go Go.Vm
theorem goEnds_gt:∀ (t:List Nat) (w:Wd) (i x:Nat),x∈goEnds w i t->i<x
 | [],_,_,_,h=>by simp [goEnds] at h
 | b::t,w,i,x,h=>by
  simp only [goEnds,zAt] at h;rcases h with h|h
  ·split at h
   ·simp at h;omega
   ·cases h
  ·have:=goEnds_gt t _ _ _ h;omega
theorem goEnds_mem:∀ (t:List Nat) (w:Wd) (i k:Nat),(i+k+1)∈goEnds w i t ↔ ∃ b,t[k]?=some b/\(stW (runE w i (t.take k)) (i+k == 0) b).2=true
 | [],_,_,_=>by simp [goEnds]
 | b::t,w,i,0=>by
  simp only [goEnds,zAt,List.take_zero,runE,zAv,zAn,zAA,exists_eq_left'];constructor
  ·rintro (h|h)
   ·split at h
    ·assumption
    ·cases h
   ·have:=goEnds_gt t _ _ _ h;omega
  ·intro h;rw [if_pos h];exact .inl (by simp)
 | b::t,w,i,k+1=>by
  have ih:=goEnds_mem t (stW w (i == 0) b).1 (i+1) k;have e1:i+1+k+1=i+(k+1)+1:=by omega
  have e2:i+1+k=i+(k+1):=by omega
  rw [e1,e2] at ih;simp only [goEnds,zAt,List.take_succ_cons,runE,zBI];rw [<- ih];constructor
  ·rintro (h|h)
   ·split at h
    ·simp at h
    ·cases h
   ·exact h
  ·exact .inr
theorem goEnds_len:∀ (t:List Nat) (w:Wd) (i:Nat),(goEnds w i t).length<=t.length
 | [],_,_=>by simp [goEnds]
 | b::t,w,i=>by
  have:=goEnds_len t (stW w (i == 0) b).1 (i+1);simp only [goEnds,zAi,zAS];split<;>simp<;>omega
theorem zmO (w:Wd) (t:List Nat):(ym w t).length<=t.length+1:=by
 have:=goEnds_len t w 0;simp only [ym,zAi];split<;>simp<;>omega
theorem zhW (e:E) (t:List Nat):(vO e t).length<=t.length+1:=by
 unfold vO;split
 ·exact zmO ..
 ·simp
theorem zkS (w:Wd) (t:List Nat):0∈ym w t ↔ emW w=true:=by
 simp only [ym,zAt];constructor
 ·rintro (h|h)
  ·split at h
   ·assumption
   ·cases h
  ·have:=goEnds_gt _ _ _ _ h;omega
 ·intro h;rw [if_pos h];exact .inl (by simp)
theorem zkT (w:Wd) (t:List Nat) (k:Nat):(k+1)∈ym w t ↔ ∃ b,t[k]?=some b/\(stW (runE w 0 (t.take k)) (k == 0) b).2=true:=by
 have:=goEnds_mem t w 0 k;rw [zAT] at this;rw [<- this];simp only [ym,zAt];constructor
 ·rintro (h|h)
  ·split at h
   ·simp at h
   ·cases h
  ·exact h
 ·exact .inr
mutual
def Dead:Wd->Prop
 | .non=>True
 | .one _ m=>m=false
 | .both a b _ la=>Dead a/\Dead b/\la=false
 | .alt l _ la=>Deads l/\la=false
 | .rep w _ _=>Dead w
def Deads:List Wd->Prop
 | []=>True
 | w::l=>Dead w/\Deads l
end
theorem runE_app:∀ (a b:List Nat) (w:Wd) (i:Nat),runE w i (a++b)=runE (runE w i a) (i+a.length) b
 | [],b,w,i=>rfl
 | x::a,b,w,i=>by
  simp only [zAY,runE,zAS];rw [runE_app a b,show i+1+a.length=i+(a.length+1) by omega]
end Go.Proofs.YtlnijcffanjieaaGreatDoor
namespace Go.Proofs.YtlnijcffanjieaaGreatDoor
open Go Go.Vm
abbrev Wo:=List Nat
inductive Plus (L:Wo->Prop):Wo->Prop
 |one {u:Wo}:L u->Plus L u
 |more {u v:Wo}:L u->Plus L v->Plus L (u++v)
theorem Plus.app {L:Wo->Prop} {u v:Wo} (h:Plus L u) (k:Plus L v):Plus L (u++v):=by
 induction h with
 | one h=>exact .more h k
 | more h _ ih=>rw [zAb];exact .more h ih
theorem Plus.mono {L M:Wo->Prop} {u:Wo} (hm:∀ u,L u->M u) (h:Plus L u):Plus M u:=by
 induction h with
 | one h=>exact .one (hm _ h)
 | more h _ ih=>exact .more (hm _ h) ih
theorem Plus.nil {L:Wo->Prop} {u:Wo} (h:Plus L u) (hu:u=[]):L []:=by
 induction h with
 | one h=>rw [hu] at h;exact h
 | more h _ ih=>rw [List.append_eq_nil_iff] at hu;rw [<- hu.1];exact h
mutual
def LW:Wd->Wo->Prop
 | .non=>fun u=>u=[]
 | .one s _=>fun u=>∃ c,u=[c]/\wb s c=true
 | .both a b _ _=>fun u=>∃ x y,u=x++y/\LW a x/\LW b y
 | .alt l _ _=>LWs l
 | .rep w lp nl=>fun u=>(nl=true/\u=[])\/(if lp then Plus (LW w) u else LW w u)
def LWs:List Wd->Wo->Prop
 | []=>fun _=>False
 | w::l=>fun u=>LW w u\/LWs l u
end
mutual
def OkW:Wd->Prop
 | .non=>True
 | .one s _=>∃ c,wb s c=true
 | .both a b nl _=>OkW a/\OkW b/\nl=(emW a && emW b)
 | .alt l nl _=>OkWs l/\l≠[]/\nl=l.any emW
 | .rep w _ nl=>OkW w/\(emW w=true->nl=true)
def OkWs:List Wd->Prop
 | []=>True
 | w::l=>OkW w/\OkWs l
end
mutual
theorem em_LW:∀ {w:Wd},OkW w->(emW w=true ↔ LW w [])
 | .non,_=>by simp [emW,LW]
 | .one s m,_=>by simp [emW,LW]
 | .both a b nl la,h=>by
  have ha:=em_LW h.1;have hb:=em_LW h.2.1;rw [show emW (.both a b nl la)=nl from rfl,h.2.2,zAF,ha,hb];constructor
  ·rintro ⟨h1,h2⟩;exact ⟨[],[],rfl,h1,h2⟩
  ·rintro ⟨x,y,hxy,h1,h2⟩;obtain ⟨rfl,rfl⟩:=List.append_eq_nil_iff.1 hxy.symm;exact ⟨h1,h2⟩
 | .alt l nl la,h=>by
  rw [show emW (.alt l nl la)=nl from rfl,h.2.2];exact ems_LW h.1
 | .rep w lp nl,h=>by
  have hw:=em_LW h.1;rw [show emW (.rep w lp nl)=nl from rfl];constructor
  ·exact fun h=>.inl ⟨h,rfl⟩
  ·rintro (h1|h1)
   ·exact h1.1
   ·refine h.2 (hw.2 ?_);split at h1
    ·exact h1.nil rfl
    ·exact h1
theorem ems_LW:∀ {l:List Wd},OkWs l->(l.any emW=true ↔ LWs l [])
 | [],_=>by simp [LWs]
 | w::l,h=>by
  have h1:=em_LW h.1;have h2:=ems_LW h.2;simp only [List.any_cons,zAZ,LWs,h1,h2]
end
mutual
theorem some_LW:∀ {w:Wd},OkW w->∃ u,LW w u
 | .non,_=>⟨[],by simp [LW]⟩
 | .one s m,h=>by
  obtain ⟨c,hc⟩:=h;exact ⟨[c],c,rfl,hc⟩
 | .both a b nl la,h=>by
  obtain ⟨x,hx⟩:=some_LW h.1;obtain ⟨y,hy⟩:=some_LW h.2.1;exact ⟨x++y,x,y,rfl,hx,hy⟩
 | .alt l nl la,h=>someS_LW h.1 h.2.1
 | .rep w lp nl,h=>by
  obtain ⟨x,hx⟩:=some_LW h.1;refine ⟨x,.inr ?_⟩;cases lp with
  | true=>exact .one hx
  | false=>exact hx
theorem someS_LW:∀ {l:List Wd},OkWs l->l≠[]->∃ u,LWs l u
 | [],_,h=>(h rfl).elim
 | w::l,h,_=>by
  obtain ⟨x,hx⟩:=some_LW h.1;exact ⟨x,.inl hx⟩
end
theorem zpf (w:Wd) (bg:Bool) (c:Nat):emW (stW w bg c).1=emW w:=by cases w<;>simp only [stW,emW]
theorem st_en:∀ (w:Wd) (bg:Bool) (c:Nat),(stW w bg c).2=enW (stW w bg c).1
 | .non,_,_=>by simp only [stW,enW]
 | .one _ _,_,_=>by simp only [stW,enW]
 | .both _ _ _ _,_,_=>by simp only [stW,enW]
 | .alt _ _ _,_,_=>by simp only [stW,enW]
 | .rep w lp n,bg,c=>by simp only [stW,enW];exact st_en w _ c
def rn (w:Wd) (bg:Nat->Bool) (t:Nat->Nat):Nat->Wd
 | 0=>w
 | n+1=>(stW (rn w bg t n) (bg n) (t n)).1
theorem zjQ (w:Wd) (bg:Nat->Bool) (t:Nat->Nat):∀ n,emW (rn w bg t n)=emW w
 | 0=>rfl
 | n+1=>by rw [rn,zpf,zjQ w bg t n]
def sg (t:Nat->Nat) (i n:Nat):Wo:=(List.range' i (n - i)).map t
theorem zax (t:Nat->Nat) (i n:Nat):(sg t i n).length=n - i:=by simp [sg]
theorem xO (t:Nat->Nat) (n:Nat):sg t n n=[]:=by simp [sg]
theorem xp (t:Nat->Nat) {i j n:Nat} (h1:i<=j) (h2:j<=n):sg t i n=sg t i j++sg t j n:=by
 unfold sg;rw [<- List.map_append];have:List.range' i (n - i)=List.range' i (j - i)++List.range' j (n - j):=by
  have h:=List.range'_append_1 (s:=i) (m:=j - i) (n:=n - j);rw [show i+(j - i)=j by omega,show j - i+(n - j)=n - i by omega] at h
  exact h.symm
 rw [this]
theorem zgs (t:Nat->Nat) {i n:Nat} (h:i<=n):sg t i (n+1)=sg t i n++[t n]:=by
 rw [xp t h (Nat.le_succ n)]
 congr 1
 simp [sg]
theorem zgt {t:Nat->Nat} {i n:Nat} {x y:Wo} (h:i<=n) (hx:sg t i n=x++y):∃ j,i<=j/\j<=n/\x=sg t i j/\y=sg t j n:=by
 have hl:=congrArg List.length hx;rw [zax,zAi] at hl;have h1:i<=i+x.length:=by omega
 have h2:i+x.length<=n:=by omega
 have hs:=xp t h1 h2;rw [hx] at hs;have:=List.append_inj hs (by rw [zax];omega)
 exact ⟨i+x.length,h1,h2,this.1,this.2⟩
def Acc (L:Wo->Prop) (bg:Nat->Bool) (t:Nat->Nat) (n:Nat):Prop:=∃ i,i<n/\bg i=true/\L (sg t i n)
def bgB (a:Wd) (bg:Nat->Bool) (t:Nat->Nat) (i:Nat):Bool:=bg i && emW a || enW (rn a bg t i)
theorem zgu (a b:Wd) (nl la:Bool) (bg:Nat->Bool) (t:Nat->Nat):∀ n,∃ la',rn (.both a b nl la) bg t n=.both (rn a bg t n) (rn b (bgB a bg t) t n) nl la'
 | 0=>⟨la,rfl⟩
 | n+1=>by
  obtain ⟨la',h⟩:=zgu a b nl la bg t n;simp only [rn,h,stW,zjQ,bgB];exact ⟨_,rfl⟩
theorem znX (a b:Wd) (nl la:Bool) (bg:Nat->Bool) (t:Nat->Nat) (n:Nat):enW (rn (.both a b nl la) bg t (n+1))=(enW (rn b (bgB a bg t) t (n+1)) || enW (rn a bg t (n+1)) && emW b):=by
 obtain ⟨la',h⟩:=zgu a b nl la bg t n;simp only [rn,h,stW,zjQ,bgB,enW,st_en]
theorem ziG (l:List Wd) (nl la:Bool) (bg:Nat->Bool) (t:Nat->Nat):∀ n,∃ la',rn (.alt l nl la) bg t n=.alt (l.map fun w=>rn w bg t n) nl la'
 | 0=>⟨la,by simp [rn]⟩
 | n+1=>by
  obtain ⟨la',h⟩:=ziG l nl la bg t n;simp only [rn,h,stW,stWs_1,List.map_map];exact ⟨_,rfl⟩
theorem any_stWs:∀ (l:List Wd) (bg:Bool) (c:Nat),(stWs l bg c).2=l.any fun w=>(stW w bg c).2
 | [],_,_=>rfl
 | w::l,bg,c=>by simp only [stWs,List.any_cons,any_stWs l]
theorem zpg (l:List Wd) (nl la:Bool) (bg:Nat->Bool) (t:Nat->Nat) (n:Nat):enW (rn (.alt l nl la) bg t (n+1))=l.any fun w=>enW (rn w bg t (n+1)):=by
 obtain ⟨la',h⟩:=ziG l nl la bg t n;simp only [rn,h,stW,any_stWs,List.any_map,enW]
 congr 1
 funext w
 simp only [Function.comp_apply,st_en]
def bgR (w:Wd) (lp nl:Bool) (bg:Nat->Bool) (t:Nat->Nat) (i:Nat):Bool:=bg i || lp && enW (rn (.rep w lp nl) bg t i)
theorem zet (w:Wd) (lp nl:Bool) (bg:Nat->Bool) (t:Nat->Nat):∀ n,rn (.rep w lp nl) bg t n=.rep (rn w (bgR w lp nl bg t) t n) lp nl
 | 0=>rfl
 | n+1=>by
  have h:=zet w lp nl bg t n;simp only [rn,h,stW,bgR,enW]
theorem zbp (w:Wd) (lp nl:Bool) (bg:Nat->Bool) (t:Nat->Nat) (i:Nat):bgR w lp nl bg t i=(bg i || lp && enW (rn w (bgR w lp nl bg t) t i)):=by
 conv=>lhs;unfold bgR
 rw [zet];rfl
mutual
theorem en_ok7:∀ (w:Wd),OkW w->Dead w->∀ (bg:Nat->Bool) (t:Nat->Nat) (n:Nat),enW (rn w bg t n)=true ↔ Acc (LW w) bg t n
 | .non,_,_,bg,t,n=>by
  have:∀ n,rn .non bg t n=.non:=fun n=>by
   induction n with
   | zero=>rfl
   | succ n ih=>simp only [rn,ih,stW]
  rw [this];simp only [enW,zAD,false_iff];rintro ⟨i,hi,_,h⟩;have:=congrArg List.length (show sg t i n=[] from h);rw [zax,List.length_nil] at this;omega
 | .one s m,_,hd,bg,t,0=>by
  have hm:m=false:=hd;subst hm;simp only [rn,enW,zAD,false_iff];rintro ⟨i,hi,_⟩;omega
 | .one s m,_,hd,bg,t,n+1=>by
  have:∃ m',rn (.one s m) bg t n=.one s m':=by
   clear hd
   induction n with
   | zero=>exact ⟨m,rfl⟩
   | succ n ih =>
    obtain ⟨m',h⟩:=ih;simp only [rn,h,stW];exact ⟨_,rfl⟩
  obtain ⟨m',h⟩:=this;simp only [rn,h,stW,enW,zAF];constructor
  ·rintro ⟨h1,h2⟩;exact ⟨n,zBu n,h1,t n,by rw [zgs t (zAR n),xO];rfl,h2⟩
  ·rintro ⟨i,hi,h1,c,h2,h3⟩;have hl:=congrArg List.length h2;rw [zax] at hl;simp at hl;obtain rfl:i=n:=by omega
   rw [zgs t (zAR i),xO] at h2;simp at h2;rw [h2];exact ⟨h1,h3⟩
 | .both a b nl la,hok,hd,bg,t,0=>by
  have hm:la=false:=hd.2.2;subst hm;simp only [rn,enW,zAD,false_iff];rintro ⟨i,hi,_⟩;omega
 | .both a b nl la,hok,hd,bg,t,n+1=>by
  have hA:=en_ok7 a hok.1 hd.1 bg t;have hB:=en_ok7 b hok.2.1 hd.2.1 (bgB a bg t) t (n+1);have ea:=em_LW hok.1;have eb:=em_LW hok.2.1;rw [znX,zAZ,zAF,hB,hA,eb];constructor
  ·rintro (⟨i,hi,h1,h2⟩|⟨⟨i,hi,h1,h2⟩,h3⟩)
   ·simp only [bgB,zAZ,zAF] at h1;rcases h1 with ⟨h1,h4⟩|h1
    ·exact ⟨i,hi,h1,[],_,rfl,ea.1 h4,h2⟩
    ·obtain ⟨j,hj,h5,h6⟩:=(hA i).1 h1;exact ⟨j,by omega,h5,_,_,xp t (zBa hj) (zBa hi),h6,h2⟩
   ·exact ⟨i,hi,h1,_,[],(zA0 _).symm,h2,h3⟩
  ·rintro ⟨i,hi,h1,x,y,hxy,hx,hy⟩;obtain ⟨j,h2,h3,rfl,rfl⟩:=zgt (zBa hi) hxy;rcases zAg j (n+1) with h4|h4
   ·refine .inl ⟨j,h4,?_,hy⟩;simp only [bgB,zAZ,zAF];rcases zAg i j with h5|h5
    ·exact .inr ((hA j).2 ⟨i,h5,h1,hx⟩)
    ·obtain rfl:i=j:=by omega
     rw [xO] at hx;exact .inl ⟨h1,ea.2 hx⟩
   ·obtain rfl:j=n+1:=by omega
    rw [xO] at hy;exact .inr ⟨⟨i,hi,h1,hx⟩,hy⟩
 | .alt l nl la,hok,hd,bg,t,0=>by
  have hm:la=false:=hd.2;subst hm;simp only [rn,enW,zAD,false_iff];rintro ⟨i,hi,_⟩;omega
 | .alt l nl la,hok,hd,bg,t,n+1=>by
  rw [zpg];exact ens_ok7 l hok.1 hd.1 bg t (n+1)
 | .rep w lp nl,hok,hd,bg,t,n=>by
  have hA:=en_ok7 w hok.1 hd (bgR w lp nl bg t) t;have key:∀ n,enW (rn w (bgR w lp nl bg t) t n)=true ↔ Acc (LW (.rep w lp nl)) bg t n:=by
   intro n
   induction n using Nat.strongRecOn with
   | ind n ih =>
    rw [hA];constructor
    ·rintro ⟨i,hi,h1,h2⟩;rw [zbp,zAZ,zAF] at h1;rcases h1 with h1|⟨h1,h3⟩
     ·refine ⟨i,hi,h1,.inr ?_⟩;split
      ·exact .one h2
      ·exact h2
     ·obtain ⟨j,hj,h4,h5⟩:=(ih i hi).1 h3;refine ⟨j,by omega,h4,.inr ?_⟩
      rw [if_pos h1,xp t (zBa hj) (zBa hi)];rcases h5 with ⟨_,h5⟩|h5
      ·have:=congrArg List.length h5;rw [zax,List.length_nil] at this;omega
      ·rw [if_pos h1] at h5;exact h5.app (.one h2)
    ·rintro ⟨i,hi,h1,h2⟩;have hb:bgR w lp nl bg t i=true:=by rw [zbp,h1];rfl
     rcases h2 with ⟨_,h2⟩|h2
     ·have:=congrArg List.length h2;rw [zax,List.length_nil] at this;omega
     ·split at h2
      ·rename_i hlp;obtain ⟨u,hu⟩:∃ u,u=sg t i n:=⟨_,rfl⟩;rw [<- hu] at h2;clear h1
       induction h2 generalizing i with
       | one h=>exact ⟨i,hi,hb,by rw [<- hu];exact h⟩
       | more h k ih2 =>
        obtain ⟨j,g1,g2,rfl,rfl⟩:=zgt (zBa hi) hu.symm;rcases zAg j n with g3|g3
        ·refine ih2 j g3 ?_ rfl;rcases zAg i j with g4|g4
         ·rw [zbp,zAZ,zAF];exact .inr ⟨hlp,(hA j).2 ⟨i,g4,hb,h⟩⟩
         ·obtain rfl:i=j:=by omega
          exact hb
        ·obtain rfl:j=n:=by omega
         exact ⟨i,hi,hb,h⟩
      ·exact ⟨i,hi,hb,h2⟩
  rw [zet];exact key n
theorem ens_ok7:∀ (l:List Wd),OkWs l->Deads l->∀ (bg:Nat->Bool) (t:Nat->Nat) (n:Nat),(l.any fun w=>enW (rn w bg t n))=true ↔ Acc (LWs l) bg t n
 | [],_,_,bg,t,n=>by
  simp only [List.any_nil,zAD,false_iff];rintro ⟨_,_,_,h⟩;exact h
 | w::l,hok,hd,bg,t,n=>by
  have h1:=en_ok7 w hok.1 hd.1 bg t n;have h2:=ens_ok7 l hok.2 hd.2 bg t n;simp only [List.any_cons,zAZ,h1,h2];constructor
  ·rintro (⟨i,a,b,c⟩|⟨i,a,b,c⟩)
   ·exact ⟨i,a,b,.inl c⟩
   ·exact ⟨i,a,b,.inr c⟩
  ·rintro ⟨i,a,b,c|c⟩
   ·exact .inl ⟨i,a,b,c⟩
   ·exact .inr ⟨i,a,b,c⟩
end
end Go.Proofs.YtlnijcffanjieaaGreatDoor
namespace Go.Proofs.YtlnijcffanjieaaGreatDoor
open Go Go.Vm
def Nx (L:Wo->Prop) (bg:Nat->Bool) (t:Nat->Nat) (n c:Nat):Prop:=∃ i,i<=n/\bg i=true/\∃ v,L (sg t i n++c::v)
theorem zfm {a:Wo}:∀ {x y v:Wo} {c:Nat},a++c::v=x++y->(∃ v',x=a++c::v')\/∃ z,a=x++z/\y=z++c::v:=by
 intro x y v c h;rcases List.append_eq_append_iff.1 h with ⟨z,h1,h2⟩|⟨z,h1,h2⟩
 ·cases z with
  | nil=>exact .inr ⟨[],by simpa using h1.symm,by simpa using h2.symm⟩
  | cons b z =>
   simp only [zAY,zAm] at h2;exact .inl ⟨z,by rw [h1,<- h2.1]⟩
 ·exact .inr ⟨z,h1,h2⟩
mutual
theorem nx_ok7:∀ (w:Wd),OkW w->Dead w->∀ (bg:Nat->Bool) (t:Nat->Nat) (n c:Nat),wb (nxW (rn w bg t n) (bg n)) c=true ↔ Nx (LW w) bg t n c
 | .non,_,_,bg,t,n,c=>by
  have:∀ n,rn .non bg t n=.non:=fun n=>by
   induction n with
   | zero=>rfl
   | succ n ih=>simp only [rn,ih,stW]
  rw [this];simp only [nxW,xK,zAD,false_iff];rintro ⟨i,_,_,v,h⟩;have h':sg t i n++c::v=[]:=h;simp at h'
 | .one s m,_,hd,bg,t,n,c=>by
  have:∃ m',rn (.one s m) bg t n=.one s m':=by
   clear hd
   induction n with
   | zero=>exact ⟨m,rfl⟩
   | succ n ih =>
    obtain ⟨m',h⟩:=ih;simp only [rn,h,stW];exact ⟨_,rfl⟩
  obtain ⟨m',h⟩:=this;rw [h];simp only [nxW];constructor
  ·intro h1;cases hb:bg n with
   | false=>rw [hb] at h1;simp [xK] at h1
   | true =>
    rw [hb] at h1;exact ⟨n,zAR n,hb,[],c,by rw [xO];rfl,by simpa using h1⟩
  ·rintro ⟨i,hi,hb,v,c',h1,h2⟩;have hl:=congrArg List.length h1;rw [zAi,zax] at hl;simp at hl;obtain rfl:i=n:=by omega
   rw [xO] at h1;simp only [zAW,zAm] at h1;rw [hb,h1.1];exact h2
 | .both a b nl la,hok,hd,bg,t,n,c=>by
  have hA:=nx_ok7 a hok.1 hd.1 bg t n c;have hB:=nx_ok7 b hok.2.1 hd.2.1 (bgB a bg t) t n c;have hE:=en_ok7 a hok.1 hd.1 bg t;have ea:=em_LW hok.1;obtain ⟨la',h⟩:=zgu a b nl la bg t n;rw [h];simp only [nxW,zjD,zAZ,zjQ];have e1:(bg n && emW a || enW (rn a bg t n))=bgB a bg t n:=rfl
  rw [e1,hA,hB];constructor
  ·rintro (⟨i,hi,h1,v,h2⟩|⟨i,hi,h1,v,h2⟩)
   ·obtain ⟨y,hy⟩:=some_LW hok.2.1;exact ⟨i,hi,h1,v++y,_,y,by simp,h2,hy⟩
   ·simp only [bgB,zAZ,zAF] at h1;rcases h1 with ⟨h1,h4⟩|h1
    ·exact ⟨i,hi,h1,v,[],_,rfl,ea.1 h4,h2⟩
    ·obtain ⟨j,hj,h5,h6⟩:=(hE i).1 h1;refine ⟨j,by omega,h5,v,_,_,?_,h6,h2⟩
     rw [xp t (zBa hj) hi,zAb]
  ·rintro ⟨i,hi,h1,v,x,y,hxy,hx,hy⟩;rcases zfm hxy with ⟨v',rfl⟩|⟨z,h2,rfl⟩
   ·exact .inl ⟨i,hi,h1,v',hx⟩
   ·obtain ⟨j,g1,g2,rfl,rfl⟩:=zgt hi h2;refine .inr ⟨j,g2,?_,v,hy⟩;simp only [bgB,zAZ,zAF];rcases zAg i j with h5|h5
    ·exact .inr ((hE j).2 ⟨i,h5,h1,hx⟩)
    ·obtain rfl:i=j:=by omega
     rw [xO] at hx;exact .inl ⟨h1,ea.2 hx⟩
 | .alt l nl la,hok,hd,bg,t,n,c=>by
  obtain ⟨la',h⟩:=ziG l nl la bg t n;rw [h];simp only [nxW];rw [nxs_ok7 l hok.1 hd.1 bg t n c st0,xK];simp [LW]
 | .rep w lp nl,hok,hd,bg,t,n,c=>by
  have hA:=nx_ok7 w hok.1 hd (bgR w lp nl bg t) t n c;have hE:=en_ok7 w hok.1 hd (bgR w lp nl bg t) t;have hR:=en_ok7 (.rep w lp nl) hok hd bg t;rw [zet];simp only [nxW];rw [<- zbp,hA];constructor
  ·rintro ⟨i,hi,h1,v,h2⟩;rw [zbp,zAZ,zAF] at h1;rcases h1 with h1|⟨h1,h3⟩
   ·refine ⟨i,hi,h1,v,.inr ?_⟩;split
    ·exact .one h2
    ·exact h2
   ·have h3':enW (rn (.rep w lp nl) bg t i)=true:=by rw [zet];exact h3
    obtain ⟨j,hj,h4,h5⟩:=(hR i).1 h3';refine ⟨j,by omega,h4,v,.inr ?_⟩
    rw [if_pos h1,xp t (zBa hj) hi,zAb];rcases h5 with ⟨_,h5⟩|h5
    ·have:=congrArg List.length h5;rw [zax,List.length_nil] at this;omega
    ·rw [if_pos h1] at h5;exact h5.app (.one h2)
  ·rintro ⟨i,hi,h1,v,h2⟩;have hb:bgR w lp nl bg t i=true:=by rw [zbp,h1];rfl
   rcases h2 with ⟨_,h2⟩|h2
   ·simp at h2
   ·split at h2
    ·rename_i hlp;obtain ⟨u,hu⟩:∃ u,u=sg t i n++c::v:=⟨_,rfl⟩;rw [<- hu] at h2;clear h1
     induction h2 generalizing i with
     | one h=>exact ⟨i,hi,hb,v,by rw [<- hu];exact h⟩
     | more h k ih2 =>
      rcases zfm hu.symm with ⟨v',rfl⟩|⟨z,h2,rfl⟩
      ·exact ⟨i,hi,hb,v',h⟩
      ·obtain ⟨j,g1,g2,rfl,rfl⟩:=zgt hi h2;refine ih2 j g2 ?_ rfl;rcases zAg i j with g4|g4
       ·rw [zbp,zAZ,zAF];exact .inr ⟨hlp,(hE j).2 ⟨i,g4,hb,h⟩⟩
       ·obtain rfl:i=j:=by omega
        exact hb
    ·exact ⟨i,hi,hb,v,h2⟩
theorem nxs_ok7:∀ (l:List Wd),OkWs l->Deads l->∀ (bg:Nat->Bool) (t:Nat->Nat) (n c:Nat) (s:St4),wb (nxWs (l.map fun w=>rn w bg t n) (bg n) s) c=true ↔ wb s c=true\/Nx (LWs l) bg t n c
 | [],_,_,bg,t,n,c,s=>by
  simp only [zAp,nxWs];constructor
  ·exact .inl
  ·rintro (h|⟨_,_,_,_,h⟩)
   ·exact h
   ·exact h.elim
 | w::l,hok,hd,bg,t,n,c,s=>by
  have h1:=nx_ok7 w hok.1 hd.1 bg t n c;simp only [zAX,nxWs];rw [nxs_ok7 l hok.2 hd.2 bg t n c,zjD,zAZ,h1];constructor
  ·rintro ((h|⟨i,a,b,v,d⟩)|⟨i,a,b,v,d⟩)
   ·exact .inl h
   ·exact .inr ⟨i,a,b,v,.inl d⟩
   ·exact .inr ⟨i,a,b,v,.inr d⟩
  ·rintro (h|⟨i,a,b,v,d|d⟩)
   ·exact .inl (.inl h)
   ·exact .inl (.inr ⟨i,a,b,v,d⟩)
   ·exact .inr ⟨i,a,b,v,d⟩
end
def bg0 (i:Nat):Bool:=i == 0
def tf (t:Wo) (i:Nat):Nat:=t.getD i 0
theorem zdo (t:Wo):∀ (n:Nat),n<=t.length->sg (tf t) 0 n=t.take n
 | 0,_=>by simp [sg]
 | n+1,h=>by
  rw [zgs _ (zAU n),zdo t n (by omega),List.take_succ_eq_append_getElem (by omega)]
  congr 1
  simp [tf,zAV (show n<t.length by omega)]
theorem zgv (w:Wd) (t:Wo):∀ (n:Nat),n<=t.length->runE w 0 (t.take n)=rn w bg0 (tf t) n
 | 0,_=>by simp [runE,rn]
 | n+1,h=>by
  have hl:(t.take n).length=n:=by rw [zA7];omega
  rw [List.take_succ_eq_append_getElem (by omega),runE_app,zgv w t n (by omega),hl]
  simp only [runE,rn,zAT,bg0]
  congr 2
  simp [tf,zAV (show n<t.length by omega)]
theorem zqj {L:Wo->Prop} {t:Nat->Nat} {n:Nat}:Acc L bg0 t n ↔ 0<n/\L (sg t 0 n):=by
 constructor
 ·rintro ⟨i,h1,h2,h3⟩;obtain rfl:i=0:=by simpa [bg0] using h2
  exact ⟨h1,h3⟩
 ·rintro ⟨h1,h2⟩;exact ⟨0,h1,rfl,h2⟩
theorem znY {w:Wd} (hok:OkW w) (hd:Dead w) (t:Wo) (n:Nat):n∈ym w t ↔ n<=t.length/\LW w (t.take n):=by
 cases n with
 | zero=>rw [zkS,em_LW hok];simp
 | succ k =>
  rw [zkT];constructor
  ·rintro ⟨b,hb,h⟩;have hk:k<t.length:=(zAG.1 hb).1;rw [st_en,zgv w t k (by omega)] at h
   have e:(stW (rn w bg0 (tf t) k) (k == 0) b).1=rn w bg0 (tf t) (k+1):=by
    simp only [rn,bg0]
    congr 2
    simp [tf,hb]
   rw [e,en_ok7 w hok hd,zqj,zdo t (k+1) hk] at h;exact ⟨hk,h.2⟩
  ·rintro ⟨hk,h⟩;obtain ⟨b,hb⟩:∃ b,t[k]?=some b:=⟨t[k],by simp [show k<t.length from hk]⟩
   refine ⟨b,hb,?_⟩;rw [st_en,zgv w t k (by omega)]
   have e:(stW (rn w bg0 (tf t) k) (k == 0) b).1=rn w bg0 (tf t) (k+1):=by
    simp only [rn,bg0]
    congr 2
    simp [tf,hb]
   rw [e,en_ok7 w hok hd,zqj,zdo t (k+1) hk];exact ⟨Nat.succ_pos k,h⟩
theorem zqk {w:Wd} (hok:OkW w) (hd:Dead w) (t:Wo) (c:Nat):wb (nxW (runE w 0 t) (t.length == 0)) c=true ↔ ∃ v,LW w (t++c::v):=by
 have h:=zgv w t t.length (zAR _);rw [zBc] at h;rw [h];have:=nx_ok7 w hok hd bg0 (tf t) t.length c;rw [show (t.length == 0)=bg0 t.length from rfl,this];have hs:=zdo t t.length (zAR _);rw [zBc] at hs;constructor
 ·rintro ⟨i,_,h2,v,h3⟩;obtain rfl:i=0:=by simpa [bg0] using h2
  rw [hs] at h3;exact ⟨v,h3⟩
 ·rintro ⟨v,h3⟩;exact ⟨0,zAU _,rfl,v,by rw [hs];exact h3⟩
end Go.Proofs.YtlnijcffanjieaaGreatDoor
namespace Go.Proofs.YtlnijcffanjieaaGreatDoor
open Go Go.Vm
mutual
def Lang:E->Wo->Prop
 | .mk op _ s0 s1 s2 s3 _ mn mx _ args=>fun u =>
  if op=2 then ∃ c,u=[c]/\wb (s0,s1,s2,s3) c=true
  else if op=5 then LCat args u
  else if op=6 then LAlt args u
  else if op=7 then (mn=0/\u=[])\/(if mx<0 then Plus (LHead args) u else LHead args u)
  else u=[]
def LCat:List E->Wo->Prop
 | []=>fun u=>u=[]
 | e::l=>fun u=>∃ x y,u=x++y/\Lang e x/\LCat l y
def LAlt:List E->Wo->Prop
 | []=>fun _=>False
 | e::l=>fun u=>Lang e u\/LAlt l u
def LHead:List E->Wo->Prop
 | []=>fun _=>False
 | e::_=>Lang e
end
def zmP (L:Wo->Prop):Option Wd->Prop
 | none=>∀ u,¬ L u
 | some w=>OkW w/\Dead w/\LW w=L
theorem zfn {L:Wo->Prop} (h:∀ u,¬ L u):∀ u,¬ Plus L u:=fun u hp=>by
 induction hp with
 | one k=>exact h _ k
 | more k _ _=>exact h _ k
theorem cat_ok:∀ (l:List E),(∀ a∈l,zmP (Lang a) (foW a))->zmP (LCat l) (foCat l)
 | [],_=>⟨trivial,trivial,rfl⟩
 | a::l,h=>by
  have ha:=h a (zAL ..);have hl:=cat_ok l fun b hb=>h b (zAE _ hb);simp only [foCat];cases h1:foCat l with
  | none =>
   rw [h1] at hl;rintro u ⟨x,y,_,_,hy⟩;exact hl y hy
  | some w =>
   rw [h1] at hl;cases h2:foW a with
   | none =>
    rw [h2] at ha;rintro u ⟨x,y,_,hx,_⟩;exact ha x hx
   | some x =>
    rw [h2] at ha;obtain ⟨a1,a2,a3⟩:=ha;obtain ⟨b1,b2,b3⟩:=hl;refine ⟨⟨a1,b1,rfl⟩,⟨a2,b2,rfl⟩,?_⟩;simp only [LW,LCat,a3,b3]
theorem alt_ok:∀ (l:List E),(∀ a∈l,zmP (Lang a) (foW a))->OkWs (foAlt l)/\Deads (foAlt l)/\LWs (foAlt l)=LAlt l
 | [],_=>⟨trivial,trivial,rfl⟩
 | a::l,h=>by
  have ha:=h a (zAL ..);obtain ⟨b1,b2,b3⟩:=alt_ok l fun b hb=>h b (zAE _ hb);simp only [foAlt];cases h2:foW a with
  | none =>
   rw [h2] at ha;refine ⟨b1,b2,?_⟩
   funext u
   simp only [LAlt,b3];exact propext ⟨.inr,fun h=>h.resolve_left (ha u)⟩
  | some x =>
   rw [h2] at ha;obtain ⟨a1,a2,a3⟩:=ha;exact ⟨⟨a1,b1⟩,⟨a2,b2⟩,by simp only [LWs,LAlt,a3,b3]⟩
theorem zmQ {pl s0 s1 s2 s3 mn mx:Int} {tx:List Nat} {nl:Bool} {args:List E} (h:kindB (.mk 7 pl s0 s1 s2 s3 tx mn mx nl args)=true):(∃ a,args=[a])/\(mn=0\/mn=1):=by
 simp [kindB] at h;obtain ⟨h1,h2⟩:=h;refine ⟨List.length_eq_one_iff.1 (by omega),?_⟩
 omega
theorem fo_Lang:∀ (N:Nat) (e:E),YtlnijcffanjieaaGreatDoor.hg e<=N->Cor e->Rg e->zmP (Lang e) (foW e)
 | 0,e,h,_,_=>by cases e;simp only [YtlnijcffanjieaaGreatDoor.hg] at h;omega
 | N+1,.mk op pl s0 s1 s2 s3 text mn mx nl args,h,hc,hr=>by
  simp only [YtlnijcffanjieaaGreatDoor.hg] at h;have hm:∀ a∈args,zmP (Lang a) (foW a):=fun a ha=>by
   have h1:=zaZ ha;exact fo_Lang N a (by omega) (hc.2.2.2.mem ha) (hr.2.mem ha)
  simp only [foW];split
  ·rename_i h2;split
   ·rename_i h3;rintro u hu;simp only [Lang,if_pos h2] at hu;obtain ⟨c,_,hu⟩:=hu;rw [h3,xK] at hu;cases hu
   ·rename_i h3;obtain ⟨b,_,hb⟩:=zhK hr.1 h3;refine ⟨⟨b,hb⟩,rfl,?_⟩
    funext u
    simp only [LW,Lang,if_pos h2]
  ·rename_i n2;split
   ·rename_i h5;have:=cat_ok args hm;have e:Lang (.mk op pl s0 s1 s2 s3 text mn mx nl args)=LCat args:=by funext u;simp only [Lang,if_neg n2,if_pos h5]
    rw [e];exact this
   ·rename_i n5;split
    ·rename_i h6;have e:Lang (.mk op pl s0 s1 s2 s3 text mn mx nl args)=LAlt args:=by funext u;simp only [Lang,if_neg n2,if_neg n5,if_pos h6]
     obtain ⟨b1,b2,b3⟩:=alt_ok args hm;rw [e,<- b3];split
     ·rename_i hem;have:foAlt args=[]:=List.isEmpty_iff.1 hem;rw [this];exact fun u hu=>hu
     ·rename_i hem;refine ⟨⟨b1,fun h=>hem (by rw [h];rfl),rfl⟩,⟨b2,rfl⟩,?_⟩
      simp only [LW]
    ·rename_i n6;split
     ·rename_i h7;subst h7;obtain ⟨⟨a,rfl⟩,hmn⟩:=zmQ hc.2.1;have ha:=hm a (by simp)
      have e:Lang (.mk 7 pl s0 s1 s2 s3 text mn mx nl [a])=fun u=>(mn=0/\u=[])\/(if mx<0 then Plus (Lang a) u else Lang a u):=by
       funext u
       simp only [Lang,LHead];simp
      rw [e];simp only [foHead];cases hf:foW a with
      | none =>
       rw [hf] at ha;simp only;have hno:∀ u,¬ (if mx<0 then Plus (Lang a) u else Lang a u):=fun u=>by
        split
        ·exact zfn ha u
        ·exact ha u
       by_cases hp:0<mn
       ·rw [if_pos hp];rintro u (⟨h0,_⟩|h0)
        ·omega
        ·exact hno u h0
       ·rw [if_neg hp];refine ⟨trivial,trivial,?_⟩
        funext u
        simp only [LW];exact propext ⟨fun h0=>.inl ⟨by omega,h0⟩,fun h0=>(h0.resolve_right (hno u)).2⟩
      | some x =>
       rw [hf] at ha;obtain ⟨a1,a2,a3⟩:=ha;refine ⟨⟨a1,fun hx=>by simp [hx]⟩,a2,?_⟩
       funext u
       simp only [LW,a3,decide_eq_true_eq,zAZ,beq_iff_eq];refine propext ⟨?_,?_⟩
       ·rintro (⟨h0|h0,h1⟩|h0)
        ·exact .inl ⟨h0,h1⟩
        ·refine .inr ?_;have:=(em_LW a1).1 h0;rw [a3] at this;rw [h1];split
         ·exact .one this
         ·exact this
        ·exact .inr h0
       ·rintro (⟨h0,h1⟩|h0)
        ·exact .inl ⟨.inl h0,h1⟩
        ·exact .inr h0
     ·rename_i n7;refine ⟨trivial,trivial,?_⟩
      funext u
      simp only [LW,Lang,if_neg n2,if_neg n5,if_neg n6,if_neg n7]
theorem runE_rg7:∀ (t:List Nat) (w:Wd) (i:Nat),RgW w->RgW (runE w i t)
 | [],w,i,h=>h
 | b::t,w,i,h=>by
  simp only [runE];exact runE_rg7 t _ _ (Rg_st (FW w) w _ b (zAR _) h)
end Go.Proofs.YtlnijcffanjieaaGreatDoor
namespace Go.Proofs.YtlnijcffanjieaaGreatDoor
set_option maxRecDepth 100000
open Go Go.Vm
def zfo (F:Ln->Ln->Ln):List Ln->Ln
 | []=>⟨false,0,0⟩
 | x::l=>l.foldl F x
mutual
def lenE:E->Ln
 | .mk op _ s0 s1 s2 s3 _ mn mx _ args =>
  if op=2 then (if (s0,s1,s2,s3)=st0 then noL else ⟨false,1,1⟩)
  else if op=5 then zfo zes (lensE args)
  else if op=6 then zfo zbo (lensE args)
  else if op=7 then (match lensE args with|[]=>⟨false,0,0⟩|x::_=>xo mn mx x)
  else ⟨false,0,0⟩
def lensE:List E->List Ln
 | []=>[]
 | a::l=>lenE a::lensE l
end
theorem lensE_eq:∀ l,lensE l=l.map lenE
 | []=>rfl
 | a::l=>by simp only [lensE,lensE_eq l,zAX]
def pL:E->Bool×List E
 | .mk op _ _ _ _ _ _ _ _ nl args=>bif op == 2 then (true,[]) else bif op == 5 then (nl,args) else bif op == 6 then (nl,args) else bif op == 7 then (nl,args) else (true,[])
abbrev mPa:= "bolter/length.parts"
theorem zq5 (s0 s1 s2 s3:Int):qo Tryz.prog 149 (.agg [.int .u64 s0,.int .u64 s1,.int .u64 s2,.int .u64 s3]) mPa=some (292,.agg [.int .u64 s0,.int .u64 s1,.int .u64 s2,.int .u64 s3]):=by kernel_rfl
theorem zq6 (v:V):qo Tryz.prog 152 (.agg [v]) mPa=some (293,.agg [v]):=by kernel_rfl
theorem zq7 (v:V):qo Tryz.prog 155 (.agg [v]) mPa=some (294,.agg [v]):=by kernel_rfl
theorem zq8 (a b v:V):qo Tryz.prog 157 (.agg [a,b,v]) mPa=some (295,.agg [a,b,v]):=by kernel_rfl
theorem m207:qo Tryz.prog 207 (.agg []) mPa=some (304,.agg []):=by kernel_rfl
theorem zcc {n:Nat} (hn:1<=n) {nm:String} {t f:Nat} {v u r:V} {H:Hp} {fn:Func} {body:Code} (hm:qo Tryz.prog t v nm=some (f,u)) (hf:Tryz.prog.funcs[f]?=some fn) (hb:fn.body=some body) (hu:clr u=u) (hc:glN.hk f [u]=some r):ko glN n nm (.ifc t v) [] H=some (.val r,H):=by
 obtain ⟨m,rfl⟩:∃ m,n=m+1:=⟨n - 1,by omega⟩
 exact qK hm hf hb (by simp [hu]) (xi hc)
theorem form_ok:∀ (e:E),∃ t u,formV e=.ifc t u/\∀ {n:Nat} (H:Hp),1<=n->ko glN n mPa (.ifc t u) [] H=some (.val (zW (pL e).1 (encs (pL e).2)),H)
 | .mk op pl s0 s1 s2 s3 text mn mx nl args=>by
  simp only [formV,pL];cases h2:(op == 2) with
  | true=>exact ⟨149,_,rfl,fun H hn=>zcc hn (zq5 ..) Tryz.func292 rfl rfl (zqf ..)⟩
  | false=>cases h5:(op == 5) with
   | true=>exact ⟨152,_,rfl,fun H hn=>zcc hn (zq6 _) Tryz.func293 rfl rfl (zqg nl args)⟩
   | false=>cases h6:(op == 6) with
    | true=>exact ⟨155,_,rfl,fun H hn=>zcc hn (zq7 _) Tryz.func294 rfl rfl (zqh nl args)⟩
    | false=>cases h7:(op == 7) with
     | true=>exact ⟨157,_,rfl,fun H hn=>zcc hn (zq8 _ _ _) Tryz.func295 rfl rfl (zqi mn mx nl args)⟩
     | false=>exact ⟨207,_,rfl,fun H hn=>zcc hn m207 Tryz.func304 rfl rfl N_304⟩
theorem r146:RowT Tryz.prog 146 63 3 24:=⟨by kernel_rfl,by kernel_rfl,by kernel_rfl,by decide,by kernel_rfl,by kernel_rfl,by kernel_rfl⟩
theorem zph {n:Nat} {nm:String} {v r:V} {H:Hp} {lk:List (Nat×Nat)} {df:List (V×List V)} {env:List V} (h:ko glN n nm v [] H=some (.val r,H)):zmq ⟨Tryz.prog,glN.g,zx Tryz.prog glN n,glN.uq⟩ nm H lk df env (some v) (some [])=some (.val r,⟨env,H,lk,df⟩):=by
 rw [zfk];unfold ko at h;rw [h];rfl
def taV (P:Program) (ty:TypeId):Option V->Option V
 | some .nili=>(qi P ty).map fun z=>.tup [z,.bool false]
 | some (.ifc u v)=>if Nat.beq u ty then some (.tup [clr v,.bool true]) else (qi P ty).map fun z=>.tup [z,.bool false]
 | _=>none
theorem zjR {P:Program} {ty:TypeId} {v:V}:taV P ty (some (.ifc ty v))=some (.tup [clr v,.bool true]):=by simp [taV]
theorem zjS {P:Program} {ty u:TypeId} {v z:V} (h:Nat.beq u ty=false) (hz:qi P ty=some z):taV P ty (some (.ifc u v))=some (.tup [z,.bool false]):=by simp [taV,h,hz]
theorem yI {P:Program} {g:Nat->Nat->Option V} {c:FuncId->List V->Hp->Option (Out×Hp)} {uu:TypeId->Bool} {takes:List Tmp} {dst:Option Tmp} {type:TypeId} {pos:String} {after:Array Edge} {guard:Option (Nat×Bool)} {env:List V} {H:Hp} {lk:List (Nat×Nat)} {df:List (V×List V)} {t s:TypeId} {x:Operand} (ht:kV P t=false) :
  Cx.op ⟨P,g,c,uu⟩ takes ⟨dst,.typeAssert x s t true,type,pos,after,guard⟩ env H lk df=rdQ env H lk df (taV P t (peek env x)):=by
 simp only [Cx.op];refine wq ?_;simp only [qj,ht,Option.bind_eq_bind,zAD,if_false];cases peek env x with
 | none=>rfl
 | some v=>cases v<;>simp only [taV,zAB]<;>first|rfl|(cases qi P t<;>rfl)|(split<;>first|rfl|(cases qi P t<;>rfl))
theorem if149:kV Tryz.prog 149=false:=by kernel_rfl
theorem if152:kV Tryz.prog 152=false:=by kernel_rfl
theorem if155:kV Tryz.prog 155=false:=by kernel_rfl
theorem if157:kV Tryz.prog 157=false:=by kernel_rfl
theorem z149:qi Tryz.prog 149=some (.agg [.int .u64 0,.int .u64 0,.int .u64 0,.int .u64 0]):=by kernel_rfl
theorem z152:qi Tryz.prog 152=some (.agg [.snil]):=by kernel_rfl
theorem z155:qi Tryz.prog 155=some (.agg [.snil]):=by kernel_rfl
theorem z157:qi Tryz.prog 157=some (.agg [.int .i64 0,.int .i64 0,.snil]):=by kernel_rfl
theorem zql {env:List V}:jE Tryz.prog 63 #[] env=some (lnV ⟨false,0,0⟩):=by kernel_rfl
theorem zjT {bs ls:List Blk} {x:Blk}:(bs++ls).set (bs.length+1) x=bs++ls.set 1 x:=by
 rw [zBH _ _ (by omega)]
 simp
theorem zfp {e:E} {bs ls:List Blk} {B1:List Blk} {env:List V} {x:Ln} (h2:nth env 2=some (.ptr (bs.length+1) 0)) (hn:bs.length+1<(bs++ls).length) (hB:B1=(bs++ls).set (bs.length+1) (Blk.cells (lc x) 63)) (hx:x=lenE e) :
  ∃ vs,zM Tryz.prog ⟨B1,[]⟩ env [ResultVar.cell 2 63]=some vs/\tupOf vs=lnV (lenE e)/\∃ ls,(⟨B1,[]⟩:Hp)=⟨bs++ls,[]⟩:=by
 subst hx;subst hB;have hld:∀ g,zJ Tryz.prog ⟨(bs++ls).set (bs.length+1) (Blk.cells (lc (lenE e)) 63),[]⟩ g 63 (.ptr (bs.length+1) 0)=some (lnV (lenE e)):=fun g=>zkR (qz hn);rw [zjT] at hld ⊢;refine ⟨[lnV (lenE e)],?_,rfl,ls.set 1 (Blk.cells (lc (lenE e)) 63),rfl⟩;simp only [zM,h2,hld,wK]
theorem zhX {nl:Bool} {l:List E}:(V.agg [zW nl (encs l)]).laid=[zW nl (encs l)]:=by
 rcases jd nl (encs l) with h|⟨_,h⟩<;>rw [h]<;>rfl
theorem znZ {nl:Bool} {l:List E}:okC (V.agg [zW nl (encs l)])=true:=by
 rcases jd nl (encs l) with h|⟨_,h⟩<;>rw [h]<;>rfl
theorem zqm {ty:TypeId} (hs:qc Tryz.prog ty=some 1) {B:List Blk} {nl:Bool} {l:List E} {env:List V}:qQ Tryz.prog ty ⟨B++[.cells [.snil] ty],[]⟩ [] [] (some (.agg [zW nl (encs l)],env)) (some (.ptr B.length 0))=some (.skip,⟨env,⟨B++[.cells [zW nl (encs l)] ty],[]⟩,[],[]⟩):=by
 rw [jF (n:=1) hs (H:=⟨B++[Blk.cells _ ty],[]⟩) (b:=B.length) (off:=0) (cs:=_) (ty:=ty) Vm.get_at0 znZ (by rw [zhX];rfl) (by simp) (vq rfl (by simp)),kq (by simp [V.top,tops,jA,tops_encs]),zhX,zb7 (by simp),yG]
theorem zqn {ty:TypeId} (hz:qi Tryz.prog ty=some (.agg [.snil])) {env:List V} {H:Hp} {lk:List (Nat×Nat)} {df:List (V×List V)}:zec ty env H lk df (qi Tryz.prog ty)=some (.val (.ptr H.blks.length 0),⟨env,H.push (.cells [.snil] ty),lk,df⟩):=by
 rw [hz];exact wU rfl
theorem zeu {x:V} {l:List V}:clr (qt 3 63 (x::l))=.sl 3 (x::l) .no:=rfl
theorem zq9 {env:List V} {H:Hp} {lk:List (Nat×Nat)} {df:List (V×List V)}:zec 157 env H lk df (qi Tryz.prog 157)=some (.val (.ptr H.blks.length 0),⟨env,H.push (.cells [.int .i64 0,.int .i64 0,.snil] 157),lk,df⟩):=by
 rw [z157];exact wU rfl
theorem zfq {nl:Bool} {l:List E} {a b:Int}:(V.agg [.int .i64 a,.int .i64 b,zW nl (encs l)]).laid=[.int .i64 a,.int .i64 b,zW nl (encs l)]:=by
 rcases jd nl (encs l) with h|⟨_,h⟩<;>rw [h]<;>rfl
theorem zmR {nl:Bool} {l:List E} {a b:Int}:okC (V.agg [.int .i64 a,.int .i64 b,zW nl (encs l)])=true:=by
 rcases jd nl (encs l) with h|⟨_,h⟩<;>rw [h]<;>rfl
theorem zra {B:List Blk} {nl:Bool} {l:List E} {a b:Int} {env:List V}:qQ Tryz.prog 157 ⟨B++[.cells [.int .i64 0,.int .i64 0,.snil] 157],[]⟩ [] [] (some (.agg [.int .i64 a,.int .i64 b,zW nl (encs l)],env)) (some (.ptr B.length 0))=some (.skip,⟨env,⟨B++[.cells [.int .i64 a,.int .i64 b,zW nl (encs l)] 157],[]⟩,[],[]⟩):=by
 rw [jF (n:=3) (by kernel_rfl) (H:=⟨B++[Blk.cells _ 157],[]⟩) (b:=B.length) (off:=0) (cs:=_) (ty:=157) Vm.get_at0 zmR (by rw [zfq];rfl) (by simp) (vq rfl (by simp)),kq (by simp [V.top,tops,jA,tops_encs]),zfq,zb7 (by simp),yG]
theorem pL_sub:∀ (e:E),(pL e).2=[]\/∃ op pl s0 s1 s2 s3 tx mn mx nl,e=.mk op pl s0 s1 s2 s3 tx mn mx nl (pL e).2
 | .mk op pl s0 s1 s2 s3 text mn mx nl args=>by
  simp only [pL];cases (op == 2)<;>cases (op == 5)<;>cases (op == 6)<;>cases (op == 7)<;>simp
theorem zpi (e:E):2<=YtlnijcffanjieaaGreatDoor.hg e:=by cases e;simp only [YtlnijcffanjieaaGreatDoor.hg];omega
theorem zqo {e a:E} (ha:a∈(pL e).2) (hc:Cor e):YtlnijcffanjieaaGreatDoor.hg a<YtlnijcffanjieaaGreatDoor.hg e/\Cor a:=by
 rcases pL_sub e with h|⟨op,pl,s0,s1,s2,s3,tx,mn,mx,nl,h⟩
 ·rw [h] at ha;cases ha
 ·generalize (pL e).2=l at ha h;subst h;have:=zaZ ha;exact ⟨by simp only [YtlnijcffanjieaaGreatDoor.hg];omega,hc.2.2.2.mem ha⟩
theorem zpj {e:E} (hc:Cor e):(pL e).2.length+2<=YtlnijcffanjieaaGreatDoor.hg e/\(pL e).2.length<=65536:=by
 rcases pL_sub e with h|⟨op,pl,s0,s1,s2,s3,tx,mn,mx,nl,h⟩
 ·rw [h];exact ⟨zpi e,by simp⟩
 ·generalize (pL e).2=l at h;subst h;exact ⟨by simp only [YtlnijcffanjieaaGreatDoor.hg];omega,hc.2.2.1⟩
theorem e50:∀ (N:Nat) (e:E),YtlnijcffanjieaaGreatDoor.hg e<=N->Cor e->∀ n,N<=n->∀ bs es,zx Tryz.prog glN (n+1) 50 [enc e] ⟨bs,es⟩=some (.ret (lnV (lenE e)),⟨bs,es⟩)
 | 0,e,h,hc,n,hn,bs,es=>by cases e;simp only [YtlnijcffanjieaaGreatDoor.hg] at h;omega
 | N+1,e,h,hc,n,hn,bs,es=>by
  have ih:∀ a∈(pL e).2,∀ bs es,zx Tryz.prog glN n 50 [enc a] ⟨bs,es⟩=some (.ret (lnV (lenE a)),⟨bs,es⟩):=fun a ha bs es=>by
   obtain ⟨m,rfl⟩:∃ m,n=m+1:=⟨n - 1,by omega⟩
   obtain ⟨h1,h2⟩:=zqo ha hc;exact e50 N a (by omega) h2 m (by omega) bs es
  have hlen:(pL e).2.length<=65536/\(pL e).2.length+1<n:=by
   obtain ⟨h1,h2⟩:=zpj hc;exact ⟨h2,by omega⟩
  suffices hmain:go ⟨Tryz.prog,glN.g,zx Tryz.prog glN n,glN.uq⟩ n (Fx Tryz.prog Tryz.f50.results.toList fun u H1=>u=lnV (lenE e)/\∃ ls,H1=⟨bs++ls,[]⟩) [.c (Tryz.f50.body.getD .skip)] .normal ⟨[.agg (ecells e)]++List.replicate 54 (.tup []),⟨bs,[]⟩,[],[]⟩ by
   rw [qw];obtain ⟨u,H1,h1,rfl,ls,rfl⟩:=kR (gl:=glN) (f:=50) (bs:=bs) (es:=es) (args:=[.agg (ecells e)]) (n:=n) (zmM rfl _) (fun H=>rfl) Tryz.func50 rfl hmain;rw [h1];exact congrArg some (congrArg (Prod.mk _) (qq (zAU _)))
  obtain ⟨cz,⟨hz1,hz2⟩,hz3⟩:=alc63;obtain ⟨c7,⟨hc1,hc2⟩,hc3⟩:=zmA (_env:=[]) (_H:=⟨[],[]⟩) (_lk:=[]) (_df:=[]);obtain ⟨t,u,hfm,hpa⟩:=form_ok e;generalize hL:(pL e).2=L at *;generalize hNl:(pL e).1=nL at *;simp only [Tryz.f50,zA8,zd];refine zc (tk:=[]) (by kernel_rfl) ?_
  simp only [zi,go_os_nil,zd,kE,z9,ze,z0,opQ_val,zl,qg,zAi,zAS,List.length_nil,zAT,zAb,zAY,zAW,zf,zAI,zAJ,List.replicate,hz3,qO (show okC (.agg (ecells e))=true from rfl),V.laid,wV]
  have hld:∀ g,zJ Tryz.prog ⟨bs++[.cells (ecells e) 27,.cells cz 63],[]⟩ g 27 (.ptr bs.length 0)=some (.agg (ecells e)):=fun g=>zjK (Vm.get_at0 (es:=[]));have h74:=cN (n:=n) (by omega) Tryz.func74 rfl (zq1 e) ⟨bs++[.cells (ecells e) 27,.cells cz 63],[]⟩
  rw [hfm,qw] at h74;refine zc (tk:=[]) (by kernel_rfl) ?_
  simp only [zi,go_os_nil,zd,zt,zg,qx,peeks,zO,peek,ze,zb,zj,opQ_val,zl,qA,zp,zAB,zAC,zR,je,zAX,zAp,zf,zm,zAI,zAJ,hld,h74,qp]
  refine zc (tk:=[]) (by kernel_rfl) ?_
  simp only [zi,go_os_nil,zd,zg,zE,ofVal,zj,opQ_val,zl,zAC,zAI,zAJ]
  rw [<- zd];refine zmh (fun s=>∃ env B,s=⟨env,⟨B,[]⟩,[],[]⟩/\env.length=55/\nth env 2=some (.ptr (bs.length+1) 0)/\nth env 3=some (.ifc t u)/\nth env 4=some (qt 3 63 ((L.map lenE).map lnV))/\(∃ ls,B=bs++ls)/\nth B (bs.length+1)=some (.cells cz 63)) ?_ ?_
  ·simp only [zd];have hiv:=fun env=>zph (lk:=[]) (df:=[]) (env:=env) (hpa (n:=n) ⟨bs++[.cells (ecells e) 27,.cells cz 63],[]⟩ (by omega))
   refine zc (tk:=[]) (by kernel_rfl) ?_
   simp only [zi,go_os_nil,qb,zk,kF,peeks,peek,ofVal,zb,opQ_val,zl,zAB,zAC,zf,zm,zAI,zAJ,zT,z6,hiv,qn,zom]
   refine xI (fun m s=>∃ k env B,m+k=L.length/\s=⟨env,⟨B,[]⟩,[],[]⟩/\env.length=55/\nth env 2=some (.ptr (bs.length+1) 0)/\nth env 3=some (.ifc t u)/\nth env 4=some (qt 3 63 (((L.take k).map lenE).map lnV))/\nth env 14=some (zW nL (encs L))/\nth env 15=some (.int .i64 L.length)/\nth env 16=some (.int .i64 (k:Nat))/\(∃ ls,B=bs++ls)/\nth B (bs.length+1)=some (.cells cz 63)) L.length (by omega) ⟨0,_,_,rfl,rfl,rfl,rfl,rfl,rfl,rfl,rfl,rfl,⟨_,rfl⟩,?_⟩ ?_
   ·exact Vm.get_at (es:=[]) (k:=1)
   rintro m s ⟨k,env,B,hmk,rfl,hel,e2,e3,e4,e14,e15,e16,⟨ls,hB⟩,n1⟩;have hBl:bs.length+1<B.length:=wk (H:=⟨B,[]⟩) n1;simp only [zd];refine zc (tk:=[]) (by kernel_rfl) ?_
   simp only [zi,go_os_nil,zd,go_skip,qb,zA,peek,zb,opQ_val,zl,zv,zh,zG,zK,if_true,za,Nat.reduceLT,if_true,e15,e16,hel,vQ]
   by_cases hk:k<L.length
   ·refine .inl ⟨by simp;omega,?_⟩
    obtain ⟨a,ha⟩:∃ a,L[k]?=some a:=⟨L[k],by simp [hk]⟩
    have ham:a∈L:=zAh ha;have htk:L.take (k+1)=L.take k++[a]:=by rw [List.take_add_one,ha];rfl
    have hix:z8 Tryz.prog 25 (zW nL (encs L)) (k:Int)=some (.vp (ecells a)):=zmw ha
    try simp only [go_skip,zd,qb]
    refine zc (tk:=[]) (by kernel_rfl) ?_
    simp only [zi,go_os_nil,zt,z9,zw,qh,Nat.reduceEqDiff,peek,ze,zb,opQ_val,opQ_skip,zl,zv,zp,yL,zAB,zAC,wv,qg,if_true,za,zAN,Nat.reduceLT,if_true,if_false,e14,e16,hel,qn,wv,hix,ziA,yF,hc3,zen,zmz hc1 hc2]
    have c50:Cx.callF ⟨Tryz.prog,glN.g,zx Tryz.prog glN n,glN.uq⟩ 50 [enc a] ⟨B++[Blk.cells (ecells a) 27],[]⟩=some (.val (lnV (lenE a)),⟨B++[Blk.cells (ecells a) 27],[]⟩):=z7 Tryz.func50 rfl (ih a ham _ _);have hcl:∀ x,clr (V.sl 3 [x] (.yes 63))=.sl 3 [x] .no:=fun _=>rfl;generalize hA:((L.take k).map lenE).map lnV=A at e4;have hAl:A.length<=65538:=by rw [<- hA];simp;omega
    have hap:∀ H,qL Tryz.prog H 146 (qt 3 63 A) (.sl 3 [lnV (lenE a)] .no)=some (qt 3 63 (A++[lnV (lenE a)])):=fun H=>zbj r146 (by simp) (roomA_of (by simp;omega) (by simp;omega))
    obtain ⟨x0,xl,hX⟩:∃ x0 xl,A++[lnV (lenE a)]=x0::xl:=by
     cases A with
     | nil=>exact ⟨_,_,rfl⟩
     | cons a A=>exact ⟨_,_,rfl⟩
    have hX2:qt 3 63 (A++[lnV (lenE a)])=.sl 3 (x0::xl) (.yes 63):=by rw [hX];rfl
    have tko:∀ env t,jV env t (some (qt 3 63 (A++[lnV (lenE a)])))=some (qt 3 63 (A++[lnV (lenE a)]),env.set t (.sl 3 (x0::xl) .no)):=fun _ _=>by rw [hX2];rfl
    have hN:∀ env',env'.length=55->nth env' 2=some (.ptr (bs.length+1) 0)->nth env' 3=some (.ifc t u)->nth env' 4=some (qt 3 63 (A++[lnV (lenE a)]))->nth env' 14=some (zW nL (encs L))->nth env' 15=some (.int .i64 L.length)->nth env' 16=some (.int .i64 ((k+1:Nat):Int)) ->
      ∃ i,i<m/\∃ k env B',i+k=L.length/\(⟨env',⟨B++[Blk.cells (ecells a) 27],[]⟩,[],[]⟩:St)=⟨env,⟨B',[]⟩,[],[]⟩/\env.length=55/\nth env 2=some (.ptr (bs.length+1) 0)/\nth env 3=some (.ifc t u)/\nth env 4=some (qt 3 63 (((L.take k).map lenE).map lnV))/\nth env 14=some (zW nL (encs L))/\nth env 15=some (.int .i64 L.length)/\nth env 16=some (.int .i64 (k:Nat))/\(∃ ls,B'=bs++ls)/\nth B' (bs.length+1)=some (.cells cz 63) :=
     fun env' f0 f2 f3 f4 f14 f15 f16=>⟨m - 1,by omega,k+1,env',_,by omega,rfl,f0,f2,f3,by rw [f4,htk,List.map_append,List.map_append,hA];rfl,f14,f15,f16,⟨ls++[Blk.cells (ecells a) 27],by rw [hB,zAb]⟩,(Vm.get_old (es:=[]) hBl).trans n1⟩
    cases hAc:A with
    | nil =>
     rw [hAc] at e4 hap tko hN;have e4':nth env 4=some .snil:=e4;have hap':∀ H,qL Tryz.prog H 146 .snil (.sl 3 [lnV (lenE a)] .no)=some (qt 3 63 ([]++[lnV (lenE a)])):=hap;refine zc (tk:=[20]) (by kernel_rfl) ?_
     simp only [zi,go_os_nil,jX,kr,zhA,zg,qx,zaN,ne_eq,Nat.reduceEqDiff,zBs,peeks,zO,peek,ze,kC,zfj,zb,zj,opQ_val,zl,zp,zAB,zAC,zR,je,zAX,zAp,zAW,if_true,za,zAN,Nat.reduceLT,if_true,if_false,e4',hel,kC,kr,znO,yF,c50,wK,r146.bsl (show okC (lnV (lenE a))=true from rfl) rfl,hcl,zdO,hap',wP (cx:=⟨Tryz.prog,glN.g,zx Tryz.prog glN n,glN.uq⟩) uq146]
     try simp only [jX,zbi]
     refine zc (tk:=[]) (by kernel_rfl) ?_
     simp only [zi,go_os_nil,zk,zA,Nat.reduceEqDiff,peek,ofVal,zb,opQ_val,zl,zv,if_true,za,zAN,Nat.reduceLT,if_true,if_false,e16,hel,jy (show k<2 ^ 60 by omega),zD,thn_normal]
     refine hN _ ?_ ?_ ?_ ?_ ?_ ?_ ?_
     ·simp [hel]
     ·simp [za,e2]
     ·simp [za,e3]
     ·simp [za,hel]
     ·simp [za,e14]
     ·simp [za,e15]
     ·simp [za,hel]
    | cons a0 al =>
     rw [hAc] at e4 hap tko hN;have e4':nth env 4=some (.sl 3 (a0::al) (.yes 63)):=e4;have hap':∀ H,qL Tryz.prog H 146 (.sl 3 (a0::al) (.yes 63)) (.sl 3 [lnV (lenE a)] .no)=some (qt 3 63 (a0::al++[lnV (lenE a)])):=hap;have tk5:∀ env t,jV env t (some (V.sl 3 (a0::al) (.yes 63)))=some (.sl 3 (a0::al) (.yes 63),env.set t (.sl 3 (a0::al) .no)):=fun _ _=>rfl;simp only [zAY] at hap' tko hN
     refine zc (tk:=[20]) (by kernel_rfl) ?_
     simp only [zi,go_os_nil,jX,kr,zhA,zg,qx,zaN,ne_eq,Nat.reduceEqDiff,zBs,peeks,zO,peek,ze,zb,zj,opQ_val,zl,zp,zAB,zAC,zR,je,zAX,zAp,if_true,za,zAN,Nat.reduceLT,if_true,if_false,e4',hel,tk5,kr,znO,yF,c50,wK,r146.bsl (show okC (lnV (lenE a))=true from rfl) rfl,hcl,zdO,hap',tko,wP (cx:=⟨Tryz.prog,glN.g,zx Tryz.prog glN n,glN.uq⟩) uq146]
     try simp only [jX,zbi]
     refine zc (tk:=[]) (by kernel_rfl) ?_
     simp only [zi,go_os_nil,zk,zA,Nat.reduceEqDiff,peek,ofVal,zb,opQ_val,zl,zv,if_true,za,zAN,Nat.reduceLT,if_true,if_false,e16,hel,jy (show k<2 ^ 60 by omega),zD,thn_normal]
     refine hN _ ?_ ?_ ?_ ?_ ?_ ?_ ?_
     ·simp [hel]
     ·simp [za,e2]
     ·simp [za,e3]
     ·simp [za,hel]
     ·simp [za,e14]
     ·simp [za,e15]
     ·simp [za,hel]
   ·refine .inr ⟨by simp;omega,?_⟩
    obtain rfl:k=L.length:=by omega
    rw [zBc] at e4;simp only [xH,wT,wj,zD,thn_exit,zbi,zBS,if_true,zbi];exact ⟨_,B,rfl,by simp [hel],by simp [za,e2],by simp [za,e3],by simp [za,e4],⟨ls,hB⟩,n1⟩
  ·clear hld h74 hpa;rintro s ⟨env,B,rfl,hel,e2,e3,e4,⟨ls,hB⟩,n1⟩;have hBl:bs.length+1<B.length:=wk (H:=⟨B,[]⟩) n1;simp only [zd];refine zc (tk:=[]) (by kernel_rfl) ?_
   simp only [zi,go_os_nil,zd,qb,zk,peek,zb,opQ_val,zl,e3,zT]
   obtain ⟨op,pl,s0,s1,s2,s3,text,mn,mx,nl,args⟩:=e;simp only [formV] at hfm;cases h2:(op == 2) with
   | true =>
    simp only [h2,zBm,V.ifc.injEq] at hfm;obtain ⟨rfl,rfl⟩:=hfm;refine zc (tk:=[]) (by kernel_rfl) ?_
    simp only [zi,go_os_nil,zd,Nat.reduceEqDiff,peek,zb,opQ_val,zl,zh,qA,zAB,zAC,zAa,zG,zK,if_true,za,zAN,Nat.reduceLT,if_true,if_false,hel,yI if149,zT,kw,zjR,qM,zf,zm]
    refine .inl ?_
    try simp only [zd]
    refine zc (tk:=[]) (by kernel_rfl) ?_
    have hal:∀ {env:List V} {H:Hp} {lk:List (Nat×Nat)} {df:List (V×List V)},zec 149 env H lk df (qi Tryz.prog 149)=some (.val (.ptr H.blks.length 0),⟨env,H.push (.cells [.int .u64 0,.int .u64 0,.int .u64 0,.int .u64 0] 149),lk,df⟩):=by
     intro env H lk df;rw [z149];exact wU rfl
    have hs1:∀ env,qQ Tryz.prog 149 ⟨B++[.cells [.int .u64 0,.int .u64 0,.int .u64 0,.int .u64 0] 149],[]⟩ [] [] (some (.agg [.int .u64 s0,.int .u64 s1,.int .u64 s2,.int .u64 s3],env)) (some (.ptr B.length 0))=some (.skip,⟨env,⟨B++[.cells [.int .u64 s0,.int .u64 s1,.int .u64 s2,.int .u64 s3] 149],[]⟩,[],[]⟩):=fun env=>by
     rw [jF (n:=4) (by kernel_rfl) (H:=⟨B++[Blk.cells _ 149],[]⟩) (b:=B.length) (off:=0) (cs:=_) (ty:=149) Vm.get_at0 rfl rfl (by simp) (vq rfl (by simp)),kq rfl,show (V.agg [V.int .u64 s0,.int .u64 s1,.int .u64 s2,.int .u64 s3]).laid=[.int .u64 s0,.int .u64 s1,.int .u64 s2,.int .u64 s3] from rfl,zb7 (by simp),yG]
    have n1':nth (B++[Blk.cells [.int .u64 s0,.int .u64 s1,.int .u64 s2,.int .u64 s3] 149]) (bs.length+1)=some (.cells cz 63):=(Vm.get_old (es:=[]) hBl).trans n1;have fo149:qG Tryz.prog 149 0=some 0:=by kernel_rfl
    have hl1:∀ g,zJ Tryz.prog ⟨B++[Blk.cells [.int .u64 s0,.int .u64 s1,.int .u64 s2,.int .u64 s3] 149],[]⟩ g 24 (.ptr B.length 0)=some (stV (s0,s1,s2,s3)):=fun g=>wI (H:=⟨B++[Blk.cells [.int .u64 s0,.int .u64 s1,.int .u64 s2,.int .u64 s3] 149],[]⟩) ag24 sz24 Vm.get_at0 (by simp)
    simp only [zi,go_os_nil,zd,z9,zw,Nat.reduceEqDiff,peek,ze,z0,opQ_val,opQ_skip,zl,zp,qg,if_true,za,zAN,Nat.reduceLT,if_true,if_false,hel,hal,hs1]
    refine zc (tk:=[]) (by kernel_rfl) ?_
    simp only [zi,go_os_nil,zd,go_skip,zt,zA,qV,zn,Nat.reduceEqDiff,peek,zb,opQ_val,zl,zh,zp,zAB,zAC,zu,zX,zAv,zG,zK,if_true,za,zAN,Nat.reduceLT,if_true,if_false,hel,fo149,hl1,vE,zej,zp6]
    by_cases h0:(s0,s1,s2,s3)=st0
    ·refine .inl ⟨decide_eq_true h0,?_⟩;have c75:=cN (n:=n) (by omega) Tryz.func75 rfl N_75 ⟨B++[Blk.cells [.int .u64 s0,.int .u64 s1,.int .u64 s2,.int .u64 s3] 149],[]⟩
     have hs2:=fun (x:Ln) env=>zaw (es:=[]) (x:=x) (env:=env) (lk:=[]) (df:=[]) n1' hz1 hz2
     try simp only [zd]
     refine zc (tk:=[]) (by kernel_rfl) ?_
     simp only [zi,go_os_nil,zw,qx,Nat.reduceEqDiff,peeks,peek,ze,opQ_val,opQ_skip,zl,zp,zR,je,zAp,if_true,za,zAN,Nat.reduceLT,if_true,if_false,e2,hel,c75,kN,hs2]
     simp only [go_ret,zD,qI,jk,Fx]
     refine ⟨trivial,zfp (ls:=ls++[Blk.cells [.int .u64 s0,.int .u64 s1,.int .u64 s2,.int .u64 s3] 149]) (by simp [za,e2]) (by rw [<- zAb,<- hB];simp;omega) (by rw [<- zAb,<- hB]) ?_⟩
     have:op=2:=by simpa using h2
     simp only [lenE,this,if_true,h0]
    ·refine .inr ⟨decide_eq_false h0,?_⟩;have hs2:=fun (x:Ln) env=>zaw (es:=[]) (x:=x) (env:=env) (lk:=[]) (df:=[]) n1' hz1 hz2;have bld1:∀ env,jE Tryz.prog 63 #[(1,.const (.int .i64 1)),(2,.const (.int .i64 1))] env=some (lnV ⟨false,1,1⟩):=fun env=>by kernel_rfl
     try simp only [go_skip,zd]
     refine zc (tk:=[]) (by kernel_rfl) ?_
     simp only [zi,go_os_nil,zw,qV,Nat.reduceEqDiff,peek,ze,zb,opQ_val,opQ_skip,zl,zp,if_true,za,zAN,Nat.reduceLT,if_true,if_false,e2,hel,bld1,kN,hs2]
     simp only [go_ret,zD,qI,jk,Fx]
     refine ⟨trivial,zfp (ls:=ls++[Blk.cells [.int .u64 s0,.int .u64 s1,.int .u64 s2,.int .u64 s3] 149]) (by simp [za,e2]) (by rw [<- zAb,<- hB];simp;omega) (by rw [<- zAb,<- hB]) ?_⟩
     have:op=2:=by simpa using h2
     simp only [lenE,this,if_true,if_neg h0]
   | false =>
    simp only [h2,zBl] at hfm;have ho2:op≠2:=by simpa using h2
    have f149:∀ u v,Nat.beq u 149=false->taV Tryz.prog 149 (some (.ifc u v))=some (.tup [_,.bool false]):=fun u v h=>zjS h z149;have f152:∀ u v,Nat.beq u 152=false->taV Tryz.prog 152 (some (.ifc u v))=some (.tup [_,.bool false]):=fun u v h=>zjS h z152;have f155:∀ u v,Nat.beq u 155=false->taV Tryz.prog 155 (some (.ifc u v))=some (.tup [_,.bool false]):=fun u v h=>zjS h z155
    have f157:∀ u v,Nat.beq u 157=false->taV Tryz.prog 157 (some (.ifc u v))=some (.tup [_,.bool false]):=fun u v h=>zjS h z157;cases h5:(op == 5) with
    | true =>
     simp only [h5,zBm,V.ifc.injEq] at hfm;obtain ⟨rfl,rfl⟩:=hfm;have ho:op=5:=by simpa using h5
     refine zc (tk:=[]) (by kernel_rfl) ?_
     simp only [zi,go_os_nil,zd,Nat.reduceEqDiff,peek,zb,opQ_val,zl,zh,qA,zAB,zAC,zAa,zG,zK,if_true,za,zAN,Nat.reduceLT,if_true,if_false,hel,yI if149,zT,kw,f149 152 _ rfl,qM,zf,zm]
     refine .inr ?_
     try simp only [go_skip,zd]
     refine zc (tk:=[]) (by kernel_rfl) ?_
     simp only [zi,go_os_nil,zd,Nat.reduceEqDiff,peek,zb,opQ_val,zl,zh,qA,zAB,zAC,zAa,zG,zK,if_true,za,zAN,Nat.reduceLT,if_true,if_false,hel,yI if152,zT,kw,zjR,qM,zf,zm]
     refine .inl ?_
     try simp only [zd]
     have hLa:L=args:=by rw [<- hL];simp [pL,h2,h5]
     subst hLa;obtain ⟨_,hkd,_,_⟩:=hc;obtain ⟨a0,al,rfl⟩:∃ a0 al,L=a0::al:=by
      cases L with
      | nil=>rw [ho] at hkd;simp [kindB,Sx.ltz] at hkd
      | cons a l=>exact ⟨a,l,rfl⟩
     have n1':nth (B++[Blk.cells [zW nl (encs (a0::al))] 152]) (bs.length+1)=some (.cells cz 63):=(Vm.get_old (es:=[]) hBl).trans n1;have hs2:=fun (x:Ln) env=>zaw (es:=[]) (x:=x) (env:=env) (lk:=[]) (df:=[]) n1' hz1 hz2;have x76:=e76 op77 (n:=n - 1) (bs:=B++[Blk.cells [zW nl (encs (a0::al))] 152]) (es:=[]) (x:=lenE a0) (l:=al.map lenE) (by simp at hlen ⊢;omega) (by simp at hlen ⊢;omega)
     rw [show n - 1+1=n by omega] at x76
     have c76:=z7 (gl:=glN.g) (uq:=glN.uq) Tryz.func76 rfl x76;simp only [zaS,fnV,zAX] at c76;simp only [zAX] at e4;refine zc (tk:=[]) (by kernel_rfl) ?_
     simp only [zi,go_os_nil,zd,z9,zw,Nat.reduceEqDiff,peek,ze,z0,opQ_val,opQ_skip,zl,zp,qg,if_true,za,zAN,Nat.reduceLT,if_true,if_false,hel,zqn z152,z0,zqm (show qc Tryz.prog 152=some 1 by kernel_rfl)]
     refine zc (tk:=[]) (by kernel_rfl) ?_
     simp only [zi,go_os_nil,zk,zw,qx,Nat.reduceEqDiff,peeks,zO,peek,ze,zb,opQ_val,opQ_skip,zl,zp,za8,zR,je,zAX,zAp,if_true,za,zAN,Nat.reduceLT,if_true,if_false,e2,e4,hel,zeu,c76,kN,hs2,zly]
     simp only [go_ret,zD,qI,jk,Fx]
     refine ⟨trivial,zfp (ls:=ls++[Blk.cells [zW nl (encs (a0::al))] 152]) (by simp [za,e2]) (by rw [<- zAb,<- hB];simp;omega) (by rw [<- zAb,<- hB]) ?_⟩
     subst ho;simp [lenE,lensE_eq,zfo]
    | false =>
    simp only [h5,zBl] at hfm;cases h6:(op == 6) with
    | true =>
     simp only [h6,zBm,V.ifc.injEq] at hfm;obtain ⟨rfl,rfl⟩:=hfm;have ho:op=6:=by simpa using h6
     refine zc (tk:=[]) (by kernel_rfl) ?_
     simp only [zi,go_os_nil,zd,Nat.reduceEqDiff,peek,zb,opQ_val,zl,zh,qA,zAB,zAC,zAa,zG,zK,if_true,za,zAN,Nat.reduceLT,if_true,if_false,hel,yI if149,zT,kw,f149 155 _ rfl,qM,zf,zm]
     refine .inr ?_
     try simp only [go_skip,zd]
     refine zc (tk:=[]) (by kernel_rfl) ?_
     simp only [zi,go_os_nil,zd,Nat.reduceEqDiff,peek,zb,opQ_val,zl,zh,qA,zAB,zAC,zAa,zG,zK,if_true,za,zAN,Nat.reduceLT,if_true,if_false,hel,yI if152,zT,kw,f152 155 _ rfl,qM,zf,zm]
     refine .inr ?_
     try simp only [go_skip,zd]
     refine zc (tk:=[]) (by kernel_rfl) ?_
     simp only [zi,go_os_nil,zd,Nat.reduceEqDiff,peek,zb,opQ_val,zl,zh,qA,zAB,zAC,zAa,zG,zK,if_true,za,zAN,Nat.reduceLT,if_true,if_false,hel,yI if155,zT,kw,zjR,qM,zf,zm]
     refine .inl ?_
     try simp only [zd]
     have hLa:L=args:=by rw [<- hL];simp [pL,h2,h5,h6]
     subst hLa;obtain ⟨_,hkd,_,_⟩:=hc;obtain ⟨a0,al,rfl⟩:∃ a0 al,L=a0::al:=by
      cases L with
      | nil=>rw [ho] at hkd;simp [kindB,Sx.ltz] at hkd
      | cons a l=>exact ⟨a,l,rfl⟩
     have n1':nth (B++[Blk.cells [zW nl (encs (a0::al))] 155]) (bs.length+1)=some (.cells cz 63):=(Vm.get_old (es:=[]) hBl).trans n1;have hs2:=fun (x:Ln) env=>zaw (es:=[]) (x:=x) (env:=env) (lk:=[]) (df:=[]) n1' hz1 hz2;have x76:=e76 op78 (n:=n - 1) (bs:=B++[Blk.cells [zW nl (encs (a0::al))] 155]) (es:=[]) (x:=lenE a0) (l:=al.map lenE) (by simp at hlen ⊢;omega) (by simp at hlen ⊢;omega)
     rw [show n - 1+1=n by omega] at x76
     have c76:=z7 (gl:=glN.g) (uq:=glN.uq) Tryz.func76 rfl x76;simp only [zaS,fnV,zAX] at c76;simp only [zAX] at e4;refine zc (tk:=[]) (by kernel_rfl) ?_
     simp only [zi,go_os_nil,zd,z9,zw,Nat.reduceEqDiff,peek,ze,z0,opQ_val,opQ_skip,zl,zp,qg,if_true,za,zAN,Nat.reduceLT,if_true,if_false,hel,zqn z155,z0,zqm (show qc Tryz.prog 155=some 1 by kernel_rfl)]
     refine zc (tk:=[]) (by kernel_rfl) ?_
     simp only [zi,go_os_nil,zk,zw,qx,Nat.reduceEqDiff,peeks,zO,peek,ze,zb,opQ_val,opQ_skip,zl,zp,za8,zR,je,zAX,zAp,if_true,za,zAN,Nat.reduceLT,if_true,if_false,e2,e4,hel,zeu,c76,kN,hs2,zly]
     simp only [go_ret,zD,qI,jk,Fx]
     refine ⟨trivial,zfp (ls:=ls++[Blk.cells [zW nl (encs (a0::al))] 155]) (by simp [za,e2]) (by rw [<- zAb,<- hB];simp;omega) (by rw [<- zAb,<- hB]) ?_⟩
     subst ho;simp [lenE,lensE_eq,zfo]
    | false =>
    simp only [h6,zBl] at hfm;cases h7:(op == 7) with
    | true =>
     simp only [h7,zBm,V.ifc.injEq] at hfm;obtain ⟨rfl,rfl⟩:=hfm;have ho:op=7:=by simpa using h7
     refine zc (tk:=[]) (by kernel_rfl) ?_
     simp only [zi,go_os_nil,zd,Nat.reduceEqDiff,peek,zb,opQ_val,zl,zh,qA,zAB,zAC,zAa,zG,zK,if_true,za,zAN,Nat.reduceLT,if_true,if_false,hel,yI if149,zT,kw,f149 157 _ rfl,qM,zf,zm]
     refine .inr ?_
     try simp only [go_skip,zd]
     refine zc (tk:=[]) (by kernel_rfl) ?_
     simp only [zi,go_os_nil,zd,Nat.reduceEqDiff,peek,zb,opQ_val,zl,zh,qA,zAB,zAC,zAa,zG,zK,if_true,za,zAN,Nat.reduceLT,if_true,if_false,hel,yI if152,zT,kw,f152 157 _ rfl,qM,zf,zm]
     refine .inr ?_
     try simp only [go_skip,zd]
     refine zc (tk:=[]) (by kernel_rfl) ?_
     simp only [zi,go_os_nil,zd,Nat.reduceEqDiff,peek,zb,opQ_val,zl,zh,qA,zAB,zAC,zAa,zG,zK,if_true,za,zAN,Nat.reduceLT,if_true,if_false,hel,yI if155,zT,kw,f155 157 _ rfl,qM,zf,zm]
     refine .inr ?_
     try simp only [go_skip,zd]
     refine zc (tk:=[]) (by kernel_rfl) ?_
     simp only [zi,go_os_nil,zd,go_skip,jX,Nat.reduceEqDiff,peek,zb,opQ_val,zl,zh,qA,zAB,zAC,zAa,zG,zK,if_true,za,zAN,Nat.reduceLT,if_true,if_false,hel,yI if157,zT,kw,zjR,qM,zf,zm]
     refine .inl ?_
     try simp only [zd]
     have hLa:L=args:=by rw [<- hL];simp [pL,h2,h5,h6,h7]
     subst hLa;obtain ⟨_,hkd,_,_⟩:=hc;obtain ⟨a0,rfl⟩:∃ a0,L=[a0]:=by
      subst ho;exact (zmQ hkd).1
     have n1':nth (B++[Blk.cells [.int .i64 mn,.int .i64 mx,zW nl (encs [a0])] 157]) (bs.length+1)=some (.cells cz 63):=(Vm.get_old (es:=[]) hBl).trans n1;have hs2:=fun (x:Ln) env=>zaw (es:=[]) (x:=x) (env:=env) (lk:=[]) (df:=[]) n1' hz1 hz2;have c79:=cN (n:=n) (by omega) Tryz.func79 rfl (zq4 mn mx nl [a0] (lenE a0)) ⟨B++[Blk.cells [.int .i64 mn,.int .i64 mx,zW nl (encs [a0])] 157],[]⟩
     have ag157:jG Tryz.prog 157=some true:=by kernel_rfl
     have sz157:qc Tryz.prog 157=some 3:=by kernel_rfl
     have hl1:∀ g,zJ Tryz.prog ⟨B++[Blk.cells [.int .i64 mn,.int .i64 mx,zW nl (encs [a0])] 157],[]⟩ g 157 (.ptr B.length 0)=some (.agg [.int .i64 mn,.int .i64 mx,zW nl (encs [a0])]):=fun g=>wI (H:=⟨B++[Blk.cells [.int .i64 mn,.int .i64 mx,zW nl (encs [a0])] 157],[]⟩) ag157 sz157 Vm.get_at0 (by simp)
     refine zc (tk:=[]) (by kernel_rfl) ?_
     simp only [zi,go_os_nil,zd,z9,zw,Nat.reduceEqDiff,peek,ze,z0,opQ_val,opQ_skip,zl,zp,qg,if_true,za,zAN,Nat.reduceLT,if_true,if_false,hel,zq9,z0,zra]
     have hix:z8 Tryz.prog 146 (.sl 3 [lnV (lenE a0)] .no) 0=some (.vp (lc (lenE a0))):=ziE (l:=[lenE a0]) (k:=0) rfl;simp only [zAX,zAp] at e4;refine yj [] [(false,false),(false,false),(false,false),(false,false),(false,true),(false,true)] (tk:=[]) (by kernel_rfl) (by kernel_rfl) ?_
     simp only [zk,zt,zw,qh,qx,Nat.reduceEqDiff,peeks,zO,peek,ze,ofVal,zb,zl,qA,zp,yL,za8,zAB,zAC,wv,zR,je,zAX,zAp,zAa,kZ,if_true,za,zAN,Nat.reduceLT,if_true,if_false,oj_cons,oj_nil,xJ,zee,zb6,kS,ke,e2,e4,hel,hl1,zeu,wv,hix,ziF,c79,kN,wK,hs2,ag157,ag63,List.all_nil];simp only [implies_true,zAa]
     try simp only [go_ret,zD,qI,jk,Fx]
     refine ⟨trivial,zfp (ls:=ls++[Blk.cells [.int .i64 mn,.int .i64 mx,zW nl (encs [a0])] 157]) (by simp [za,e2]) (by rw [<- zAb,<- hB];simp;omega) (by rw [<- zAb,<- hB]) ?_⟩
     subst ho;simp [lenE,lensE_eq]
    | false =>
     simp only [h7,zBl,V.ifc.injEq] at hfm;obtain ⟨rfl,rfl⟩:=hfm;refine zc (tk:=[]) (by kernel_rfl) ?_
     simp only [zi,go_os_nil,zd,Nat.reduceEqDiff,peek,zb,opQ_val,zl,zh,qA,zAB,zAC,zAa,zG,zK,if_true,za,zAN,Nat.reduceLT,if_true,if_false,hel,yI if149,zT,kw,f149 207 _ rfl,qM,zf,zm]
     refine .inr ?_
     try simp only [go_skip,zd]
     refine zc (tk:=[]) (by kernel_rfl) ?_
     simp only [zi,go_os_nil,zd,Nat.reduceEqDiff,peek,zb,opQ_val,zl,zh,qA,zAB,zAC,zAa,zG,zK,if_true,za,zAN,Nat.reduceLT,if_true,if_false,hel,yI if152,zT,kw,f152 207 _ rfl,qM,zf,zm]
     refine .inr ?_
     try simp only [go_skip,zd]
     refine zc (tk:=[]) (by kernel_rfl) ?_
     simp only [zi,go_os_nil,zd,Nat.reduceEqDiff,peek,zb,opQ_val,zl,zh,qA,zAB,zAC,zAa,zG,zK,if_true,za,zAN,Nat.reduceLT,if_true,if_false,hel,yI if155,zT,kw,f155 207 _ rfl,qM,zf,zm]
     refine .inr ?_
     try simp only [go_skip,zd]
     refine zc (tk:=[]) (by kernel_rfl) ?_
     simp only [zi,go_os_nil,zd,go_skip,jX,Nat.reduceEqDiff,peek,zb,opQ_val,zl,zh,qA,zAB,zAC,zAa,zG,zK,if_true,za,zAN,Nat.reduceLT,if_true,if_false,hel,yI if157,zT,kw,f157 207 _ rfl,qM,zf,zm]
     refine .inr ?_
     try simp only [go_skip,zd]
     try simp only [go_skip,zd,jX]
     have hs2:=fun (x:Ln) env=>zaw (es:=[]) (x:=x) (env:=env) (lk:=[]) (df:=[]) n1 hz1 hz2;have bl:∀ env,jE Tryz.prog 63 #[] env=some (lnV ⟨false,0,0⟩):=fun env=>zql;refine zc (tk:=[]) (by kernel_rfl) ?_
     simp only [zi,go_os_nil,zw,qV,Nat.reduceEqDiff,peek,ze,zb,opQ_val,opQ_skip,zl,zp,if_true,za,zAN,Nat.reduceLT,if_true,if_false,e2,hel,bl,kN,hs2]
     simp only [go_ret,zD,Fx]
     refine ⟨trivial,zfp (ls:=ls) (by simp [za,e2]) (by rw [<- hB];omega) (by rw [<- hB]) ?_⟩
     have ho5:op≠5:=by simpa using h5
     have ho6:op≠6:=by simpa using h6
     have ho7:op≠7:=by simpa using h7
     simp only [lenE,ho2,ho5,ho6,ho7,if_false]
end Go.Proofs.YtlnijcffanjieaaGreatDoor
namespace Go.Proofs.YtlnijcffanjieaaGreatDoor
set_option maxRecDepth 100000
open Go Go.Vm
theorem e26 {e:E} (hg:GdE e) (hch:zaR e=true) {n:Nat} (hn:YtlnijcffanjieaaGreatDoor.hg e+1<=n) (bs:List Blk) (es:List (Nat×Nat)):zx Tryz.prog glN (n+1) 26 [enc e] ⟨bs,es⟩=some (.ret (.tup [lnV (lenE e),.nili]),⟨bs,es⟩):=by
 suffices hmain:go ⟨Tryz.prog,glN.g,zx Tryz.prog glN n,glN.uq⟩ n (Fx Tryz.prog Tryz.f26.results.toList fun u H1=>u=.tup [lnV (lenE e),.nili]/\∃ ls,H1=⟨bs++ls,[]⟩) [.c (Tryz.f26.body.getD .skip)] .normal ⟨[.agg (ecells e)]++List.replicate 10 (.tup []),⟨bs,[]⟩,[],[]⟩ by
  rw [qw];obtain ⟨u,H1,h1,rfl,ls,rfl⟩:=kR (gl:=glN) (f:=26) (bs:=bs) (es:=es) (args:=[.agg (ecells e)]) (n:=n) (zmM rfl _) (fun H=>rfl) Tryz.func26 rfl hmain;rw [h1];exact congrArg some (congrArg (Prod.mk _) (qq (zAU _)))
 obtain ⟨cz,⟨hz1,hz2⟩,hz3⟩:=alc63;have h11:=cN (n:=n) (by omega) Tryz.func11 rfl (zq0 hg) ⟨bs++[.cells (ecells e) 27,.cells cz 63],[]⟩
 rw [hch,qw] at h11;have x50:=e50 (YtlnijcffanjieaaGreatDoor.hg e) e (zAR _) (zdm hch) (n - 1) (by omega) (bs++[.cells (ecells e) 27,.cells cz 63]) []
 rw [show n - 1+1=n by omega,qw] at x50
 have c50:=z7 (gl:=glN.g) (uq:=glN.uq) Tryz.func50 rfl x50;have hld:∀ g,zJ Tryz.prog ⟨bs++[.cells (ecells e) 27,.cells cz 63],[]⟩ g 27 (.ptr bs.length 0)=some (.agg (ecells e)):=fun g=>zjK (Vm.get_at0 (es:=[]))
 have hs:∀ (x:Ln) env,qQ Tryz.prog 63 ⟨bs++[.cells (ecells e) 27,.cells cz 63],[]⟩ [] [] (some (lnV x,env)) (some (.ptr (bs.length+1) 0))=some (.skip,⟨env,⟨bs++[.cells (ecells e) 27,.cells (lc x) 63],[]⟩,[],[]⟩):=fun x env=>by
  rw [zaw (B:=bs++[Blk.cells (ecells e) 27,Blk.cells cz 63]) (b:=bs.length+1) (cs:=cz) (by rw [show nth (bs++[Blk.cells (ecells e) 27,Blk.cells cz 63]) (bs.length+1)=Hp.get ⟨bs++[Blk.cells (ecells e) 27,Blk.cells cz 63],[]⟩ (bs.length+1) from rfl,Vm.get_at];rfl) hz1 hz2,zjT]
  rfl
 simp only [Tryz.f26,zA8,zd];refine zc (tk:=[]) (by kernel_rfl) ?_
 simp only [zi,go_os_nil,zd,kE,z9,zg,ze,zE,ofVal,z0,zj,opQ_val,zl,zAC,qg,zAi,zAS,List.length_nil,zAT,zAb,zAY,zAW,zf,zAI,zAJ,List.replicate,hz3,qO (show okC (.agg (ecells e))=true from rfl),V.laid,wV]
 refine zc (tk:=[]) (by kernel_rfl) ?_
 simp only [zi,go_os_nil,zd,go_skip,zt,zbK,qx,peeks,zO,peek,zb,opQ_val,zl,zh,qA,zp,zAB,zAC,zR,je,zAX,zAp,zG,zK,zf,zm,zAI,zAJ,hld,h11,unA]
 refine .inr ⟨rfl,?_⟩
 try simp only [go_skip,zd]
 refine zc (tk:=[]) (by kernel_rfl) ?_
 simp only [zi,go_os_nil,zt,zw,zg,qx,peeks,zO,peek,ze,zE,ofVal,zb,zj,opQ_val,opQ_skip,zl,qA,zp,zAB,zAC,zR,je,zAX,zAp,zf,zm,zAI,zAJ,hld,c50,kN,hs]
 simp only [go_ret,zD,Fx]
 have hl2:∀ g,zJ Tryz.prog ⟨bs++[.cells (ecells e) 27,.cells (lc (lenE e)) 63],[]⟩ g 63 (.ptr (bs.length+1) 0)=some (lnV (lenE e)):=fun g=>zkR (by rw [show nth (bs++[Blk.cells (ecells e) 27,Blk.cells (lc (lenE e)) 63]) (bs.length+1)=Hp.get ⟨bs++[Blk.cells (ecells e) 27,Blk.cells (lc (lenE e)) 63],[]⟩ (bs.length+1) from rfl,Vm.get_at];rfl)
 refine ⟨trivial,[lnV (lenE e),.nili],?_,rfl,_,rfl⟩;simp [zM,hl2,wK,nth]
end Go.Proofs.YtlnijcffanjieaaGreatDoor
namespace Go.Proofs.YtlnijcffanjieaaGreatDoor
open Go Go.Vm
structure LOk (L:Wo->Prop) (x:Ln) (k:Int):Prop where
 no:x.no=true->∀ u,¬ L u
 lo:x.no=false->0<=x.le/\x.le<=k/\-1<=x.mo/\x.mo<=k
 at_:x.no=false->∃ u,L u/\(u.length:Int)=x.le
 le:x.no=false->∀ u,L u->x.le<=u.length/\(0<=x.mo->(u.length:Int)<=x.mo)
 mo:x.no=false->0<=x.mo->∃ u,L u/\(u.length:Int)=x.mo
 un:x.no=false->x.mo<0->∃ u,L u/\u≠[]
theorem LOk.congr {L M:Wo->Prop} {x:Ln} {k:Int} (h:LOk L x k) (e:∀ u,L u ↔ M u):LOk M x k:=by
 have:L=M:=funext fun u=>propext (e u);rw [<- this];exact h
theorem LOk.mono {L:Wo->Prop} {x:Ln} {k k':Int} (h:LOk L x k) (hk:k<=k'):LOk L x k' :=
 {h with lo:=fun hn=>by have:=h.lo hn;omega }
def zn0 (L M:Wo->Prop) (u:Wo):Prop:=∃ x y,u=x++y/\L x/\M y
theorem zcC {a b:Int}:Sx.ltz a b=true ↔ a<b:=by simp [Sx.ltz]
theorem zkU {a b:Int}:Sx.ltz a b=false ↔ b<=a:=by simp [Sx.ltz]
theorem zn1 {L M:Wo->Prop} {a b:Ln} {ka kb:Int} (ha:LOk L a ka) (hb:LOk M b kb) (hk:ka+kb<=1000000) (_h0:0<=ka/\0<=kb):LOk (zn0 L M) (zes a b) (ka+kb):=by
 unfold zes;cases han:a.no with
 | true =>
  simp only [Bool.true_or,zBm];refine ⟨fun _ u ⟨x,y,_,hx,_⟩=>ha.no han x hx,?_,?_,?_,?_,?_⟩<;>(intro h;cases h)
 | false =>
  cases hbn:b.no with
  | true =>
   simp only [Bool.or_true,zBm];refine ⟨fun _ u ⟨x,y,_,_,hy⟩=>hb.no hbn y hy,?_,?_,?_,?_,?_⟩<;>(intro h;cases h)
  | false =>
   obtain ⟨a1,a2,a3,a4⟩:=ha.lo han;obtain ⟨b1,b2,b3,b4⟩:=hb.lo hbn;obtain ⟨u,hu,hul⟩:=ha.at_ han;obtain ⟨v,hv,hvl⟩:=hb.at_ hbn;have hA:=ha.le han;have hB:=hb.le hbn;simp only [Bool.or_self,zBl];rw [w64 (x:=a.le+b.le) (by omega) (by omega),w64 (x:=a.mo+b.mo) (by omega) (by omega)]
   have hat:∃ w,zn0 L M w/\(w.length:Int)=a.le+b.le:=⟨u++v,⟨u,v,rfl,hu,hv⟩,by simp;omega⟩
   cases hm:(Sx.ltz a.mo 0 || Sx.ltz b.mo 0) with
   | true =>
    simp only [zBm];refine ⟨fun h=>(by cases h),fun _=>⟨by dsimp only;omega,by dsimp only;omega,by dsimp only;omega,by dsimp only;omega⟩,fun _=>hat,fun _ w ⟨x,y,e,hx,hy⟩=>?_,fun _ h=>(by dsimp only at h;omega),fun _ _=>?_⟩
    ·subst e;have:=(hA x hx).1;have:=(hB y hy).1;exact ⟨by simp;omega,fun h=>(by dsimp only at h;omega)⟩
    ·rw [zAZ,zcC,zcC] at hm;rcases hm with hm|hm
     ·obtain ⟨x,hx,hne⟩:=ha.un han hm;exact ⟨x++v,⟨x,v,rfl,hx,hv⟩,by simp [hne]⟩
     ·obtain ⟨y,hy,hne⟩:=hb.un hbn hm;exact ⟨u++y,⟨u,y,rfl,hu,hy⟩,by simp [hne]⟩
   | false =>
    simp only [zBl];rw [zBX,zkU,zkU] at hm;refine ⟨fun h=>(by cases h),fun _=>⟨by dsimp only;omega,by dsimp only;omega,by dsimp only;omega,by dsimp only;omega⟩,fun _=>hat,fun _ w ⟨x,y,e,hx,hy⟩=>?_,fun _ h=>?_,fun _ h=>by dsimp only at h;omega⟩
    ·subst e;obtain ⟨p1,p2⟩:=hA x hx;obtain ⟨q1,q2⟩:=hB y hy;have:=p2 hm.1;have:=q2 hm.2;exact ⟨by simp;omega,fun _=>by simp;omega⟩
    ·obtain ⟨x,hx,hxl⟩:=ha.mo han hm.1;obtain ⟨y,hy,hyl⟩:=hb.mo hbn hm.2;exact ⟨x++y,⟨x,y,rfl,hx,hy⟩,by simp;omega⟩
theorem zgw {L M:Wo->Prop} {a b:Ln} {k:Int} (ha:LOk L a k) (hb:LOk M b k) (h0:0<=k):LOk (fun u=>L u\/M u) (zbo a b) k:=by
 unfold zbo;cases han:a.no with
 | true =>
  simp only [zBm];exact hb.congr fun u=>⟨.inr,fun h=>h.resolve_left (ha.no han u)⟩
 | false =>
  cases hbn:b.no with
  | true =>
   simp only [zBm,zBl];exact ha.congr fun u=>⟨.inl,fun h=>h.resolve_right (hb.no hbn u)⟩
  | false =>
   obtain ⟨a1,a2,a3,a4⟩:=ha.lo han;obtain ⟨b1,b2,b3,b4⟩:=hb.lo hbn;obtain ⟨u,hu,hul⟩:=ha.at_ han;obtain ⟨v,hv,hvl⟩:=hb.at_ hbn;have hA:=ha.le han;have hB:=hb.le hbn;simp only [zBl];obtain ⟨ml,hml,hm1,hm2,hm3⟩:∃ ml:Int,(bif Sx.ltz b.le a.le then b.le else a.le)=ml/\ml<=a.le/\ml<=b.le/\(ml=a.le\/ml=b.le):=by
    cases h:Sx.ltz b.le a.le with
    | true=>rw [zcC] at h;exact ⟨b.le,rfl,by omega,by omega,.inr rfl⟩
    | false=>rw [zkU] at h;exact ⟨a.le,rfl,by omega,by omega,.inl rfl⟩
   obtain ⟨mm,hmm,hn1,hn2,hn3⟩:∃ mm:Int,(bif Sx.ltz a.mo b.mo then b.mo else a.mo)=mm/\a.mo<=mm/\b.mo<=mm/\(mm=a.mo\/mm=b.mo):=by
    cases h:Sx.ltz a.mo b.mo with
    | true=>rw [zcC] at h;exact ⟨b.mo,rfl,by omega,by omega,.inr rfl⟩
    | false=>rw [zkU] at h;exact ⟨a.mo,rfl,by omega,by omega,.inl rfl⟩
   rw [hml,hmm];have hat:∃ w,(L w\/M w)/\(w.length:Int)=ml:=by
    rcases hm3 with h|h
    ·exact ⟨u,.inl hu,by omega⟩
    ·exact ⟨v,.inr hv,by omega⟩
   cases hm:(Sx.ltz a.mo 0 || Sx.ltz b.mo 0) with
   | true =>
    simp only [zBm];refine ⟨fun h=>(by cases h),fun _=>⟨by dsimp only;omega,by dsimp only;omega,by dsimp only;omega,by dsimp only;omega⟩,fun _=>hat,fun _ w hw=>?_,fun _ h=>(by dsimp only at h;omega),fun _ _=>?_⟩
    ·refine ⟨?_,fun h=>(by dsimp only at h;omega)⟩
     rcases hw with hw|hw
     ·have:=(hA w hw).1;dsimp only;omega
     ·have:=(hB w hw).1;dsimp only;omega
    ·rw [zAZ,zcC,zcC] at hm;rcases hm with hm|hm
     ·obtain ⟨x,hx,hne⟩:=ha.un han hm;exact ⟨x,.inl hx,hne⟩
     ·obtain ⟨y,hy,hne⟩:=hb.un hbn hm;exact ⟨y,.inr hy,hne⟩
   | false =>
    simp only [zBl];rw [zBX,zkU,zkU] at hm;refine ⟨fun h=>(by cases h),fun _=>⟨by dsimp only;omega,by dsimp only;omega,by dsimp only;omega,by dsimp only;omega⟩,fun _=>hat,fun _ w hw=>?_,fun _ h=>?_,fun _ h=>by dsimp only at h;omega⟩
    ·rcases hw with hw|hw
     ·obtain ⟨p1,p2⟩:=hA w hw;have:=p2 hm.1;exact ⟨by dsimp only;omega,fun _=>by dsimp only;omega⟩
     ·obtain ⟨p1,p2⟩:=hB w hw;have:=p2 hm.2;exact ⟨by dsimp only;omega,fun _=>by dsimp only;omega⟩
    ·rcases hn3 with h'|h'
     ·obtain ⟨x,hx,hxl⟩:=ha.mo han hm.1;exact ⟨x,.inl hx,by dsimp only;omega⟩
     ·obtain ⟨x,hx,hxl⟩:=hb.mo hbn hm.2;exact ⟨x,.inr hx,by dsimp only;omega⟩
theorem ziH (k:Int) (hk:0<=k):LOk (fun u=>u=[]) ⟨false,0,0⟩ k :=
 ⟨fun h=>(by cases h),fun _=>⟨by dsimp only;omega,by dsimp only;omega,by dsimp only;omega,by dsimp only;omega⟩,fun _=>⟨[],rfl,rfl⟩,fun _ u hu=>by subst hu;exact ⟨by simp,fun _=>by simp⟩,fun _ _=>⟨[],rfl,rfl⟩,fun _ h=>(by dsimp only at h;omega)⟩
theorem zn2 {L:Wo->Prop} {x:Ln} {k:Int} (h:LOk L x k):LOk (Plus L) (bif !x.no && !(x.mo == 0) then ⟨x.no,x.le,-1⟩ else x) k:=by
 cases hn:x.no with
 | true =>
  simp only [zAs,zBt,zBl];have hno:=zfn (h.no hn);refine ⟨fun _=>hno,?_,?_,?_,?_,?_⟩<;>(intro h';rw [hn] at h';cases h')
 | false =>
  obtain ⟨a1,a2,a3,a4⟩:=h.lo hn;obtain ⟨u,hu,hul⟩:=h.at_ hn;have hA:=h.le hn;have hmin:∀ u,Plus L u->x.le<=u.length:=fun u hp=>by
   induction hp with
   | one k=>exact (hA _ k).1
   | more k _ ih=>simp;omega
  cases hm:(x.mo == 0) with
  | true =>
   have hm0:x.mo=0:=by simpa using hm
   simp only [zAs,Bool.and_false,zBl];have hz:∀ u,Plus L u->(u.length:Int)<=0:=fun u hp=>by
    induction hp with
    | one k=>have:=(hA _ k).2 (by omega);omega
    | more k _ ih=>have:=(hA _ k).2 (by omega);simp;omega
   refine ⟨fun h'=>(by rw [hn] at h';cases h'),fun _=>⟨a1,a2,a3,a4⟩,fun _=>⟨u,.one hu,hul⟩,fun _ v hv=>⟨hmin v hv,fun _=>(by have:=hz v hv;omega)⟩,fun _ h0=>?_,fun _ h0=>(by omega)⟩
   obtain ⟨w,hw,hwl⟩:=h.mo hn h0;exact ⟨w,.one hw,hwl⟩
  | false =>
   have hm0:x.mo≠0:=by simpa using hm
   simp only [zAw,Bool.and_true,zBm];refine ⟨fun h'=>(by cases h'),fun _=>⟨a1,a2,by dsimp only;omega,by dsimp only;omega⟩,fun _=>⟨u,.one hu,hul⟩,fun _ v hv=>⟨hmin v hv,fun h'=>(by dsimp only at h';omega)⟩,fun _ h'=>(by dsimp only at h';omega),fun _ _=>?_⟩
   by_cases h0:x.mo<0
   ·obtain ⟨w,hw,hne⟩:=h.un hn h0;exact ⟨w,.one hw,hne⟩
   ·obtain ⟨w,hw,hwl⟩:=h.mo hn (by omega)
    exact ⟨w,.one hw,fun e=>by subst e;simp at hwl;omega⟩
theorem foldCat_ok:∀ (l:List E) (M:Wo->Prop) (x:Ln) (k:Int),LOk M x k->0<=k->(∀ a∈l,LOk (Lang a) (lenE a) (nodes a))->k+nodesF l<=1000000->LOk (zn0 M (LCat l)) ((l.map lenE).foldl zes x) (k+nodesF l)
 | [],M,x,k,h,h0,_,_=>by
  refine (h.mono (by simp [nodesF])).congr fun u=>⟨fun hu=>⟨u,[],by simp,hu,rfl⟩,?_⟩
  rintro ⟨p,q,rfl,hp,hq⟩;have hq':q=[]:=hq;rw [hq',zA0];exact hp
 | a::l,M,x,k,h,h0,hl,hk=>by
  simp only [nodesF] at hk;have ha:=hl a (zAL ..);have h1:=zn1 h ha (by omega) ⟨h0,by omega⟩
  have h2:=foldCat_ok l _ _ _ h1 (by omega) (fun b hb=>hl b (zAE _ hb)) (by omega)
  simp only [zAX,List.foldl_cons];refine (h2.mono (by simp only [nodesF];omega)).congr fun u=>⟨?_,?_⟩
  ·rintro ⟨p,q,rfl,⟨r,s,rfl,hr,hs⟩,hq⟩;exact ⟨r,s++q,by simp,hr,s,q,rfl,hs,hq⟩
  ·rintro ⟨p,q,rfl,hp,r,s,rfl,hr,hs⟩;exact ⟨p++r,s,by simp,⟨p,r,rfl,hp,hr⟩,hs⟩
theorem foldAlt_ok:∀ (l:List E) (M:Wo->Prop) (x:Ln) (k:Int),LOk M x k->0<=k->(∀ a∈l,LOk (Lang a) (lenE a) k)->LOk (fun u=>M u\/LAlt l u) ((l.map lenE).foldl zbo x) k
 | [],M,x,k,h,h0,_=>h.congr fun u=>⟨.inl,fun hu=>hu.resolve_right (by simp [LAlt])⟩
 | a::l,M,x,k,h,h0,hl=>by
  have h1:=zgw h (hl a (zAL ..)) h0;have h2:=foldAlt_ok l _ _ _ h1 h0 fun b hb=>hl b (zAE _ hb);simp only [zAX,List.foldl_cons];exact h2.congr fun u=>by simp only [LAlt,or_assoc]
end Go.Proofs.YtlnijcffanjieaaGreatDoor
namespace Go.Proofs.YtlnijcffanjieaaGreatDoor
open Go Go.Vm
theorem zcD {a:E}:∀ {l:List E},a∈l->nodes a<=nodesF l
 | b::l,h=>by
  simp only [nodesF];rcases zAO.1 h with rfl|h
  ·omega
  ·have:=zcD h;omega
theorem zpk {pl s0 s1 s2 s3 mn mx:Int} {tx:List Nat} {nl:Bool} {args:List E} (h:kindB (.mk 7 pl s0 s1 s2 s3 tx mn mx nl args)=true):(mn=0/\mx = -1)\/(mn=1/\mx = -1)\/(mn=0/\mx=1):=by
 simp [kindB] at h;obtain ⟨h1,h2⟩:=h;omega
theorem len_Lang:∀ (N:Nat) (e:E),YtlnijcffanjieaaGreatDoor.hg e<=N->Cor e->Rg e->nodes e<=1000000->LOk (Lang e) (lenE e) (nodes e)
 | 0,e,h,_,_,_=>by cases e;simp only [YtlnijcffanjieaaGreatDoor.hg] at h;omega
 | N+1,.mk op pl s0 s1 s2 s3 tx mn mx nl args,h,hc,hr,hk=>by
  have hfo:=fo_Lang _ _ (zAR _) hc hr;have hc':=hc;simp only [YtlnijcffanjieaaGreatDoor.hg] at h;obtain ⟨_,hkd,hlen,hcs⟩:=hc;obtain ⟨_,hrs⟩:=hr;simp only [nodes] at hk ⊢;have ih:∀ a∈args,LOk (Lang a) (lenE a) (nodes a):=fun a ha=>by
   have h1:=zaZ ha;have h2:=zcD ha;exact len_Lang N a (by omega) (hcs.mem ha) (hrs.mem ha) (by omega)
  by_cases h2:op=2
  ·subst h2;simp only [foW,if_true] at hfo
   by_cases h0:(s0,s1,s2,s3)=st0
   ·simp only [h0,if_true] at hfo;have hle:lenE (.mk 2 pl s0 s1 s2 s3 tx mn mx nl args)=noL:=by simp only [lenE,if_true,h0]
    rw [hle];refine ⟨fun _=>hfo,?_,?_,?_,?_,?_⟩<;>(intro h;cases h)
   ·rw [if_neg h0] at hfo;obtain ⟨f1,f2,f3⟩:=hfo;obtain ⟨u,hu⟩:=some_LW f1;rw [f3] at hu;have hle:lenE (.mk 2 pl s0 s1 s2 s3 tx mn mx nl args)=⟨false,1,1⟩:=by simp only [lenE,if_true,if_neg h0]
    rw [hle];have hall:∀ u,Lang (.mk 2 pl s0 s1 s2 s3 tx mn mx nl args) u->u.length=1:=fun u hu=>by
     simp only [Lang,if_true] at hu;obtain ⟨c,rfl,_⟩:=hu;rfl
    have hul:=hall u hu;refine ⟨fun h=>(by cases h),fun _=>⟨by dsimp only;omega,by dsimp only;omega,by dsimp only;omega,by dsimp only;omega⟩,fun _=>⟨u,hu,by rw [hul];rfl⟩,fun _ v hv=>by rw [hall v hv];exact ⟨Int.le_refl _,fun _=>Int.le_refl _⟩,fun _ _=>⟨u,hu,by rw [hul];rfl⟩,fun _ h=>(by dsimp only at h;omega)⟩
  by_cases h5:op=5
  ·subst h5;cases args with
   | nil=>simp [kindB,Sx.ltz] at hkd
   | cons a l =>
    have h1:=foldCat_ok l _ _ _ (ih a (zAL ..)) (by omega) (fun b hb=>ih b (zAE _ hb)) (by simp only [nodesF] at hk;omega)
    have hle:lenE (.mk 5 pl s0 s1 s2 s3 tx mn mx nl (a::l))=(l.map lenE).foldl zes (lenE a):=by simp [lenE,lensE_eq,zfo]
    rw [hle];refine (h1.mono (by simp only [nodesF];omega)).congr fun u=>?_
    simp only [Lang,LCat,zn0];simp
  by_cases h6:op=6
  ·subst h6;cases args with
   | nil=>simp [kindB,Sx.ltz] at hkd
   | cons a l =>
    have hm:∀ b∈a::l,LOk (Lang b) (lenE b) ((1+nodesF (a::l):Nat):Int):=fun b hb=>(ih b hb).mono (by have:=zcD hb;omega)
    have h1:=foldAlt_ok l _ _ _ (hm a (zAL ..)) (by omega) (fun b hb=>hm b (zAE _ hb))
    have hle:lenE (.mk 6 pl s0 s1 s2 s3 tx mn mx nl (a::l))=(l.map lenE).foldl zbo (lenE a):=by simp [lenE,lensE_eq,zfo]
    rw [hle];refine h1.congr fun u=>?_;simp only [Lang,LAlt];simp
  by_cases h7:op=7
  ·subst h7;obtain ⟨⟨a,rfl⟩,_⟩:=zmQ hkd;have ha:=(ih a (zAL ..)).mono (k':=((1+nodesF [a]:Nat):Int)) (by simp only [nodesF];omega)
   have hle:lenE (.mk 7 pl s0 s1 s2 s3 tx mn mx nl [a])=xo mn mx (lenE a):=by simp [lenE,lensE_eq]
   rw [hle];have hp:=zn2 ha;rcases zpk hkd with ⟨rfl,rfl⟩|⟨rfl,rfl⟩|⟨rfl,rfl⟩
   ·have h1:=zgw hp (ziH _ (by omega)) (by omega)
    have:xo 0 (-1) (lenE a)=zbo (bif !(lenE a).no && !((lenE a).mo == 0) then ⟨(lenE a).no,(lenE a).le,-1⟩ else lenE a) ⟨false,0,0⟩:=by
     unfold xo;rw [show ((-1:Int) == -1)=true from rfl,zBQ];generalize (!(lenE a).no && !((lenE a).mo == 0))=b;cases b<;>rfl
    rw [this];refine h1.congr fun u=>?_;simp only [Lang,LHead];simp [or_comm]
   ·have:xo 1 (-1) (lenE a)=(bif !(lenE a).no && !((lenE a).mo == 0) then ⟨(lenE a).no,(lenE a).le,-1⟩ else lenE a):=by
     unfold xo;rw [show ((-1:Int) == -1)=true from rfl,zBQ];generalize (!(lenE a).no && !((lenE a).mo == 0))=b;cases b<;>rfl
    rw [this];refine hp.congr fun u=>?_;simp only [Lang,LHead];simp
   ·have h1:=zgw ha (ziH _ (by omega)) (by omega)
    have:xo 0 1 (lenE a)=zbo (lenE a) ⟨false,0,0⟩:=by
     unfold xo;simp
    rw [this];refine h1.congr fun u=>?_;simp only [Lang,LHead];simp [or_comm]
  ·have hle:lenE (.mk op pl s0 s1 s2 s3 tx mn mx nl args)=⟨false,0,0⟩:=by simp only [lenE,h2,h5,h6,h7,if_false]
   rw [hle];refine (ziH _ (by omega)).congr fun u=>?_
   simp only [Lang,h2,h5,h6,h7,if_false]
end Go.Proofs.YtlnijcffanjieaaGreatDoor
namespace Go.Proofs.YtlnijcffanjieaaGreatDoor
open Go Go.Vm
theorem zhY {e:E} (hc:Cor e) (hr:Rg e) (t:Wo) (n:Nat):n∈vO e t ↔ n<=t.length/\Lang e (t.take n):=by
 have f:=fo_Lang _ e (zAR _) hc hr;unfold vO;cases h:foW e with
 | none =>
  rw [h] at f;exact ⟨fun h=>(by simp at h),fun h=>(f _ h.2).elim⟩
 | some w =>
  rw [h] at f;obtain ⟨a1,a2,a3⟩:=f;rw [znY a1 a2,a3]
theorem zjU {e:E} (hc:Cor e) (hr:Rg e) (t:Wo) (c:Nat):wb (zeq e t) c=true ↔ ∃ v,Lang e (t++c::v):=by
 have f:=fo_Lang _ e (zAR _) hc hr;unfold zeq;cases h:foW e with
 | none =>
  rw [h] at f;refine ⟨fun h=>?_,fun ⟨v,hv⟩=>(f _ hv).elim⟩;rw [xK] at h;cases h
 | some w =>
  rw [h] at f;obtain ⟨a1,a2,a3⟩:=f;rw [zqk a1 a2,a3]
theorem zpl {e:E} (hc:Cor e) (hr:Rg e) (t:Wo):RgS (zeq e t):=by
 unfold zeq;cases h:foW e with
 | none=>exact (show RgS st0 by decide)
 | some w=>exact nx_rg _ _ (runE_rg7 t w 0 (foW_rg _ e w (zAR _) hc hr h))
theorem zmS {e:E} (hc:Cor e) (hr:Rg e) (hk:nodes e<=1000000) {t:Wo} {n:Nat} (h:n∈vO e t):(lenE e).no=false/\(lenE e).le<=n/\(0<=(lenE e).mo->(n:Int)<=(lenE e).mo):=by
 have hL:=len_Lang _ e (zAR _) hc hr hk;rw [zhY hc hr] at h;have hno:(lenE e).no=false:=by
  cases hn:(lenE e).no with
  | true=>exact (hL.no hn _ h.2).elim
  | false=>rfl
 have:=hL.le hno _ h.2;rw [zA7,Nat.min_eq_left h.1] at this;exact ⟨hno,this⟩
theorem zmT {e:E} (hc:Cor e) (hr:Rg e) (hk:nodes e<=1000000):zeq e []=st0 ↔ ((lenE e).no=true\/(lenE e).mo=0):=by
 have hL:=len_Lang _ e (zAR _) hc hr hk;constructor
 ·intro h;have hw:∀ u,Lang e u->u=[]:=fun u hu=>by
   cases u with
   | nil=>rfl
   | cons c v =>
    have:wb (zeq e []) c=true:=(zjU hc hr [] c).2 ⟨v,hu⟩;rw [h,xK] at this;cases this
  cases hn:(lenE e).no with
  | true=>exact .inl rfl
  | false =>
   refine .inr ?_
   by_cases h0:(lenE e).mo<0
   ·obtain ⟨u,hu,hne⟩:=hL.un hn h0;exact (hne (hw u hu)).elim
   ·obtain ⟨u,hu,hul⟩:=hL.mo hn (by omega)
    rw [hw u hu] at hul;simp at hul;omega
 ·intro h;refine Classical.byContradiction fun hne=>?_;obtain ⟨b,_,hb⟩:=zhK (zpl hc hr []) hne;obtain ⟨v,hv⟩:=(zjU hc hr [] b).1 hb;rcases h with h|h
  ·exact hL.no h _ hv
  ·cases hn:(lenE e).no with
   | true=>exact hL.no hn _ hv
   | false =>
    have:=(hL.le hn _ hv).2 (by omega)
    simp at this;omega
theorem zn3 {e:E} (hc:Cor e) (hr:Rg e) (hk:nodes e<=1000000):vO e []=if (lenE e).no=false/\(lenE e).le=0 then [0] else []:=by
 have hL:=len_Lang _ e (zAR _) hc hr hk;have hlen:=zhW e [];have h0:∀ n,n∈vO e [] ↔ n=0/\Lang e []:=fun n=>by
  rw [zhY hc hr];constructor
  ·rintro ⟨h1,h2⟩;have:n=0:=by simpa using h1
   subst this;exact ⟨rfl,h2⟩
  ·rintro ⟨rfl,h2⟩;exact ⟨zAR _,h2⟩
 have hiff:Lang e [] ↔ ((lenE e).no=false/\(lenE e).le=0):=by
  constructor
  ·intro h;have hno:(lenE e).no=false:=by
    cases hn:(lenE e).no with
    | true=>exact (hL.no hn _ h).elim
    | false=>rfl
   have h1:=(hL.le hno _ h).1;have h2:=(hL.lo hno).1;simp at h1;exact ⟨hno,by omega⟩
  ·rintro ⟨hno,hle⟩;obtain ⟨u,hu,hul⟩:=hL.at_ hno;have:u=[]:=by
    rw [hle] at hul;exact zBR.1 (by omega)
   rw [this] at hu;exact hu
 cases hg:vO e [] with
 | nil =>
  split
  ·rename_i h;have:=(h0 0).2 ⟨rfl,hiff.2 h⟩;rw [hg] at this;cases this
  ·rfl
 | cons a l =>
  have ha:=(h0 a).1 (by rw [hg];exact zAL ..)
  rw [if_pos (hiff.1 ha.2)];rw [hg] at hlen;have:l=[]:=by simpa using hlen
  rw [this,ha.1]
end Go.Proofs.YtlnijcffanjieaaGreatDoor
namespace Go.Proofs.YtlnijcffanjieaaGreatDoor
open Go Go.Vm Go.Vm.Sx
def Q26 (e:E):Prop:=GdE e/\zaR e=true
def ofV (e:E):V:=.tup [lnV (lenE e),.nili]
theorem zjV (e:E):(ofV e).top=0:=rfl
theorem i26:∀ a b,Q26 a->Q26 b->zc7 a=zc7 b->ofV a=ofV b:=fun a b ha hb h=>by
 rw [enc_inj a b ha.1.2 hb.1.2 (List.cons.inj h).1]
noncomputable def gl3:Gl:={ g:=glw,hk:=fun f args=>if Nat.beq f 26 then hkX zc7 Q26 ofV args else gl1.hk f args }
theorem hk3:HkOk Tryz.prog gl3:=by
 refine ⟨fun f args v h d H g w cargs lc h1 h2 h3=>?_,fun n f args H out H' h=>(by cases h),fun _ _ _ _ h=>(by cases h)⟩
 simp only [gl3] at h;split at h
 ·rename_i hf;obtain rfl:f=26:=zAQ hf;obtain ⟨e,hq,rfl,rfl⟩:=yo h;exact yx mixed numOk primOk hkN (e26 hq.1 hq.2 (zAR _) [] []) (by simp [tops,top_enc]) (zjV e) h1 h2 h3
 ·exact hk1.1 f args v h d H g w cargs lc h1 h2 h3
instance : NoU gl3:=⟨fun _=>rfl,fun _ _ _ _=>rfl⟩
theorem GL3:GL gl3 where
 top:=top_glw
 no:=fun f hf args=>by
  simp only [List.any_cons,List.any_nil,Bool.or_false,zBX] at hf;simp only [gl3,gl1,hf.1,hf.2.1,hf.2.2.1,hf.2.2.2.2.2.1,zAD,if_false]
theorem zrb {e:E} (h:Q26 e):Ev Tryz.prog gl3 26 [.d (enc e)] [] (ofV e) [] :=
 Sx.Ev.hook (xs:=[enc e]) (show gl3.hk 26 _=_ from kM (en:=zc7) (a:=e) i26 h) (zjV e)
theorem gv12:Ev Tryz.prog gl3 12 [] [] (.bool true) []:=Sx.Ev.hook (xs:=[]) rfl rfl
theorem zqp {e:E} {nl:Bool} {t:List Nat} (h:GdE e) (hr:Rg e) (ht:∀ b∈t,b<256):Ev Tryz.prog gl3 14 [.d (enc e),.d (jo nl t)] [] (zcA e t) [] :=
 Sx.Ev.hook (xs:=[enc e,jo nl t]) (show gl3.hk 14 _=_ from kM (en:=ziC) (F:=fun p=>zcA p.1 p.2.2) (a:=(e,nl,t)) i14 ⟨h,hr,ht⟩) (zhR e t)
theorem zrc {e:E} {nl:Bool} {t:List Nat} (h:GdE e) (hr:Rg e) (ht:∀ b∈t,b<256):Ev Tryz.prog gl3 16 [.d (enc e),.d (jo nl t)] [] (zcB e t) [] :=
 Sx.Ev.hook (xs:=[enc e,jo nl t]) (show gl3.hk 16 _=_ from kM (en:=ziC) (F:=fun p=>zcB p.1 p.2.2) (a:=(e,nl,t)) i14 ⟨h,hr,ht⟩) (zhS e t)
end Go.Proofs.YtlnijcffanjieaaGreatDoor
namespace Go.Proofs.YtlnijcffanjieaaGreatDoor
set_option maxRecDepth 10000
open Go Go.Vm
theorem c27:Tryz.prog.cellsOf 27=10:=by kernel_rfl
theorem c24:Tryz.prog.cellsOf 24=4:=by kernel_rfl
theorem c22:Tryz.prog.cellsOf 22=1:=by kernel_rfl
theorem c25:Tryz.prog.cellsOf 25=1:=by kernel_rfl
theorem c28:Tryz.prog.cellsOf 28=1:=by kernel_rfl
theorem c34:Tryz.prog.cellsOf 34=1:=by kernel_rfl
theorem c30:Tryz.prog.cellsOf 30=11:=by kernel_rfl
theorem c9:Tryz.prog.cellsOf 9=1:=by kernel_rfl
theorem c3':Tryz.prog.cellsOf 3=1:=by kernel_rfl
theorem c5':Tryz.prog.cellsOf 5=1:=by kernel_rfl
theorem zrd (cs:List V):xw Tryz.prog 27 cs=.agg cs:=by
 have:za6 Tryz.prog 27=true:=by kernel_rfl
 simp only [xw,this,if_true]
theorem zre (x:V):xw Tryz.prog 34 [x]=x:=by
 have:za6 Tryz.prog 34=false:=by kernel_rfl
 simp only [xw,this,zAD,if_false];rfl
theorem mk5 (x:V):xw Tryz.prog 5 [x]=x:=by
 have:za6 Tryz.prog 5=false:=by kernel_rfl
 simp only [xw,this,zAD,if_false];rfl
theorem zgx {n:Nat} {xs:List V} (h:jp Tryz.prog n 3 xs):∃ z,xs=[.int .i64 z]:=by
 cases n with
 | zero=>exact h.elim
 | succ n =>
  simp only [jp,Tryz.underlying3] at h;obtain ⟨z,h,_⟩:=h;exact ⟨z,h⟩
theorem zpm {n:Nat} {xs:List V} (h:jp Tryz.prog n 5 xs):∃ z:Nat,xs=[.int .u8 z]/\z<256:=by
 cases n with
 | zero=>exact h.elim
 | succ n =>
  simp only [jp,Tryz.underlying5] at h;obtain ⟨z,h,hw⟩:=h;have h1:0<=z/\z<256:=by
   simp [Lit.wf,IntKind.min,IntKind.max,IntKind.signed,IntKind.bits] at hw;omega
  exact ⟨z.toNat,by rw [h,Int.toNat_of_nonneg h1.1],by omega⟩
theorem zdp {n:Nat} {xs:List V} (h:jp Tryz.prog n 22 xs):∃ z,xs=[.int .u64 z]/\r64 z:=by
 cases n with
 | zero=>exact h.elim
 | succ n =>
  simp only [jp,Tryz.underlying22] at h;obtain ⟨z,h,hw⟩:=h;refine ⟨z,h,?_⟩;simp [Lit.wf,IntKind.min,IntKind.max,IntKind.signed,IntKind.bits] at hw;unfold r64;omega
theorem zpn {n:Nat} {xs:List V} (h:jp Tryz.prog n 9 xs):∃ s,xs=[.str s]/\(∀ b∈s,b<256)/\s.length<=maxLen:=by
 cases n with
 | zero=>exact h.elim
 | succ n =>
  simp only [jp,Tryz.underlying9] at h;exact h
theorem zn4 {n:Nat} {xs:List V} (h:jp Tryz.prog n 24 xs):∃ a b c d,xs=[.int .u64 a,.int .u64 b,.int .u64 c,.int .u64 d]/\RgS (a,b,c,d):=by
 cases n with
 | zero=>exact h.elim
 | succ n =>
  simp only [jp,Tryz.underlying24,c24,c22] at h;obtain ⟨hl,h⟩:=h
  match xs,hl with
  | [x,y,z,w],_ =>
   obtain ⟨a,ha,ra⟩:=zdp (h 0 (by omega))
   obtain ⟨b,hb,rb⟩:=zdp (h 1 (by omega))
   obtain ⟨c,hc,rc⟩:=zdp (h 2 (by omega))
   obtain ⟨d,hd,rd⟩:=zdp (h 3 (by omega))
   simp at ha hb hc hd;exact ⟨a,b,c,d,by rw [ha,hb,hc,hd],ra,rb,rc,rd⟩
theorem encs_ex:∀ (ys:List V),(∀ y∈ys,∃ e,enc e=y/\GdE e/\Rg e)->∃ l,encs l=ys/\Wfs l/\Cans l/\Rgs l
 | [],_=>⟨[],rfl,trivial,trivial,trivial⟩
 | y::ys,h=>by
  obtain ⟨e,h1,h2,h5⟩:=h y zAL;obtain ⟨l,h3,h4,h6,h7⟩:=encs_ex ys fun z hz=>h z (zAE _ hz);exact ⟨e::l,by simp [encs,h1,h3],⟨h2.1,h4⟩,⟨h2.2,h6⟩,h5,h7⟩
theorem zgy {α:Type} {h:α->V} {Q:α->Prop}:∀ (ys:List V),(∀ y∈ys,∃ a,h a=y/\Q a)->∃ l:List α,l.map h=ys/\∀ a∈l,Q a
 | [],_=>⟨[],rfl,fun _ h=>by simp at h⟩
 | y::ys,hy=>by
  obtain ⟨a,h1,h2⟩:=hy y (zAL ..);obtain ⟨l,h3,h4⟩:=zgy ys fun z hz=>hy z (zAE _ hz);refine ⟨a::l,by simp [h1,h3],fun b hb=>?_⟩
  rcases zAO.1 hb with rfl|hb
  ·exact h2
  ·exact h4 b hb
mutual
theorem typedE:∀ (n:Nat) (xs:List V),jp Tryz.prog n 27 xs->∃ e,enc e=.agg xs/\GdE e/\Rg e
 | 0,_,h=>h.elim
 | n+1,xs,h=>by
  simp only [jp,Tryz.underlying27,c27] at h;obtain ⟨hl,h⟩:=h;have f0:=h ⟨ "Op",3,0,false,"","",0⟩ (by simp)
  have f1:=h ⟨ "At",3,1,false,"","",8⟩ (by simp)
  have f2:=h ⟨ "Set",24,2,false,"","",16⟩ (by simp)
  have f3:=h ⟨ "Text",9,6,false,"","",48⟩ (by simp)
  have f4:=h ⟨ "Min",3,7,false,"","",64⟩ (by simp)
  have f5:=h ⟨ "Max",3,8,false,"","",72⟩ (by simp)
  have f6:=h ⟨ "Args",25,9,false,"","",80⟩ (by simp)
  clear h;simp only [c3',c24,c9,c25] at f0 f1 f2 f3 f4 f5 f6
  match xs,hl with
  | [x0,x1,x2,x3,x4,x5,x6,x7,x8,x9],_ =>
   simp only [List.drop_succ_cons,zBo,List.take_succ_cons,List.take_zero] at f0 f1 f2 f3 f4 f5 f6;obtain ⟨op,h0⟩:=zgx f0;obtain ⟨pl,h1⟩:=zgx f1;obtain ⟨a,b,c,d,h2,hr⟩:=zn4 f2;obtain ⟨s,h3,_,hs⟩:=zpn f3;obtain ⟨mn,h4⟩:=zgx f4;obtain ⟨mx,h5⟩:=zgx f5;obtain ⟨nl,l,h6,h7,h8,h9,h10,h11⟩:=typedL n x9 f6;simp only [zAm,zBF] at h0 h1 h2 h3 h4 h5;obtain ⟨rfl,rfl,rfl,rfl⟩:=h2;subst h0 h1 h3 h4 h5 h6
   exact ⟨.mk op pl a b c d s mn mx nl l,rfl,⟨⟨hs,h7,h8⟩,h11,h9⟩,hr,h10⟩
theorem typedL:∀ (n:Nat) (v:V),jp Tryz.prog n 25 [v]->∃ nl l,v=zW nl (encs l)/\l.length<=maxLen/\Wfs l/\Cans l/\Rgs l/\(nl=true->l=[])
 | 0,_,h=>h.elim
 | n+1,v,h=>by
  simp only [jp,Tryz.underlying25,c27] at h;rcases h with h|⟨ys,h,⟨hl,_⟩,hy⟩
  ·simp only [zAm,zBF] at h;exact ⟨true,[],by rw [h];rfl,by simp,trivial,trivial,trivial,fun _=>rfl⟩
  ·simp only [zAm,zBF] at h;obtain ⟨l,h1,h2,h3,h4⟩:=encs_ex ys fun y hyy=>by
    obtain ⟨cs,g1,g2⟩:=hy y hyy;rw [zrd] at g2;rw [g2];exact typedE n cs g1
   subst h1;rw [encs_length] at hl;exact ⟨false,l,by rw [h];rfl,hl,h2,h3,h4,fun h=>by cases h⟩
end
abbrev Tx:=Bool×List Nat
def txV (p:Tx):V:=jo p.1 p.2
def zgz (nl:Bool) (l:List Tx):V:=Sx.lv 1 nl (l.map txV)
def zkV (p:Tx):Prop:=p.2.length<=maxLen/\∀ b∈p.2,b<256
theorem zn5 {n:Nat} {xs:List V} (h:jp Tryz.prog n 34 xs):∃ p:Tx,xs=[txV p]/\zkV p:=by
 cases n with
 | zero=>exact h.elim
 | succ n =>
  simp only [jp,Tryz.underlying34,c5'] at h;rcases h with h|⟨ys,h,⟨hl,_⟩,hy⟩
  ·exact ⟨(true,[]),h,by simp [zkV]⟩
  ·obtain ⟨l,h1,h2⟩:=zgy (h:=fun b:Nat=>V.int .u8 (b:Nat)) (Q:=fun b=>b<256) ys fun y hyy=>by
    obtain ⟨ds,g1,g2⟩:=hy y hyy;obtain ⟨z,g3,g4⟩:=zpm g1;rw [g3,mk5] at g2;exact ⟨z,g2.symm,g4⟩
   subst h1;rw [zA2] at hl;exact ⟨(false,l),h,hl,h2⟩
theorem zn6 {n:Nat} {v:V} (h:jp Tryz.prog n 28 [v]):∃ nl l,v=zgz nl l/\l.length<=maxLen/\∀ p∈l,zkV p:=by
 cases n with
 | zero=>exact h.elim
 | succ n =>
  simp only [jp,Tryz.underlying28,c34] at h;rcases h with h|⟨ys,h,⟨hl,_⟩,hy⟩
  ·simp only [zAm,zBF] at h;exact ⟨true,[],by rw [h];rfl,by simp,by simp⟩
  ·simp only [zAm,zBF] at h;obtain ⟨l,h1,h2⟩:=zgy (h:=txV) (Q:=zkV) ys fun y hyy=>by
    obtain ⟨cs,g1,g2⟩:=hy y hyy;obtain ⟨p,g3,g4⟩:=zn5 g1;rw [g3,zre] at g2;exact ⟨p,g2.symm,g4⟩
   subst h1;rw [zA2] at hl;exact ⟨false,l,by rw [h];rfl,hl,h2⟩
theorem zn7 {n:Nat} {xs:List V} (h:jp Tryz.prog n 30 xs):∃ e nl l,xs=ecells e++[zgz nl l]/\(GdE e/\Rg e)/\l.length<=maxLen/\∀ p∈l,zkV p:=by
 cases n with
 | zero=>exact h.elim
 | succ n =>
  simp only [jp,Tryz.underlying30,c30] at h;obtain ⟨hl,h⟩:=h;have f0:=h ⟨ "E",27,0,false,"","",0⟩ (by simp)
  have f1:=h ⟨ "Texts",28,10,false,"","",104⟩ (by simp)
  clear h;simp only [c27,c28] at f0 f1;rw [zBo] at f0;obtain ⟨e,he,ge⟩:=typedE n _ f0;obtain ⟨x,hx⟩:∃ x,(xs.drop 10).take 1=[x]:=by
   match xs,hl with
   | [_,_,_,_,_,_,_,_,_,_,x],_=>exact ⟨x,rfl⟩
  rw [hx] at f1;obtain ⟨nl,l,rfl,k1,k2⟩:=zn6 f1;rw [qw,V.agg.injEq] at he;refine ⟨e,nl,l,?_,ge,k1,k2⟩;have e1:(xs.drop 10).take 1=xs.drop 10:=zBM (by simp [hl])
  rw [he,<- hx,e1,zBC]
end Go.Proofs.YtlnijcffanjieaaGreatDoor
namespace Go.Proofs.YtlnijcffanjieaaGreatDoor
set_option maxRecDepth 10000
open Go Go.Vm Go.Vm.Sx
theorem zqq {x:V}:vJ Tryz.prog [30] [.d x] 0:=by
 refine ⟨fun e=>?_,trivial⟩;rw [Tryz.underlying30];simp
theorem zmU (nl:Bool) (l:List Tx):kOk (.sl 1) (zgz nl l)=true:=zoU ..
theorem ziI (nl:Bool) (l:List Tx):vL (zgz nl l)=l.map txV:=zmg ..
theorem tops_tx:∀ l:List Tx,tops (l.map txV)=0
 | []=>rfl
 | a::l=>by simp only [zAX,tops];rw [tops_tx l];simp [txV,zdn]
theorem zn8 (nl:Bool) (l:List Tx):(zgz nl l).top=0:=by unfold zgz;rw [ziw];exact tops_tx l
theorem zn9 {l:List Tx} {i:Nat} {p:Tx} (h:l[i]?=some p):nth (l.map txV) i=some (jo p.1 p.2):=by rw [zq,zAl,h];rfl
theorem zjW {e:E} {t:List Nat} (h:okP e t=true):zcA e t=.tup [nvL (vO e t),.nili]:=by simp only [zcA,h,if_true,zjL]
theorem zoa {e:E} {t:List Nat} (h:okP e t=true):zcB e t=.tup [stV (zeq e t),.nili]:=by simp only [zcB,h,if_true]
theorem kIfc:kOk .ifc .nili=true:=rfl
theorem zob {t:List Nat} (h:∀ b∈t,b<256) (n:Nat):∀ b∈t.take n,b<256:=fun b hb=>h b (zA3 hb)
theorem zoc {t:List Nat} (h:∀ b∈t,b<256):∀ b∈zer t,b<256:=by
 unfold zer;split
 ·exact zob h 40
 ·exact h
end Go.Proofs.YtlnijcffanjieaaGreatDoor
namespace Go.Proofs.YtlnijcffanjieaaGreatDoor
set_option maxRecDepth 10000
open Go Go.Vm Go.Vm.Sx
theorem lent7:jR Tryz.prog Tryz.f7.params.toList=some []:=by kernel_rfl
theorem ev7 (e:E) (he:GdE e) (hr:Rg e) (nl:Bool) (l:List Tx) (hl:l.length<=maxLen) (htx:∀ p∈l,zkV p):Ev Tryz.prog gl3 7 [.d (.agg (ecells e++[zgz nl l]))] [] (.bool true) []:=by
 have hgl:=GL3;have hml:=maxLen_le;have hmg:41<=maxLen:=by decide
 refine jc (xs:=[.agg (ecells e++[zgz nl l])]) hgl.top (fun args=>hgl.no 7 rfl args) tree7_ok Tryz.func7 lent7 zqq (by simp [tops,V.top,kY,zhO,zn8]) (N:=l.length+60) ?_
 have hsz:=ziB (e:=e) he.1;obtain ⟨op,pl,s0,s1,s2,s3,text,mn,mx,nl',args⟩:=e;have c10:=kW (zpE hgl (.mk op pl s0 s1 s2 s3 text mn mx nl' args) he.1 0);have c11:=kW (zo9 hgl (.mk op pl s0 s1 s2 s3 text mn mx nl' args) he.1);have c12:=kW gv12;simp only [enc] at c10 c11;simp only [tree7,ecells,zAY,zAW];cases hs:ltz 400 (sizeM (.mk op pl s0 s1 s2 s3 text mn mx nl' args) 0) with
 | true=>simp only [jM,zP,zN,ev_opn,qZ,jg,qC,qH,zU,jL,vD,kK,ks_nil,zAc,zAs,qm,zy,zI,evB,evI,zr,evC,zC,kX,evA,qD,qR,zY,kc,joinL,sizesOk,zv,kP,wa,zmU,qn,c10,c12,hs]
 | false =>
 cases hk:zaR (.mk op pl s0 s1 s2 s3 text mn mx nl' args) with
 | false =>
  rw [hk] at c11;simp only [jC,zP,zN,ev_opn,qZ,jg,qC,qH,zU,jL,vD,kK,ks_nil,zAc,zAw,qm,zy,zI,evB,evI,zr,evC,zC,kX,evA,qD,qR,zY,qY,kc,joinL,sizesOk,zv,kP,wa,zmU,qn,c10,c11,c12,hs]
 | true =>
  rw [hk] at c11;have hcor:=zdm hk;have hle4:sizeM (.mk op pl s0 s1 s2 s3 text mn mx nl' args) 0<=400:=by rw [Sx.ltz,decide_eq_false_iff_not] at hs;omega
  have hnd:nodes (.mk op pl s0 s1 s2 s3 text mn mx nl' args)<=1000000:=by have:=hsz (by omega);omega
  have c26:=kW (zrb (e:=.mk op pl s0 s1 s2 s3 text mn mx nl' args) ⟨he,hk⟩);have kl:kOk .raw (lnV (lenE (.mk op pl s0 s1 s2 s3 text mn mx nl' args)))=true:=rfl;have kn:kOk .ifc V.nili=true:=rfl;simp only [enc,ofV] at c26;obtain ⟨X,hX⟩:∃ X,X=lenE (.mk op pl s0 s1 s2 s3 text mn mx nl' args):=⟨_,rfl⟩;rw [<- hX] at c26 kl;obtain ⟨xn,xl,xm⟩:=X;simp only [lnV] at c26 kl
  simp only [jC,jM,ev_opn,ev_unt,qZ,jg,qC,qH,zU,jL,vD,kK,ks_nil,zAc,zAs,zAw,qm,zy,zI,evB,evI,zr,evC,zC,kX,evA,qD,zY,qY,kc,joinL,sizesOk,zv,kP,wa,zmU,qn,c10,c11,c26,hs,kl,kn];rw [jM (by rfl)]
  simp only [zaL,evI,zr,evC];refine zhy (st:=fun i=>[.int .i64 (i:Int)]) (m:=min l.length 12) (fun i hi=>?_) ?_ (by omega)
  ·have hil:i<l.length:=by omega
   obtain ⟨p,hp⟩:∃ p,l[i]?=some p:=⟨l[i],by simp [hil]⟩
   have hpt:=htx p (zAh hp);have h1:=zjv hil;have h1b:ltz (i:Int) 12=true:=zcW (by omega)
   have h2:=zn9 hp;have h4:=znH (i:=i) (by omega)
   have c13:=kW (zqW hgl p.1 p.2);obtain ⟨t,ht⟩:∃ t,t=zer p.2:=⟨_,rfl⟩;obtain ⟨nb,hnb⟩:∃ nb,nb=(p.1 && p.2.isEmpty):=⟨_,rfl⟩;rw [<- ht,<- hnb] at c13;have htb:∀ b∈t,b<256:=by rw [ht];exact zoc hpt.2
   simp only [lp7_2]
   by_cases hlen:40<t.length
   ·have h5:ltz 40 (t.length:Int)=true:=zcW (by omega)
    simp only [jC,zP,xG,qZ,jg,qC,qH,ks_nil,zAc,qm,vK,zy,zI,evB,evI,evL,zr,evC,zC,kX,evA,qD,zY,j9,kc,biI,zea,joinL,sizesOk,ziI,zau,h1,h1b,h2,h4,h5,c13,zhQ,kg,zA2,zBd]
   ·have h5:ltz 40 (t.length:Int)=false:=zb2 (by omega)
    have hokt:okP (.mk op pl s0 s1 s2 s3 text mn mx nl' args) t=true:=by
     simp only [okP,hk,zBQ,decide_eq_true_eq];omega
    have c14:=kW (zqp (nl:=nb) he hr htb);rw [zjW hokt] at c14;simp only [enc] at c14;simp only [jC,jM,xG,ev_unt,qZ,jg,qC,qH,zU,ks_nil,zAc,qm,vK,zy,zI,evB,evI,evL,zr,evC,zC,kX,evA,qD,zY,j9,kc,zea,joinL,sizesOk,zv,kP,ziI,zau,h1,h1b,h2,h5,c13,c14,zhQ,zor,kIfc,kg,qn,zA2,zBd];rw [jM (by rfl)]
    simp only [zaL,evI,zr,evC];have hg1:=zhW (.mk op pl s0 s1 s2 s3 text mn mx nl' args) t;refine zhy (st:=fun n=>[.int .i64 (n:Int)]) (m:=(vO (.mk op pl s0 s1 s2 s3 text mn mx nl' args) t).length) (fun n hn=>?_) ?_ (by omega)
    ·obtain ⟨k,hkk⟩:∃ k,(vO (.mk op pl s0 s1 s2 s3 text mn mx nl' args) t)[n]?=some k:=⟨_,zAV hn⟩;have hlg:=zmS hcor hr hnd (zAh hkk);rw [<- hX] at hlg;obtain ⟨g1,g2,g3⟩:=hlg
     dsimp only at g1 g2 g3
     subst g1;have i1:=zjv hn;have i2:=zmH hkk;have i4:=znH (i:=n) (by omega)
     have i5:ltz (k:Int) xl=false:=zb2 (by omega)
     simp only [lp7_1]
     by_cases hm0:0<=xm
     ·have i6:lez 0 xm=true:=zju hm0;have i7:ltz xm (k:Int)=false:=zb2 (g3 hm0);simp only [jC,jM,zP,xG,qZ,qC,qH,jL,zAw,vK,zy,zI,evB,evI,evL,zr,evC,zY,qY,j9,kc,zcx,biI,zea,zbn,yn,i1,i2,i4,i5,i6,i7,zBd]
     ·have i6:lez 0 xm=false:=zoi (by omega)
      simp only [jC,jM,zP,xG,qZ,qC,qH,jL,zAw,vK,zy,zI,evB,evI,evL,zr,evC,zY,qY,j9,zcx,biI,zea,zbn,yn,i1,i2,i4,i5,i6,zBd]
    ·have i1:=zme (zAR (vO (.mk op pl s0 s1 s2 s3 text mn mx nl' args) t).length);simp only [lp7_1];simp only [jM,zP,ev_esc,qC,qH,zy,zI,evB,evI,evL,zr,evC,zY,j9,biI,zbn,yn,i1,h4]
  ·have hend:(ltz ((min l.length 12:Nat):Int) (l.length:Int) && ltz ((min l.length 12:Nat):Int) 12)=false:=by
    rcases Nat.le_total l.length 12 with h|h
    ·rw [zb2 (by omega)];rfl
    ·rw [zb2 (y:=12) (by omega),Bool.and_false]
   have hok0:okP (.mk op pl s0 s1 s2 s3 text mn mx nl' args) []=true:=by simp [okP,hk]
   have c14:=kW (zqp (nl:=true) (t:=[]) he hr (by simp))
   have c16:=kW (zrc (nl:=true) (t:=[]) he hr (by simp))
   rw [zjW hok0] at c14;rw [zoa hok0] at c16;have hb0:jo true []=.snil:=rfl;rw [hb0] at c14 c16;have hn1:=zmT hcor hr hnd;have hn2:=zn3 hcor hr hnd;have hLL:=len_Lang _ _ (zAR _) hcor hr hnd;rw [<- hX] at hn1 hn2 hLL
   dsimp only at hn1 hn2
   generalize zeq (.mk op pl s0 s1 s2 s3 text mn mx nl' args) []=nx at c16 hn1;generalize vO (.mk op pl s0 s1 s2 s3 text mn mx nl' args) []=gd at c14 hn2;obtain ⟨n0,n1,n2,n3⟩:=nx;have hkr:kOk .raw (stV (n0,n1,n2,n3))=true:=rfl;simp only [enc,stV] at c14 c16 hkr;have hz:(n0 == 0 && (n1 == 0 && (n2 == 0 && n3 == 0)))=decide (xn=true\/xm=0):=by
    rw [zBe,decide_eq_true_eq,<- hn1];simp [st0]
   have hlm:xn=false->0<=xm->xl<=xm:=fun h1 h2=>by
    obtain ⟨u,hu,hul⟩:=hLL.at_ h1;have:=(hLL.le h1 u hu).2 h2
    dsimp only at hul this
    omega
   have hl0:xn=false->0<=xl:=fun h1=>(hLL.lo h1).1;simp only [lp7_2];simp only [jM,ev_esc,ev_opn,ev_unt,jg,qC,qH,zU,jL,ks_nil,zAc,qm,zy,zI,evB,evI,evL,zr,evC,zC,kX,evA,qD,zY,j9,joinL,sizesOk,zv,kP,ziI,zA2,hend,c14,c16,hkr,zor,kIfc,qn];have b1:(true == true)=true:=rfl;have b2:(false == false)=true:=rfl;have z1:((0:Int) == 0)=true:=rfl;have z2:((0:Int) == 1)=false:=rfl
   have z3:((1:Int) == 0)=false:=rfl;have z4:((1:Int) == 1)=true:=rfl;have l0:((([]:List Nat).length:Nat):Int)=0:=rfl;have l1:((([0]:List Nat).length:Nat):Int)=1:=rfl;have zc0:((0:Nat):Int)=0:=rfl;have zc1:((0+1:Nat):Int)=1:=rfl;rw [jC (by rfl),jC (by rfl)]
   cases xn with
   | true =>
    have hz':=hz.trans (decide_eq_true (.inl rfl));have hgd:gd=[]:=hn2.trans (by simp)
    subst hgd;simp only [jC,jM,zP,zN,qZ,jg,qC,qH,kK,ks_nil,zAc,zAs,qm,zy,zI,evB,evI,evL,zr,evC,zC,kX,qD,qR,zY,qY,qX,joinL,sizesOk,zh,List.length_nil,hz',zbn,yn,zc0,b1,b2,z1,z2,c12]
   | false =>
    by_cases hm0:xm=0
    ·have hz':=hz.trans (decide_eq_true (.inr hm0));have h1:=hlm rfl (by omega)
     have h2:=hl0 rfl;have hl00:xl=0:=by omega
     have hgd:gd=[0]:=hn2.trans (by simp [hl00])
     subst hgd hm0 hl00;simp only [jC,zP,zN,qZ,jg,qC,qH,kK,ks_nil,zAc,zAw,qm,zy,zI,evB,evI,evL,zr,evC,zC,kX,qD,qR,zY,qY,qX,joinL,sizesOk,zh,zAS,List.length_nil,hz',zbn,yn,zc1,b1,b2,z1,z3,z4,c12]
    ·have hz':=hz.trans (decide_eq_false (by simp [hm0]))
     have hm1:(xm == 0)=false:=by simpa using hm0
     by_cases hl00:xl=0
     ·have hgd:gd=[0]:=hn2.trans (by simp [hl00])
      subst hgd hl00;simp only [jC,jM,zP,zN,qZ,jg,qC,qH,kK,ks_nil,zAc,zAw,qm,zy,zI,evB,evI,evL,zr,evC,zC,kX,qD,qR,zY,qY,qX,joinL,sizesOk,zh,zAS,List.length_nil,hz',zbn,yn,zc1,b1,b2,z1,z4,c12,hm1]
     ·have hgd:gd=[]:=hn2.trans (by simp [hl00])
      have hl1:(xl == 0)=false:=by simpa using hl00
      subst hgd;simp only [jC,jM,zP,zN,qZ,jg,qC,qH,kK,ks_nil,zAc,zAw,qm,zy,zI,evB,evI,evL,zr,evC,zC,kX,qD,qR,zY,qY,qX,joinL,sizesOk,zh,List.length_nil,hz',zbn,yn,zc0,b2,z2,c12,hm1,hl1]
end Go.Proofs.YtlnijcffanjieaaGreatDoor
namespace Go.Proofs.YtlnijcffanjieaaGreatDoor
set_option maxRecDepth 100000
open Go Go.Vm
def S0:List TypeId:=[3,5,9,22,24,25,27,28,34,30]
theorem closed0:S0.all (zc9 Tryz.prog S0)=true:=by kernel_rfl
theorem zpo {g:Gh} {xs:List V} {cs:Array Value} (h:RC g xs cs.toList):RelV g (.agg xs) (.agg cs):=by
 refine .agg (by rw [RC.length h,zBD]) (fun j x hx=>?_) fun j x v hx hv=>?_
 ·obtain ⟨v,_,hg⟩:=h.get j x hx;exact hg.1
 ·obtain ⟨v',hv',hg⟩:=h.get j x hx;rw [zBb,hv] at hv';cases hv';exact hg.2.1
theorem zjX {g:Gh}:∀ {xs:List V} {cs:List Value},RC g xs cs->tops xs=0
 | [],[],_=>rfl
 | x::xs,v::cs,h=>by simp [tops,h.1.2.2.1,zjX h.2]
 | [],_::_,h=>h.elim
 | _::_,[],h=>h.elim
end Go.Proofs.YtlnijcffanjieaaGreatDoor
namespace Go.Proofs.YtlnijcffanjieaaGreatDoor
set_option maxRecDepth 100000
open Go Go.Vm
theorem zrf (n:Nat) (xs:List V) (h:jp Tryz.prog n 30 xs):∃ k,∀ m,k<=m->zx Tryz.prog gl3 m 7 [.agg xs] ⟨[],[]⟩=some (.ret (.bool true),⟨[],[]⟩):=by
 obtain ⟨e,nl,l,rfl,⟨hg,hr⟩,hl,htx⟩:=zn7 h;exact Sx.Ev.run (xs:=[.agg (ecells e++[zgz nl l])]) (ev7 e hg hr nl l hl htx) ⟨[],[]⟩
end Go.Proofs.YtlnijcffanjieaaGreatDoor
