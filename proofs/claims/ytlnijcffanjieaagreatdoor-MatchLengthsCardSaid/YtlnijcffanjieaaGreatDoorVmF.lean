/- Sx: an operation, whichever; a region in the order of the text; Sx: where ways meet; Sx: a region whose order is drawn, where what is not in order commutes: it goes as in the order of the text; and what follows from it. Conditions: none but those that each theorem names. -/
import Derived.Test.YtlnijcffanjieaaGreatDoorVmD
import Derived.Test.YtlnijcffanjieaaGreatDoorVmE
namespace Go.Vm.Sx
set_option linter.unusedSectionVars false
open Go Go.Vm
variable {P:Program} {gl:Gl} {ph:PH} {N:Nat} {r:Nat×List V} {ρ ρ':List V} {pa pa':List Nat} {σ:Sg} {s:St} {n0:Nat} {B:List Blk} {env:List V} {H:Hp} {lk:List (Nat×Nat)} {df:List (V×List V)} {takes:List Tmp} {k:KT} {t:Tree}
variable [NoU gl]
structure Env (P:Program) (gl:Gl) (ph:PH):Prop where
 top:∀ g off v,gl g off=some v->v.top=0
 calls:zl1 P gl ph
theorem zga (hr:PRel ρ pa σ env H) {x:Operand} {f:Fn} {cs:List C} (h:zoL σ x=some (f,cs)):take env x=some (.fn f [] (zr ρ pa cs),env):=by
 cases x with
 | tmp tt =>
  simp only [zoL] at h;split at h
  ·rename_i f' cs' hs;cases h;obtain ⟨_,v,h1,h2⟩:=zbO hr hs;cases h2;simp only [take,h1,clr]
  ·cases h
 | _=>cases h
theorem zl3 (he:Env P gl ph) {o:Oper} (h:xOp P takes σ o k=some t) (hr:Rel n0 B ρ pa σ ⟨env,H,lk,df⟩) (hq:evT ph gl N t ρ=some r) (hpl:zkp takes o=true) :
  Step P gl ph N r n0 B k takes o σ ρ pa ⟨env,H,lk,df⟩:=by
 obtain ⟨dst,op,type,pos,after,guard⟩:=o;have pure:vG P σ op k=some t->qB takes dst=false->Step P gl ph N r n0 B k takes ⟨dst,op,type,pos,after,guard⟩ σ ρ pa ⟨env,H,lk,df⟩:=fun h ht=>xc (o:=⟨dst,op,type,pos,after,guard⟩) h hr hq ht;have tk:(∀ x,op≠.move x)->(∀ x,op≠.assign x)->(∀ t a,op≠.load t a)->(∀ c,op≠.call c)->qB takes dst=false:=fun h1 h2 h3 h4=>by
  simp only [zkp] at hpl;cases hh:qB takes dst with
  | false=>rfl
  | true =>
   rw [hh] at hpl;cases op<;>first|(cases hpl;done)|exact absurd rfl (h1 _)|exact absurd rfl (h2 _)|exact absurd rfl (h3 _ _)
 cases op
 case move x =>
  cases ht:qB takes dst with
  | true =>
   simp only [xOp,ht] at h;cases dst with
   | none=>cases ht
   | some d=>exact take_ok h hr hq fun cx=>zhb ht
  | false =>
   simp only [xOp,ht] at h;exact pure h ht
 case assign x =>
  simp only [xOp] at h;split at h
  ·rename_i f cs hf;refine ql h hq (zAK _) hr (v:=.fn f [] (zr ρ pa cs)) (fun n=>?_) (fun ρ'' pa'' e1 e2 v' hv'=>?_)
   ·rw [zg,zga hr.here hf];rfl
   ·cases hv';have:=zga (hr.ext ρ'' pa'' e1 e2) hf;rw [zga hr.here hf] at this;simp only [zAA,zAH,zBF] at this;exact this.symm
  ·exact take_ok h hr hq fun cx=>zg
 case pick c a b=>exact zno h hr hq (tk (by intros;simp) (by intros;simp) (by intros;simp) (by intros;simp))
 case load tt a =>
  cases ht:qB takes dst with
  | true =>
   cases dst with
   | none=>cases ht
   | some d=>exact zlW h hr hq ht
  | false =>
   cases a with
   | global g=>exact zns he.top h hr hq ht
   | _=>simp only [xOp,ht] at h;exact pure h ht
 case alloc tt=>exact alloc_ok h hr hq
 case box tt x=>exact box_ok h hr hq
 case store tt a x=>exact store_ok h hr hq
 case binOp op tt x y u=>exact zoQ h hr hq (tk (by intros;simp) (by intros;simp) (by intros;simp) (by intros;simp))
 case convert a b x=>exact znp h hr hq (tk (by intros;simp) (by intros;simp) (by intros;simp) (by intros;simp))
 case indexAddr tt x ix=>exact zlX h hr hq (tk (by intros;simp) (by intros;simp) (by intros;simp) (by intros;simp))
 case index tt x ix=>exact zlY h hr hq (tk (by intros;simp) (by intros;simp) (by intros;simp) (by intros;simp))
 case slice tt x lo hi mx=>exact zlZ h hr hq
 case buildSlice tt len ps=>exact zkw h hr hq
 case makeInterface tt x=>exact znr h hr hq
 case call c =>
  obtain ⟨callee,args,ats⟩:=c;simp only [xOp] at h;split at h
  ·rename_i x y tt u h1 h2;split at h
   ·rename_i hb;obtain rfl:=jI hb;obtain rfl:args=#[x,y]:=by apply Array.toList_inj.1;simpa using h1
    exact append_ok (by apply Array.toList_inj.1;simpa using h2) h hr hq
   ·cases h
  ·rename_i hne;refine pure h ?_;simp only [zkp] at hpl;cases hh:qB takes dst with
   | false=>rfl
   | true =>
    rw [hh] at hpl;simp only at hpl;split at hpl
    ·rename_i k1 k2 k3;exact (hne _ _ _ _ k2 k3 (by injection k1)).elim
    ·cases hpl
  ·exact znt he.calls h hr hq
  ·exact zl2 he.calls h hr hq
  ·cases h
 case makeFunc f first cap =>
  simp only [xOp] at h;split at h
  ·rename_i cs hf hcs;exact zhs hf hcs h hr hq
  ·cases h
 all_goals exact pure (by simpa only [xOp] using h) (tk (by intros;simp) (by intros;simp) (by intros;simp) (by intros;simp))
theorem zjl {cx:Cx} {all:Array Oper} {o:Oper} {os:List Oper} {x:OR} {v:V} {s':St} (hw:zS all o env=some true) (ho:cx.op takes o env H lk df=some (x,s')) (hx:znn x v) :
  cx.ops all takes (o::os) ⟨env,H,lk,df⟩=cx.ops all takes os ⟨zl s'.env o.dst v,s'.H,s'.lk,s'.defers⟩:=by
 simp only [Cx.ops,hw,ho];rcases hx with rfl|⟨rfl,rfl⟩<;>simp only [q8]
def zkz (ρ:List V) (pa:List Nat) (w:Option Bool):Gd->Prop
 | .yes=>w=some true
 | .no=>w=some false
 | .sym c=>∃ b,w=some b/\∀ ρ'' pa'',ρ <+: ρ''->pa <+: pa''->evB ρ'' c=b
theorem zjm {g:Gd} {tt:TB} {b:Bool} (h:znh σ.as tt=some g) (hr:Rel n0 B ρ pa σ s) (hb:∀ ρ'' pa'',ρ <+: ρ''->pa <+: pa''->evB ρ'' tt=b):zkz ρ pa (some b) g:=by
 have h0:=hb ρ pa (zAK _) (zAK _);unfold znh at h;split at h
 ·rename_i hk;cases h;simp only [zkz,<- h0,jT hr.here.as hk]
 ·rename_i hk;cases h;simp only [zkz,<- h0,jT hr.here.as hk]
 ·cases h;exact ⟨_,rfl,hb⟩
theorem guard_ok {all:Array Oper} {o:Oper} {g:Gd} (h:zf1 σ all o=some g) (hr:Rel n0 B ρ pa σ ⟨env,H,lk,df⟩):zkz ρ pa (zS all o env) g:=by
 unfold zf1 at h;unfold zS;split at h
 ·rename_i hg;cases h;simp only [hg,zkz]
 ·rename_i j want hg;simp only [hg];split at h
  ·cases h
  ·rename_i d hd;simp only [hd];split at h
   ·rename_i l hs;cases h;have:=hr.here.env _ _ _ hs rfl;simp only [zC,evC] at this;simp only [this,zkz]
   ·rename_i c hn hs;split at h
    ·rename_i tt ht;have hv:∀ ρ'' pa'',ρ <+: ρ''->pa <+: pa''->nth env d=some (.bool (evB ρ'' tt)):=fun ρ'' pa'' e1 e2=>by
      have:=(hr.ext ρ'' pa'' e1 e2).env _ _ _ hs rfl;simp only [zC] at this;rw [yO (pa:=pa'') (hr.ext ρ'' pa'' e1 e2).ks ht] at this;exact this
     have h0:=hv ρ pa (zAK _) (zAK _);have hst:∀ ρ'' pa'',ρ <+: ρ''->pa <+: pa''->evB ρ'' tt=evB ρ tt:=fun ρ'' pa'' e1 e2=>by
      have:=(hv ρ'' pa'' e1 e2).symm.trans h0;simpa using this
     have hw:∀ ρ'' pa'',ρ <+: ρ''->pa <+: pa''->evB ρ'' (ze0 want tt)=(evB ρ tt == want):=fun ρ'' pa'' e1 e2=>by
      have:=hst ρ'' pa'' e1 e2;cases want<;>simp [ze0,jJ,this]
     simp only [h0];exact zjm h hr hw
    ·cases h
   ·rename_i g c hs;split at h
    ·rename_i tt ht;have hv:∀ ρ'' pa'',ρ <+: ρ''->pa <+: pa''->nth env d=some (bif evB ρ'' g then .bool (evB ρ'' tt) else .tup []):=fun ρ'' pa'' e1 e2=>by
      have:=(hr.ext ρ'' pa'' e1 e2).env _ _ _ hs rfl;simp only [zC] at this;rw [yO (pa:=pa'') (hr.ext ρ'' pa'' e1 e2).ks ht] at this;exact this
     have h0:=hv ρ pa (zAK _) (zAK _);have hst:∀ ρ'' pa'',ρ <+: ρ''->pa <+: pa''->evB ρ'' g=evB ρ g/\(evB ρ g=true->evB ρ'' tt=evB ρ tt):=fun ρ'' pa'' e1 e2=>by
      have:=(hv ρ'' pa'' e1 e2).symm.trans h0;cases h1:evB ρ'' g<;>cases h2:evB ρ g<;>rw [h1,h2] at this<;>simp at this ⊢;exact this
     have hw:∀ ρ'' pa'',ρ <+: ρ''->pa <+: pa''->evB ρ'' (zae g (ze0 want tt))=(evB ρ g && (evB ρ tt == want)):=fun ρ'' pa'' e1 e2=>by
      have h1:=(hst ρ'' pa'' e1 e2).1;have h2:=(hst ρ'' pa'' e1 e2).2;rw [yg,h1];cases hg:evB ρ g with
      | false=>rfl
      | true=>have:=h2 hg;cases want<;>simp [ze0,jJ,this]
     have hwant:(match (some (bif evB ρ g then V.bool (evB ρ tt) else .tup []):Option V) with|some (.bool b)=>some (b == want)|some (.tup _)=>some false|_=>none)=some (evB ρ g && (evB ρ tt == want)):=by
      cases evB ρ g<;>rfl
     simp only [h0];have:=zjm h hr hw;rw [<- hwant] at this;exact this
    ·cases h
   ·cases h
theorem zbX (he:Env P gl ph) {all:Array Oper} {kk:Sg->Option Tree}:∀ {os:List Oper} {σ:Sg} {ρ:List V} {pa:List Nat} {s:St} {t:Tree},zeE P all takes kk os σ=some t->Rel n0 B ρ pa σ s->evT ph gl N t ρ=some r ->
  ∃ σ' ρ' pa' t' s',kk σ'=some t'/\evT ph gl N t' ρ'=some r/\ρ <+: ρ'/\pa <+: pa'/\Rel n0 B ρ' pa' σ' s'/\∃ k0,∀ n,k0<=n->Cx.ops ⟨P,gl,zx P gl n,gl.uq⟩ all takes os s=some (.normal,s')
 | [],σ,ρ,pa,s,t,h,hr,hq=>⟨σ,ρ,pa,t,s,h,hq,zAK _,zAK _,hr,0,fun n _=>rfl⟩
 | o::os,σ,ρ,pa,⟨env,H,lk,df⟩,t,h,hr,hq=>by
  have run:∀ {σ0:Sg} {ρ0:List V} {t0:Tree},zkp takes o=true->zS all o env=some true->Rel n0 B ρ0 pa σ0 ⟨env,H,lk,df⟩->ρ <+: ρ0->xOp P takes σ0 o (fun σ v=>zeE P all takes kk os (putS σ o.dst v))=some t0->evT ph gl N t0 ρ0=some r ->
    ∃ σ' ρ' pa' t' s',kk σ'=some t'/\evT ph gl N t' ρ'=some r/\ρ <+: ρ'/\pa <+: pa'/\Rel n0 B ρ' pa' σ' s'/\∃ k0,∀ n,k0<=n->Cx.ops ⟨P,gl,zx P gl n,gl.uq⟩ all takes (o::os) ⟨env,H,lk,df⟩=some (.normal,s'):=by
   intro σ0 ρ0 t0 htk hw hr0 hpre h0 hq0;obtain ⟨σ1,sv,ρ1,pa1,t1,x,s1,v,g1,g2,g3,g4,g5,⟨k1,g6⟩,g7,g8,_⟩:=zl3 he h0 hr0 hq0 htk;obtain ⟨env1,H1,lk1,df1⟩:=s1;have g5':=g5.putS (d:=o.dst) (sv:=sv) (v:=v) g8;obtain ⟨σ',ρ',pa',t',s',f1,f2,f3,f4,f5,k2,f6⟩:=zbX he g1 g5' g2;refine ⟨σ',ρ',pa',t',s',f1,f2,(hpre.trans g3).trans f3,g4.trans f4,f5,max k1 k2,fun n hn=>?_⟩;rw [zjl hw (g6 n (by omega)) g7]
   exact f6 n (by omega)
  have skip:∀ {σ0:Sg} {ρ0:List V} {t0:Tree},zS all o env=some false->Rel n0 B ρ0 pa σ0 ⟨env,H,lk,df⟩->ρ <+: ρ0->zeE P all takes kk os (putS σ0 o.dst tup0)=some t0->evT ph gl N t0 ρ0=some r ->
    ∃ σ' ρ' pa' t' s',kk σ'=some t'/\evT ph gl N t' ρ'=some r/\ρ <+: ρ'/\pa <+: pa'/\Rel n0 B ρ' pa' σ' s'/\∃ k0,∀ n,k0<=n->Cx.ops ⟨P,gl,zx P gl n,gl.uq⟩ all takes (o::os) ⟨env,H,lk,df⟩=some (.normal,s'):=by
   intro σ0 ρ0 t0 hw hr0 hpre h0 hq0;have g5':=hr0.putS (d:=o.dst) (sv:=tup0) (v:=.tup []) (fun _ _ _ _ v' hv'=>by cases hv';rfl)
   obtain ⟨σ',ρ',pa',t',s',f1,f2,f3,f4,f5,k2,f6⟩:=zbX he h0 g5' hq0;refine ⟨σ',ρ',pa',t',s',f1,f2,hpre.trans f3,f4,f5,k2,fun n hn=>?_⟩;simp only [Cx.ops,hw,q8];exact f6 n hn
  simp only [zeE] at h;split at h
  ·cases h
  ·rename_i htk;simp only [zAr,zBZ] at htk;split at h
   ·cases h
   ·rename_i hg;exact skip (guard_ok hg hr) hr (zAK _) h hq
   ·rename_i hg;exact run htk (guard_ok hg hr) hr (zAK _) h hq
   ·rename_i c hg;obtain ⟨b,hw,hb⟩:=guard_ok hg hr;split at h
    ·rename_i x hd hx;cases b with
     | true =>
      have hr1:=hr.cond (c:=c) hb;have hdst:qB takes o.dst=false:=by
       cases hdd:o.dst with
       | none=>rfl
       | some d=>rw [hdd] at hd;simpa using hd
      obtain ⟨v,e1,e2⟩:=zbP (gl:=gl) (lk:=lk) (df:=df) (takes:=takes) hr1.here hdst hx;have e3:∀ ρ'' pa'',ρ <+: ρ''->pa <+: pa''->zC ρ'' pa'' x=v:=fun ρ'' pa'' f1 f2=>by
       obtain ⟨w,e4,e5⟩:=zbP (gl:=gl) (lk:=lk) (df:=df) (takes:=takes) (hr1.ext ρ'' pa'' f1 f2) hdst hx;have:=(e1 (zx P gl 0) gl.uq).symm.trans (e4 (zx P gl 0) gl.uq);simp only [zAA,zAH,OR.val.injEq] at this;cases e5;exact this.1.symm
      have g5':=hr.putS (d:=o.dst) (sv:=.gd c x) (v:=v) (fun ρ'' pa'' f1 f2 v' hv'=>by
       simp only [jt,hb ρ'' pa'' f1 f2,zBm,zAA] at hv'
       rw [<- hv',e3 ρ'' pa'' f1 f2])
      obtain ⟨σ',ρ',pa',t',s',f1,f2,f3,f4,f5,k2,f6⟩:=zbX he h g5' hq;refine ⟨σ',ρ',pa',t',s',f1,f2,f3,f4,f5,k2,fun n hn=>?_⟩;rw [zjl hw (e1 _ _) (.inl rfl)];exact f6 n hn
     | false =>
      have g5':=hr.putS (d:=o.dst) (sv:=.gd c x) (v:=.tup []) (fun ρ'' pa'' f1 f2 v' hv'=>by
       simp only [jt,hb ρ'' pa'' f1 f2,zBl,zAA] at hv'
       exact hv'.symm)
      obtain ⟨σ',ρ',pa',t',s',f1,f2,f3,f4,f5,k2,f6⟩:=zbX he h g5' hq;refine ⟨σ',ρ',pa',t',s',f1,f2,f3,f4,f5,k2,fun n hn=>?_⟩;simp only [Cx.ops,hw,q8];exact f6 n hn
    ·obtain ⟨ta,tb,h1,h2,h3⟩:=zbV h hq;have h0:=hb ρ pa (zAK _) (zAK _);rcases h3 with ⟨h3,h4⟩|⟨h3,h4⟩
     ·rw [h0] at h3;subst h3;exact run htk hw (hr.cond hb) (zAK _) h1 h4
     ·rw [h0] at h3;subst h3;exact skip hw (hr.cond (c:=mkNot c) fun ρ'' pa'' f1 f2=>by rw [jJ,hb ρ'' pa'' f1 f2];rfl) (zAK _) h2 h4
end Go.Vm.Sx
namespace Go.Vm.Sx
set_option linter.unusedSectionVars false
open Go Go.Vm
variable {P:Program} {gl:Gl} {ph:PH} {N:Nat} {r:Nat×List V} {ρ ρ':List V} {pa pa':List Nat} {σ σ' σJ:Sg} {s:St} {n0:Nat} {B:List Blk} {env:List V} {H:Hp} {lk:List (Nat×Nat)} {df:List (V×List V)} {takes:List Tmp} {k:KT} {t:Tree}
variable [NoU gl]
theorem znu {ck:CK} {v:V} (h:kOk ck v=true):kOk ck (clr v)=true:=by
 cases v with
 | sl sz xs o =>
  cases ck<;>simp only [kOk,zAD,zAF] at h<;>simp [kOk,clr,oneV,locked];exact jI h.1
 | _=>exact h
theorem zl4 (hk:∀ i k,nth σ.ks i=some k->kOk k (at' ρ i)=true) {ck:CK} {c:C} (h:zdV σ.ks ck c=true):kOk ck (evC ρ pa c)=true:=by
 cases c with
 | k v=>exact h
 | v i cl =>
  simp only [zdV] at h;split at h
  ·rename_i k' hn;have:=zc4 h;subst this;cases cl
   ·exact hk _ _ hn
   ·exact znu (hk _ _ hn)
  ·cases h
 | i k t =>
  simp only [zdV] at h;split at h
  ·have:=zc4 h;subst this;simp [kOk,evC]
  ·cases h
 | b t=>simp only [zdV] at h;split at h<;>first|rfl|cases h
 | s t=>simp only [zdV] at h;split at h<;>first|rfl|cases h
 | sl sz t o =>
  simp only [zdV] at h;split at h
  ·simp only [zAF] at h;simp only [kOk,evC,h.1,zBQ,zAr];cases o<;>first|rfl|(simp at h)
  ·cases h
 | p a off=>cases h
 | lkd i=>cases h
structure FitOk (kJ:List CK) (nxt:Nat) (x:List V):Prop where
 top:tops x=0
 ks:∀ j,j<x.length->∃ ck v,nth kJ (nxt+j)=some ck/\nth x j=some v/\kOk ck v=true
theorem FitOk.nil {kJ:List CK} {nxt:Nat}:FitOk kJ nxt []:=⟨rfl,fun j h=>by simp at h⟩
theorem FitOk.app {kJ:List CK} {nxt:Nat} {x y:List V} (h1:FitOk kJ nxt x) (h2:FitOk kJ (nxt+x.length) y):FitOk kJ nxt (x++y):=by
 refine ⟨by rw [kY,h1.top,h2.top];rfl,fun j hj=>?_⟩
 by_cases h:j<x.length
 ·obtain ⟨ck,v,a,b,c⟩:=h1.ks j h;exact ⟨ck,v,a,zaI b,c⟩
 ·obtain ⟨ck,v,a,b,c⟩:=h2.ks (j - x.length) (by simp at hj;omega)
  refine ⟨ck,v,by rw [show nxt+j=nxt+x.length+(j - x.length) by omega];exact a,?_,c⟩
  rw [zq] at b ⊢;rw [zAf (by omega)];exact b
variable {na base:Nat} {kJ:List CK}
theorem zjn (hp:PRel ρ' pa' σ' env H) (ht:tops ρ'=0) (h1:ρ <+: ρ') (hb:ρ.length=base) (h2:pa <+: pa') (hna:pa.length=na) {nxt:Nat} {cJ c:C} {x:List C} (h:zni na base nxt kJ σ'.ks cJ c=some x) :
  FitOk kJ nxt (zr ρ' [] x)/\∀ pre post pa'',base+pre.length=nxt->pa <+: pa''->evC (ρ++pre++zr ρ' [] x++post) pa'' cJ=evC ρ' pa' c:=by
 subst hb hna;have keep:∀ {cJ:C},smC cJ c=true->ltC ρ.length cJ=true->(∀ a off,cJ=.p a off->a<pa.length)->∀ y pa'',pa <+: pa''->evC (ρ++y) pa'' cJ=evC ρ' pa' c:=by
  intro cJ hs hl hpp y pa'' hpa;obtain ⟨z,rfl⟩:=h1;rw [zlL y hl,<- zoN _ _ hs,zlL z hl];cases cJ with
  | p a off =>
   have:=hpp a off rfl;simp only [evC];rw [jl hpa this,jl h2 this]
  | v i cl=>cases cl<;>rfl
  | _=>rfl
 unfold zni at h;split at h
 ·rename_i j;split at h
  ·rename_i hj;split at h
   ·rename_i hs;cases h;refine ⟨FitOk.nil,fun pre post pa'' _ hpa=>?_⟩;rw [zAb,zAb];exact keep hs hj (fun _ _ e=>by cases e) _ pa'' hpa
   ·cases h
  ·split at h
   ·rename_i ck hck;split at h
    ·rename_i hc;simp only [zAF] at hc;cases h;obtain ⟨⟨c1,c2⟩,c3⟩:=hc;obtain ⟨d1,d2,d3⟩:=zam (pa:=pa') hp.ks ht c3;refine ⟨⟨by simp only [zr,tops,d3 [],d1];rfl,fun i hi=>?_⟩,fun pre post pa'' hpre _=>?_⟩
     ·simp only [zr,List.length_singleton] at hi;obtain rfl:i=0:=by omega
      exact ⟨ck,evC ρ' [] c,by rw [zAv,<- jI c1];exact hck,rfl,by rw [d3 []];exact zl4 hp.ks c2⟩
     ·have hjn:=jI c1;subst hjn;simp only [zr];rw [d3 []];show at' _ j=_;rw [yN,zAb,zAb,zAf (by omega),zAf (by omega)]
      have:j - ρ.length - pre.length=0:=by omega
      rw [this];rfl
    ·cases h
   ·cases h
 ·rename_i a off;split at h
  ·rename_i hs;simp only [zAF] at hs;cases h;refine ⟨FitOk.nil,fun pre post pa'' _ hpa=>?_⟩;rw [zAb,zAb];exact keep hs.1 rfl (fun _ _ e=>by cases e;exact zaQ hs.2) _ pa'' hpa
  ·cases h
 ·rename_i hn1 hn2;split at h
  ·rename_i hs;simp only [zAF] at hs;cases h;refine ⟨FitOk.nil,fun pre post pa'' _ hpa=>?_⟩;rw [zAb,zAb];exact keep hs.1 hs.2 (fun _ _ e=>absurd e (hn2 _ _)) _ pa'' hpa
  ·cases h
theorem zap (hp:PRel ρ' pa' σ' env H) (ht:tops ρ'=0) (h1:ρ <+: ρ') (hb:ρ.length=base) (h2:pa <+: pa') (hna:pa.length=na):∀ {csJ cs:List C} {nxt:Nat} {x:List C},zdW na base nxt kJ σ'.ks csJ cs=some x ->
  FitOk kJ nxt (zr ρ' [] x)/\∀ pre post pa'',base+pre.length=nxt->pa <+: pa''->zr (ρ++pre++zr ρ' [] x++post) pa'' csJ=zr ρ' pa' cs
 | [],[],nxt,x,h=>by cases h;exact ⟨FitOk.nil,fun _ _ _ _ _=>rfl⟩
 | a::as,b::bs,nxt,x,h=>by
  simp only [zdW] at h;split at h
  ·rename_i x1 hx1;split at h
   ·rename_i x2 hx2;cases h;obtain ⟨a1,a2⟩:=zjn hp ht h1 hb h2 hna hx1;obtain ⟨b1,b2⟩:=zap hp ht h1 hb h2 hna hx2;have hx:zr ρ' [] (x1++x2)=zr ρ' [] x1++zr ρ' [] x2:=by simp [qk]
    rw [hx];refine ⟨a1.app (by rw [qv];exact b1),fun pre post pa'' hpre hpa=>?_⟩
    simp only [zr];have e1:=a2 pre (zr ρ' [] x2++post) pa'' hpre hpa;have e2:=b2 (pre++zr ρ' [] x1) post pa'' (by simp [qv];omega) hpa
    simp only [zAb] at e1 e2 ⊢;rw [e1,e2]
   ·cases h
  ·cases h
 | [],_::_,_,_,h=>by cases h
 | _::_,[],_,_,h=>by cases h
theorem zht (hp:PRel ρ' pa' σ' env H) (ht:tops ρ'=0) (h1:ρ <+: ρ') (hb:ρ.length=base) (h2:pa <+: pa') (hna:pa.length=na) {nxt:Nat} {cJ c:SC} {x:List C} (h:zjb na base nxt kJ σ'.ks cJ c=some x) :
  FitOk kJ nxt (zr ρ' [] x)/\∀ pre post pa'',base+pre.length=nxt->pa <+: pa''->zC (ρ++pre++zr ρ' [] x++post) pa'' cJ=zC ρ' pa' c:=by
 cases cJ<;>cases c<;>simp only [zjb,reduceCtorEq] at h
 ·exact zjn hp ht h1 hb h2 hna h
 ·obtain ⟨a,b⟩:=zap hp ht h1 hb h2 hna h;exact ⟨a,fun pre post pa'' e1 e2=>by simp only [zC];rw [b pre post pa'' e1 e2]⟩
theorem ze6 (hp:PRel ρ' pa' σ' env H) (ht:tops ρ'=0) (h1:ρ <+: ρ') (hb:ρ.length=base) (h2:pa <+: pa') (hna:pa.length=na):∀ {csJ cs:List SC} {nxt:Nat} {x:List C},zf3 na base nxt kJ σ'.ks csJ cs=some x ->
  FitOk kJ nxt (zr ρ' [] x)/\∀ pre post pa'',base+pre.length=nxt->pa <+: pa''->kT (ρ++pre++zr ρ' [] x++post) pa'' csJ=kT ρ' pa' cs
 | [],[],nxt,x,h=>by cases h;exact ⟨FitOk.nil,fun _ _ _ _ _=>rfl⟩
 | a::as,b::bs,nxt,x,h=>by
  simp only [zf3] at h;split at h
  ·rename_i x1 hx1;split at h
   ·rename_i x2 hx2;cases h;obtain ⟨a1,a2⟩:=zht hp ht h1 hb h2 hna hx1;obtain ⟨b1,b2⟩:=ze6 hp ht h1 hb h2 hna hx2;have hx:zr ρ' [] (x1++x2)=zr ρ' [] x1++zr ρ' [] x2:=by simp [qk]
    rw [hx];refine ⟨a1.app (by rw [qv];exact b1),fun pre post pa'' hpre hpa=>?_⟩
    simp only [kT];have e1:=a2 pre (zr ρ' [] x2++post) pa'' hpre hpa;have e2:=b2 (pre++zr ρ' [] x1) post pa'' (by simp [qv];omega) hpa
    simp only [zAb] at e1 e2 ⊢;rw [e1,e2]
   ·cases h
  ·cases h
 | [],_::_,_,_,h=>by cases h
 | _::_,[],_,_,h=>by cases h
theorem zl5 (hp:PRel ρ' pa' σ' env H) (ht:tops ρ'=0) (h1:ρ <+: ρ') (hb:ρ.length=base) (h2:pa <+: pa') (hna:pa.length=na) {nxt:Nat} {cJ c:SV} {x:List C} (h:ze2 na base nxt kJ σ'.ks cJ c=some x) :
  FitOk kJ nxt (zr ρ' [] x)/\∀ pre post pa'' v,base+pre.length=nxt->pa <+: pa''->jt (ρ++pre++zr ρ' [] x++post) pa'' cJ=some v->jt ρ' pa' c=some v:=by
 cases cJ with
 | unk=>cases h;exact ⟨FitOk.nil,fun _ _ _ _ _ _ h=>by cases h⟩
 | val a =>
  cases c<;>simp only [ze2,reduceCtorEq] at h;obtain ⟨e1,e2⟩:=zht hp ht h1 hb h2 hna h;exact ⟨e1,fun pre post pa'' v f1 f2 f3=>by cases f3;simp only [jt];rw [e2 pre post pa'' f1 f2]⟩
 | vp a =>
  cases c<;>simp only [ze2,reduceCtorEq] at h;obtain ⟨e1,e2⟩:=zap hp ht h1 hb h2 hna h;exact ⟨e1,fun pre post pa'' v f1 f2 f3=>by cases f3;simp only [jt];rw [e2 pre post pa'' f1 f2]⟩
 | tup a =>
  cases c<;>simp only [ze2,reduceCtorEq] at h;obtain ⟨e1,e2⟩:=ze6 hp ht h1 hb h2 hna h;exact ⟨e1,fun pre post pa'' v f1 f2 f3=>by cases f3;simp only [jt];rw [e2 pre post pa'' f1 f2]⟩
 | gd g a=>cases c<;>cases h
 | fn f a =>
  cases c<;>simp only [ze2,reduceCtorEq] at h;split at h
  ·rename_i hf;subst hf;obtain ⟨e1,e2⟩:=zap hp ht h1 hb h2 hna h;exact ⟨e1,fun pre post pa'' v f1 f2 f3=>by cases f3;simp only [jt];rw [e2 pre post pa'' f1 f2]⟩
  ·cases h
theorem ze7 (hp:PRel ρ' pa' σ' env H) (ht:tops ρ'=0) (h1:ρ <+: ρ') (hb:ρ.length=base) (h2:pa <+: pa') (hna:pa.length=na):∀ {eJ e:List SV} {nxt:Nat} {x:List C},zf4 na base nxt kJ σ'.ks eJ e=some x ->
  eJ.length=e.length/\FitOk kJ nxt (zr ρ' [] x)/\∀ pre post pa'',base+pre.length=nxt->pa <+: pa''->∀ i sv v,nth eJ i=some sv->jt (ρ++pre++zr ρ' [] x++post) pa'' sv=some v->∃ sv',nth e i=some sv'/\jt ρ' pa' sv'=some v
 | [],[],nxt,x,h=>by cases h;exact ⟨rfl,FitOk.nil,fun _ _ _ _ _ i sv v h=>by simp [nth] at h⟩
 | a::as,b::bs,nxt,x,h=>by
  simp only [zf4] at h;split at h
  ·rename_i x1 hx1;split at h
   ·rename_i x2 hx2;cases h;obtain ⟨a1,a2⟩:=zl5 hp ht h1 hb h2 hna hx1;obtain ⟨b0,b1,b2⟩:=ze7 hp ht h1 hb h2 hna hx2;have hx:zr ρ' [] (x1++x2)=zr ρ' [] x1++zr ρ' [] x2:=by simp [qk]
    rw [hx];refine ⟨by simp [b0],a1.app (by rw [qv];exact b1),fun pre post pa'' hpre hpa i sv v hi hv=>?_⟩
    have e1:=a2 pre (zr ρ' [] x2++post) pa'';have e2:=b2 (pre++zr ρ' [] x1) post pa'' (by simp [qv];omega) hpa
    simp only [zAb] at e1 e2 hv;cases i with
    | zero=>cases hi;exact ⟨b,rfl,e1 v hpre hpa hv⟩
    | succ i=>exact e2 i sv v hi hv
   ·cases h
  ·cases h
 | [],_::_,_,_,h=>by cases h
 | _::_,[],_,_,h=>by cases h
theorem zd3 (hp:PRel ρ' pa' σ' env H) (ht:tops ρ'=0) (h1:ρ <+: ρ') (hb:ρ.length=base) (h2:pa <+: pa') (hna:pa.length=na):∀ {bJ:List (Nat×List C×TypeId)} {nxt:Nat} {x:List C},zdc na base nxt kJ σ'.ks σ'.blks bJ=some x ->
  FitOk kJ nxt (zr ρ' [] x)/\(∀ a y,jv a bJ=some y->a<na)/\∀ pre post pa'',base+pre.length=nxt->pa <+: pa''->∀ a cs ty,jv a bJ=some (cs,ty)->∃ cs',jv a σ'.blks=some (cs',ty)/\zr (ρ++pre++zr ρ' [] x++post) pa'' cs=zr ρ' pa' cs'
 | [],nxt,x,h=>by cases h;exact ⟨FitOk.nil,fun a y h=>by simp [jv] at h,fun _ _ _ _ _ a cs ty h=>by simp [jv] at h⟩
 | (a,cs,t)::r,nxt,x,h=>by
  simp only [zdc] at h;split at h
  ·rename_i cs' t' hf;split at h
   ·rename_i hc;simp only [zAF] at hc;obtain rfl:=jI hc.1;split at h
    ·rename_i x1 hx1;split at h
     ·rename_i x2 hx2;cases h;obtain ⟨a1,a2⟩:=zap hp ht h1 hb h2 hna hx1;obtain ⟨b1,b0,b2⟩:=zd3 hp ht h1 hb h2 hna hx2;have hx:zr ρ' [] (x1++x2)=zr ρ' [] x1++zr ρ' [] x2:=by simp [qk]
      rw [hx];refine ⟨a1.app (by rw [qv];exact b1),fun b y hb=>?_,fun pre post pa'' hpre hpa b ds ty hb=>?_⟩
      ·rw [wi] at hb;split at hb
       ·rename_i e;subst e;exact zaQ hc.2
       ·exact b0 b y hb
      ·have e1:=a2 pre (zr ρ' [] x2++post) pa'' hpre hpa;have e2:=b2 (pre++zr ρ' [] x1) post pa'' (by simp [qv];omega) hpa
       simp only [zAb] at e1 e2 ⊢;rw [wi] at hb;split at hb
       ·rename_i e;subst e;cases hb;exact ⟨cs',hf,e1⟩
       ·exact e2 b ds ty hb
     ·cases h
    ·cases h
   ·cases h
  ·cases h
theorem preK_ok:∀ {a b:List CK},preK a b=true->a <+: b
 | [],b,_=>List.nil_prefix
 | x::xs,[],h=>by cases h
 | x::xs,y::ys,h=>by
  simp only [preK] at h;split at h
  ·rename_i e;subst e;exact List.cons_prefix_cons.2 ⟨rfl,preK_ok h⟩
  ·cases h
theorem ziu {x:List C} (hr0:Rel n0 B ρ pa σ s) (hJ:okJ σ σJ=true) {s':St} (hr:Rel n0 B ρ' pa' σ' s') (h1:ρ <+: ρ') (h2:pa <+: pa') (h:fit σ.ks.length σJ σ'=some x) :
  Rel n0 B (ρ++zr ρ' [] x) pa σJ s':=by
 simp only [okJ,zAF] at hJ;obtain ⟨⟨⟨⟨j1,j2⟩,j3⟩,j4⟩,j5⟩:=hJ;have hpk:=preK_ok j1;have hna:=jI j4;have hnf:=jI j5;have has:σJ.as=[]:=by simpa using j2
 have hlk:σJ.lk=[]:=by simpa using j3
 unfold fit at h;split at h
 ·rename_i x1 hx1;split at h
  ·rename_i x2 hx2;split at h
   ·rename_i hc;simp only [zAF] at hc;obtain ⟨⟨c1,c2⟩,c3⟩:=hc;cases h;have hlen:ρ.length=σ.ks.length:=hr0.kl;have hpl:pa.length=σJ.na:=by rw [hr0.na,hna]
    obtain ⟨a0,a1,a2⟩:=ze7 hr.here hr.top h1 hlen h2 hpl hx1;obtain ⟨b1,b0,b2⟩:=zd3 hr.here hr.top h1 hlen h2 hpl hx2;have hx:zr ρ' [] (x1++x2)=zr ρ' [] x1++zr ρ' [] x2:=by simp [qk]
    have hFit:=a1.app (by rw [qv];exact b1)
    rw [hx];have hpd:∀ a,a<σJ.na->pd pa' a=pd pa a:=fun a ha=>jl h2 (by rw [hpl];exact ha)
    have hna':σJ.na<=σ'.na:=zoM c2;have hnf':=jI c3;have hkl:(ρ++(zr ρ' [] x1++zr ρ' [] x2)).length=σJ.ks.length:=by
     rw [<- jI c1];simp [qv,hlen]
    refine ⟨fun ρ'' pa'' e1 e2=>⟨fun i sv v hi hv=>?_,fun a cs ty hf=>?_,fun i k hi=>?_,by rw [has];exact fun t ht=>by simp at ht⟩,by rw [a0];exact hr.len,hpl,?_,?_,?_,hkl,by rw [kY,hr0.top,hFit.top];rfl,hr.edg,?_,hr.blen,hr.df,fun a off hl=>by rw [hlk] at hl;simp [vH,yM] at hl,b0,fun a off hl=>by rw [hlk] at hl;simp [vH,yM] at hl,by rw [<- hna,<- hnf];exact hr0.nf⟩
    ·obtain ⟨z,rfl⟩:=e1;obtain ⟨sv',f1,f2⟩:=a2 [] (zr ρ' [] x2++z) pa'' (by simp) e2 i sv v hi (by simpa using hv)
     exact hr.here.env i sv' v f1 f2
    ·obtain ⟨z,rfl⟩:=e1;obtain ⟨cs',f1,f2⟩:=b2 (zr ρ' [] x1) z pa'' (by simp [qv]) e2 a cs ty hf
     simp only [zAb] at f2 ⊢;rw [f2];have:=hr.here.blks a cs' ty f1;rw [jl e2 (by rw [hpl];exact b0 _ _ hf),<- hpd a (b0 _ _ hf)]
     exact this
    ·have hil:i<σJ.ks.length:=zir hi;rw [wX e1 (by rw [hkl];exact hil)]
     by_cases hb:i<σ.ks.length
     ·rw [kQ (by rw [hlen];exact hb)]
      obtain ⟨z,hz⟩:=hpk;rw [<- hz,zq,zAe hb,<- zq] at hi;exact hr0.here.ks i k hi
     ·obtain ⟨ck,v,f1,f2,f3⟩:=hFit.ks (i - σ.ks.length) (by rw [<- hkl] at hil;simp only [zAi] at hil ⊢;omega)
      rw [show σ.ks.length+(i - σ.ks.length)=i by omega,hi] at f1
      cases f1;rw [yN,zAf (by omega),hlen,<- zq,f2]
      exact f3
    ·intro a a' ha ha' he;rw [<- hpd a ha,<- hpd a' ha'] at he;exact hr.inj a a' (by omega) (by omega) he
    ·intro a h3 h4;rw [<- hpd a h4];exact hr.lo a (by omega) (by omega)
    ·intro a h4;rw [<- hpd a h4];exact hr.hi a (by omega)
    ·intro b hb hn;refine hr.base b hb fun a ha=>?_;rw [hpd a (by have:=hr0.nf;omega)]
     exact hn a (by omega)
   ·cases h
  ·cases h
 ·cases h
end Go.Vm.Sx
namespace Go.Vm.Sx
open Go Go.Vm
variable {cx:Cx} {all:Array Oper} {takes:List Tmp} {df:List (V×List V)}
abbrev Stg:=Hp×List (Nat×Nat)
def stg (D:Nat):List Nat->List Stg->Option Stg
 | i::rl,h::hs=>match bit D i with
  | true=>some h
  | false=>stg D rl hs
 | [],h::_=>some h
 | _,[]=>none
def qW (rs:List Rec) (D:Nat):Prop:=(∀ b,bit D b=true->bit (chgM rs) b=true)/\∀ q∈rs,q.hp=true->bit D q.idx=true->∀ b,bit q.m b=true->bit (chgM rs) b=true->bit D b=true
def yQ (cx:Cx) (takes:List Tmp) (df:List (V×List V)) (q:Rec) (S:Stg):Prop:=∃ c2,cx.runC takes q.o q.env ⟨0,S.1,S.2,df⟩ 0=some (q.v,c2)
inductive Chain (cx:Cx) (takes:List Tmp) (df:List (V×List V)) (rs:List Rec):List Nat->List Stg->Prop where
 |nil (h:Stg):Chain cx takes df rs [] [h]
 |cons {rl:List Nat} {h h':Stg} {hs:List Stg} (q:Rec):q∈rs->q.hp=true->(∀ j∈rl,bit q.m j=true/\bit (chgM rs) j=true)->(∀ D D',cx.runC takes q.o q.env ⟨D',h'.1,h'.2,df⟩ D=some (q.v,⟨D,h.1,h.2,df⟩))->Chain cx takes df rs rl (h'::hs)->Chain cx takes df rs (q.idx::rl) (h::h'::hs)
structure DInv (cx:Cx) (takes:List Tmp) (df:List (V×List V)) (i:Nat) (rs:List Rec) (rl:List Nat) (hs:List Stg) (c0:Cfg) (cs:List Cfg):Prop where
 idx:∀ q∈rs,q.idx<i
 msk:∀ q∈rs,∀ b,bit q.m b=true->b<q.idx
 uniq:∀ q∈rs,∀ p∈rs,q.idx=p.idx->q=p
 cfg:∀ c∈c0::cs,stg c.D rl hs=some (c.H,c.lk)/\c.df=df
 clo:∀ c∈c0::cs,qW rs c.D
 c0D:c0.D=chgM rs
 comp:∀ D,qW rs D->∃ c∈c0::cs,c.D=D
 calls:∀ q∈rs,q.hp=true->q.idx ∉ rl->∀ S∈hs,∀ D D',cx.runC takes q.o q.env ⟨D',S.1,S.2,df⟩ D=some (q.v,⟨D,S.1,S.2,df⟩)
 rlt:∀ j∈rl,j<i
 chain:Chain cx takes df rs rl hs
 rds:∀ q∈rs,q.hp=false->q.free=false->∀ D S,qW rs D->j8 (Nat.land q.m (chgM rs)) D=true->stg D rl hs=some S->q5 D q rs=true\/yQ cx takes df q S
theorem runC_D {o:Oper} {env:List V} {c:Cfg} {D:Nat} {v:V} {H':Hp} {lk':List (Nat×Nat)} {df':List (V×List V)} (h:cx.runC takes o env c D=some (v,⟨D,H',lk',df'⟩)) (D':Nat) (c':Cfg) (h1:c'.H=c.H) (h2:c'.lk=c.lk) (h3:c'.df=c.df):cx.runC takes o env c' D'=some (v,⟨D',H',lk',df'⟩):=by
 unfold Cx.runC at h ⊢;rw [h1,h2,h3];split at h<;>first|(cases h;done)|skip
 all_goals
  rename_i hop;simp only [zAA,zAH,Cfg.mk.injEq,zAa] at h;obtain ⟨rfl,rfl,rfl,rfl⟩:=h;simp only []
theorem ze8 {q:Rec} {c:Cfg} (h:yQ cx takes df q (c.H,c.lk)) (hd:c.df=df):cx.valC takes q.o q.env q.v c=true:=by
 obtain ⟨c2,h⟩:=h;have:cx.runC takes q.o q.env c 0=some (q.v,c2):=by
  rw [<- h];unfold Cx.runC;simp only [hd]
 simp only [Cx.valC,this,V.same_refl]
theorem zd4 {D:Nat}:∀ {l:List Cfg},(∃ c∈l,c.D=D)->∃ c,xr D l=some c/\c∈l/\c.D=D
 | [],h=>by obtain ⟨c,hc,_⟩:=h;simp at hc
 | c::l,h=>by
  simp only [xr]
  by_cases hD:c.D=D
  ·exact ⟨c,by simp [hD],zAL,hD⟩
  ·have hb:Nat.beq c.D D=false:=by cases hh:Nat.beq c.D D with|false=>rfl|true=>exact absurd (zAQ hh) hD
   obtain ⟨x,hx,hxD⟩:=h;rcases zAO.1 hx with rfl|hx
   ·exact absurd hxD hD
   ·obtain ⟨y,h1,h2,h3⟩:=zd4 ⟨x,hx,hxD⟩;exact ⟨y,by simp [hb,h1],zAE _ h2,h3⟩
theorem zgb (b:Blk):sameBlk b b=true:=by
 cases b with
 | cells cs t=>simp [sameBlk,sames_refl]
 | map es =>
  simp only [sameBlk]
  induction es with
  | nil=>rfl
  | cons x xs ih=>obtain ⟨a,b⟩:=x;simp [sameP,V.same_refl,ih]
 | iter s i=>simp [sameBlk,eqL_refl]
 | ul v z cs e=>simp [sameBlk,sames_refl]
theorem sameBs_refl:∀ (l:List Blk),sameBs l l=true
 | []=>rfl
 | b::l=>by simp [sameBs,zgb,sameBs_refl l]
theorem sameNN_refl:∀ (l:List (Nat×Nat)),sameNN l l=true
 | []=>rfl
 | (a,b)::l=>by simp [sameNN,sameNN_refl l]
theorem sameDf_refl:∀ (l:List (V×List V)),sameDf l l=true
 | []=>rfl
 | (a,b)::l=>by simp [sameDf,V.same_refl,sames_refl,sameDf_refl l]
theorem zd5 {a b:Cfg} (h1:a.H=b.H) (h2:a.lk=b.lk) (h3:a.df=b.df):zbt a b=true:=by
 simp [zbt,h1,h2,h3,sameNN_refl,sameDf_refl,sameBs_refl]
theorem zcw {D:Nat} {q d:Rec}:∀ {rs:List Rec},d∈rs->d.hp=true->bit D d.idx=true->bit d.m q.idx=true->q5 D q rs=true
 | e::rs,h,h1,h2,h3=>by
  simp only [q5,zAZ,zAF];rcases zAO.1 h with rfl|h
  ·exact .inl ⟨⟨h1,h2⟩,h3⟩
  ·exact .inr (zcw h h1 h2 h3)
theorem chgM_cons {r:Rec} {rs:List Rec} {b:Nat}:bit (chgM (r::rs)) b=true ↔ (r.hp=true/\r.idx=b)\/bit (chgM rs) b=true:=by
 rw [bit_chgM,bit_chgM];constructor
 ·rintro ⟨q,hq,h1,h2⟩;rcases zAO.1 hq with rfl|hq
  ·exact .inl ⟨h1,h2⟩
  ·exact .inr ⟨q,hq,h1,h2⟩
 ·rintro (⟨h1,h2⟩|⟨q,hq,h1,h2⟩)
  ·exact ⟨r,zAL,h1,h2⟩
  ·exact ⟨q,zAE _ hq,h1,h2⟩
section
variable {i:Nat} {rs:List Rec} {rl:List Nat} {hs:List Stg} {c0:Cfg} {cs:List Cfg} {r:Rec}
theorem wH (hp:r.hp=false) {D:Nat}:qW (r::rs) D ↔ qW rs D:=by
 have hc:∀ b,bit (chgM (r::rs)) b=true ↔ bit (chgM rs) b=true:=fun b=>by rw [chgM_cons];simp [hp]
 unfold qW;constructor
 ·rintro ⟨h1,h2⟩;exact ⟨fun b hb=>(hc b).1 (h1 b hb),fun q hq hqh hqD b hb hbc=>h2 q (zAE _ hq) hqh hqD b hb ((hc b).2 hbc)⟩
 ·rintro ⟨h1,h2⟩;refine ⟨fun b hb=>(hc b).2 (h1 b hb),fun q hq hqh hqD b hb hbc=>?_⟩;rcases zAO.1 hq with rfl|hq
  ·rw [hp] at hqh;cases hqh
  ·exact h2 q hq hqh hqD b hb ((hc b).1 hbc)
theorem zbe (hp:r.hp=false):chgM (r::rs)=chgM rs:=by simp only [chgM,hp]
theorem zbf {rs':List Rec} (hsub:∀ q∈rs,q∈rs') (hchg:∀ b,bit (chgM rs) b=true->bit (chgM rs') b=true) {rl:List Nat} {hs:List Stg} (h:Chain cx takes df rs rl hs):Chain cx takes df rs' rl hs:=by
 induction h with
 | nil h=>exact .nil h
 | cons q h1 h2 h3 h4 _ ih=>exact .cons q (hsub q h1) h2 (fun j hj=>⟨(h3 j hj).1,hchg j (h3 j hj).2⟩) h4 ih
theorem DInv.quiet (h:DInv cx takes df i rs rl hs c0 cs) (hi:r.idx=i) (hm:∀ b,bit r.m b=true->b<i) (hp:r.hp=false)
  (hv:r.free=true\/∀ D S,qW rs D->j8 (Nat.land r.m (chgM rs)) D=true->stg D rl hs=some S->yQ cx takes df r S) {c1:Cfg} :
  (∀ k,cx.cfgsK takes rs r c0 c1 cs k=k (c0::cs))/\DInv cx takes df (i+1) (r::rs) rl hs c0 cs:=by
 constructor
 ·intro k;unfold Cx.cfgsK;simp only [hp];split
  ·rfl
  ·rename_i hf;exfalso;rcases hv with hv|hv
   ·simp [hv] at hf
   ·have hall:jS (fun c=>match j8 (Nat.land r.m (chgM rs)) c.D with|true=>cx.valC takes r.o r.env r.v c|false=>true) cs=true:=by
     refine ye fun c hc=>?_;split
     ·rename_i hs';have hcc:=zAE c0 hc;exact ze8 (hv c.D _ (h.clo c hcc) hs' (h.cfg c hcc).1) (h.cfg c hcc).2
     ·rfl
    have hf2:=(zBX.1 hf).2;exact Bool.noConfusion (hf2.symm.trans hall)
 ·have hcm:chgM (r::rs)=chgM rs:=zbe hp;refine ⟨fun q hq=>?_,fun q hq b hb=>?_,fun q hq p hp' he=>?_,h.cfg,fun c hc=>(wH hp).2 (h.clo c hc),by rw [hcm];exact h.c0D,fun D hD=>h.comp D ((wH hp).1 hD),fun q hq h1 h2=>?_,fun q hq=>?_,zbf (fun q hq=>zAE _ hq) (fun b hb=>by rw [hcm];exact hb) h.chain,fun q hq h1 h2 D S hD hsub hS=>?_⟩
  ·rcases zAO.1 hq with rfl|hq
   ·omega
   ·have:=h.idx q hq;omega
  ·rcases zAO.1 hq with rfl|hq
   ·have:=hm b hb;omega
   ·exact h.msk q hq b hb
  ·rcases zAO.1 hq with e1|g1<;>rcases zAO.1 hp' with e2|g2
   ·rw [e1,e2]
   ·have:=h.idx p g2;rw [e1] at he;omega
   ·have:=h.idx q g1;rw [e2] at he;omega
   ·exact h.uniq q g1 p g2 he
  ·rcases zAO.1 hq with rfl|hq
   ·rw [hp] at h1;cases h1
   ·exact h.calls q hq h1 h2
  ·have:=h.rlt q hq;omega
  ·rw [hcm] at hsub;rw [wH hp] at hD;have hforced:∀ q,q5 D q (r::rs)=q5 D q rs:=fun q=>by simp [q5,hp]
   rw [hforced];rcases zAO.1 hq with rfl|hq
   ·rcases hv with hv|hv
    ·rw [hv] at h2;cases h2
    ·exact .inr (hv D S hD hsub hS)
   ·exact h.rds q hq h1 h2 D S hD hsub hS
theorem zbY {D:Nat} (hrl:i ∉ rl):stg (Nat.lor D (Nat.pow 2 i)) rl hs=stg D rl hs:=by
 induction rl generalizing hs with
 | nil=>cases hs<;>rfl
 | cons j rl ih =>
  simp only [zAO,not_or] at hrl;cases hs with
  | nil=>rfl
  | cons a hs =>
   have:bit (Nat.lor D (Nat.pow 2 i)) j=bit D j:=by rw [qT,jf];simp [hrl.1]
   simp only [stg,this,ih hrl.2]
theorem zgc {D:Nat} {S:Stg}:∀ {rl:List Nat} {hs:List Stg},stg D rl hs=some S->S∈hs
 | [],[],h=>by cases h
 | [],a::hs,h=>by simp only [stg,zAA] at h;subst h;exact zAL
 | j::rl,[],h=>by cases h
 | j::rl,a::hs,h=>by
  simp only [stg] at h;split at h
  ·cases h;exact zAL
  ·exact zAE _ (zgc h)
theorem zbZ {D:Nat} {rl:List Nat} {a:Stg} {hs:List Stg} (h:∀ j∈rl,bit D j=true):stg D rl (a::hs)=some a:=by
 cases rl with
 | nil=>rfl
 | cons j rl=>simp only [stg,h j zAL]
theorem ziv {q:Rec} (hu:∀ q∈rs,∀ p∈rs,q.idx=p.idx->q=p) (hq:q∈rs) (_hqh:q.hp=true) {D:Nat} (hD:qW rs D) (hqD:bit D q.idx=false) (hsub:∀ b,bit q.m b=true->bit (chgM rs) b=true->bit D b=true) :
  ∀ {rl:List Nat} {hs:List Stg},Chain cx takes df rs rl hs->rl.Nodup->q.idx∈rl->∃ S S',stg D rl hs=some S/\stg (Nat.lor D (Nat.pow 2 q.idx)) rl hs=some S'/\∀ D1 D2,cx.runC takes q.o q.env ⟨D1,S.1,S.2,df⟩ D2=some (q.v,⟨D2,S'.1,S'.2,df⟩):=by
 intro rl hs hc
 induction hc with
 | nil h=>intro _ h;simp at h
 | @cons rl h h' hs p h1 h2 h3 h4 _ ih =>
  intro hnd hm;have hb:∀ b,bit (Nat.lor D (Nat.pow 2 q.idx)) b=(bit D b || decide (q.idx=b)):=fun b=>by rw [qT,jf]
  simp only [List.nodup_cons] at hnd
  by_cases he:q.idx=p.idx
  ·obtain rfl:=hu q hq p h1 he;refine ⟨h',h,?_,?_,fun D1 D2=>h4 D2 D1⟩
   ·simp only [stg,hqD];exact zbZ fun j hj=>hsub j (h3 j hj).1 (h3 j hj).2
   ·simp only [stg,hb];simp
  ·have hm':q.idx∈rl:=by simpa [he] using hm
   have hpD:bit D p.idx=false:=by
    cases hh:bit D p.idx with
    | false=>rfl
    | true =>
     have:=hD.2 p h1 h2 hh q.idx (h3 _ hm').1 (h3 _ hm').2;rw [this] at hqD;cases hqD
   obtain ⟨S,S',g1,g2,g3⟩:=ih hnd.2 hm';refine ⟨S,S',?_,?_,g3⟩
   ·simp only [stg,hpD];exact g1
   ·simp only [stg,hb,hpD,he,decide_false,Bool.or_false];exact g2
theorem DInv.chg (h:DInv cx takes df i rs rl hs c0 cs) (hi:r.idx=i) (hm:∀ b,bit r.m b=true->b<i) (hp:r.hp=true) {rl':List Nat} {hs':List Stg} {c1:Cfg} (hc1:c1.D=Nat.lor c0.D (Nat.pow 2 i))
  (hr:∀ c∈c0::cs,j8 (Nat.land r.m (chgM rs)) c.D=true->∃ H' lk',(∀ D',cx.runC takes r.o r.env c D'=some (r.v,⟨D',H',lk',df⟩))/\stg (Nat.lor c.D (Nat.pow 2 i)) rl' hs'=some (H',lk'))
  (h1c:stg c1.D rl' hs'=some (c1.H,c1.lk)/\c1.df=df)
  (hst:∀ D,bit D i=false->stg D rl' hs'=stg D rl hs)
  (hkind:(rl'=rl/\hs'=hs)\/∃ S',rl'=i::rl/\hs'=S'::hs)
  (hcalls:∀ q∈r::rs,q.hp=true->q.idx ∉ rl'->∀ S∈hs',∀ D D',cx.runC takes q.o q.env ⟨D',S.1,S.2,df⟩ D=some (q.v,⟨D,S.1,S.2,df⟩))
  (hchain:Chain cx takes df (r::rs) rl' hs') (hnd:rl'.Nodup)
  (hrds:rl'=i::rl->∀ q∈rs,q.hp=false->q.free=false->∀ D S,qW (r::rs) D->bit D i=true->j8 (Nat.land q.m (chgM rs)) D=true->stg D rl' hs'=some S->q5 D q (r::rs)=true\/yQ cx takes df q S) :
  ∃ cs',(∀ k,cx.cfgsK takes rs r c0 c1 cs k=k cs')/\∃ cs2,cs'=c1::cs2/\DInv cx takes df (i+1) (r::rs) rl' hs' c1 cs2:=by
 have hidx:∀ q∈rs,q.idx<i:=h.idx;have hrl:∀ j∈rl',j=i\/j∈rl:=fun j hj=>by
  rcases hkind with ⟨e,_⟩|⟨_,e,_⟩
  ·rw [e] at hj;exact .inr hj
  ·rw [e] at hj;exact zAO.1 hj
 have hrl2:∀ j∈rl,j∈rl':=fun j hj=>by
  rcases hkind with ⟨e,_⟩|⟨_,e,_⟩
  ·rw [e];exact hj
  ·rw [e];exact zAE _ hj
 have huniq:∀ q∈r::rs,∀ p∈r::rs,q.idx=p.idx->q=p:=fun q hq p hp' he=>by
  rcases zAO.1 hq with e1|g1<;>rcases zAO.1 hp' with e2|g2
  ·rw [e1,e2]
  ·have:=hidx p g2;rw [e1] at he;omega
  ·have:=hidx q g1;rw [e2] at he;omega
  ·exact h.uniq q g1 p g2 he
 have hchgi:bit (chgM rs) i=false:=by
  cases hb:bit (chgM rs) i with
  | false=>rfl
  | true=>obtain ⟨q,hq,_,he⟩:=bit_chgM.1 hb;have:=hidx q hq;omega
 have hcD:∀ c∈c0::cs,bit c.D i=false:=fun c hc=>by
  cases hb:bit c.D i with
  | false=>rfl
  | true=>rw [(h.clo c hc).1 i hb] at hchgi;cases hchgi
 have clo1:∀ D,qW rs D->qW (r::rs) D:=fun D hD=>by
  refine ⟨fun b hb=>chgM_cons.2 (.inr (hD.1 b hb)),fun q hq hqh hqD b hb hbc=>?_⟩;rcases zAO.1 hq with rfl|hq
  ·rw [hi] at hqD;rw [hD.1 i hqD] at hchgi;cases hchgi
  ·refine hD.2 q hq hqh hqD b hb ?_;rcases chgM_cons.1 hbc with ⟨_,he⟩|hbc
   ·have:=h.msk q hq b hb;have:=hidx q hq;omega
   ·exact hbc
 have clo2:∀ D,qW rs D->j8 (Nat.land r.m (chgM rs)) D=true->qW (r::rs) (Nat.lor D (Nat.pow 2 i)):=fun D hD hsub=>by
  refine ⟨fun b hb=>?_,fun q hq hqh hqD b hb hbc=>?_⟩
  ·rw [qT,zAZ,jf,decide_eq_true_eq] at hb;rcases hb with hb|rfl
   ·exact chgM_cons.2 (.inr (hD.1 b hb))
   ·exact chgM_cons.2 (.inl ⟨hp,hi⟩)
  ·rw [qT,zAZ]
   left
   rcases zAO.1 hq with rfl|hq
   ·rcases chgM_cons.1 hbc with ⟨_,he⟩|hbc
    ·have:=hm b hb;omega
    ·exact subM_spec.1 hsub b (by rw [qU,hb,hbc];rfl)
   ·have hbi:b<i:=by have:=h.msk q hq b hb;have:=hidx q hq;omega
    rw [qT,zAZ,jf,decide_eq_true_eq] at hqD;rcases hqD with hqD|he
    ·refine hD.2 q hq hqh hqD b hb ?_;rcases chgM_cons.1 hbc with ⟨_,he⟩|hbc
     ·omega
     ·exact hbc
    ·have:=hidx q hq;omega
 have clo3:∀ D,qW (r::rs) D->bit D i=false->qW rs D:=fun D hD hDi=>by
  refine ⟨fun b hb=>?_,fun q hq hqh hqD b hb hbc=>hD.2 q (zAE _ hq) hqh hqD b hb (chgM_cons.2 (.inr hbc))⟩;rcases chgM_cons.1 (hD.1 b hb) with ⟨_,he⟩|hbc
  ·rw [hi] at he;subst he;rw [hb] at hDi;cases hDi
  ·exact hbc
 have clo4:∀ D,qW (r::rs) D->bit D i=true->∃ D0,qW rs D0/\j8 (Nat.land r.m (chgM rs)) D0=true/\D=Nat.lor D0 (Nat.pow 2 i)/\∀ b,bit D0 b=true ↔ (bit D b=true/\b≠i):=fun D hD hDi=>by
  have hb0:∀ b,bit (Nat.xor D (Nat.pow 2 i)) b=true ↔ (bit D b=true/\b≠i):=fun b=>by
   have:bit (Nat.xor D (Nat.pow 2 i)) b=(bit D b ^^ decide (i=b)):=by
    rw [v9,v9];have:Nat.xor D (Nat.pow 2 i)=D ^^^ (2 ^ i):=rfl;rw [this,Nat.testBit_xor,Nat.testBit_two_pow]
   rw [this]
   by_cases he:i=b
   ·subst he;simp [hDi]
   ·have:¬ b=i:=fun e=>he e.symm;simp [he,this]
  refine ⟨Nat.xor D (Nat.pow 2 i),⟨fun b hb=>?_,fun q hq hqh hqD b hb hbc=>?_⟩,subM_spec.2 fun b hb=>?_,kB fun b=>?_,hb0⟩
  ·obtain ⟨h1,h2⟩:=(hb0 b).1 hb;rcases chgM_cons.1 (hD.1 b h1) with ⟨_,he⟩|hbc
   ·rw [hi] at he;exact absurd he.symm h2
   ·exact hbc
  ·obtain ⟨h1,h2⟩:=(hb0 _).1 hqD;refine (hb0 b).2 ⟨hD.2 q (zAE _ hq) hqh h1 b hb (chgM_cons.2 (.inr hbc)),?_⟩;have:=h.msk q hq b hb;have:=hidx q hq;omega
  ·rw [qU,zAF] at hb;refine (hb0 b).2 ⟨hD.2 r zAL hp (by rw [hi];exact hDi) b hb.1 (chgM_cons.2 (.inr hb.2)),?_⟩
   have:=hm b hb.1;omega
  ·have hb:=hb0 b;rw [qT,jf]
   by_cases he:i=b
   ·subst he;simp [hDi]
   ·have hne:b≠i:=fun e=>he e.symm;have hiff:bit (Nat.xor D (Nat.pow 2 i)) b=true ↔ bit D b=true:=⟨fun h=>(hb.1 h).1,fun h=>hb.2 ⟨h,hne⟩⟩;rw [zBe.2 hiff];simp [he]
 have hrds':∀ q∈rs,q.hp=false->q.free=false->∀ D S,qW (r::rs) D->bit D i=true->j8 (Nat.land q.m (chgM rs)) D=true->stg D rl' hs'=some S->q5 D q (r::rs)=true\/yQ cx takes df q S:=by
  intro q hq g1 g2 D S hD hDi hsub hS;rcases hkind with ⟨ea,eb⟩|⟨_,e,_⟩
  ·obtain ⟨D0,k1,k2,k3,k4⟩:=clo4 D hD hDi;subst ea eb;have hni:i ∉ rl':=fun hh=>by have:=h.rlt i hh;omega
   rw [k3,zbY hni] at hS;have hsub0:j8 (Nat.land q.m (chgM rs)) D0=true:=subM_spec.2 fun b hb=>by
    refine (k4 b).2 ⟨subM_spec.1 hsub b hb,?_⟩;rw [qU,zAF] at hb;have:=h.msk q hq b hb.1;have:=hidx q hq;omega
   rcases h.rds q hq g1 g2 D0 S k1 hsub0 hS with g|g
   ·left
    have hmono:∀ l:List Rec,q5 D0 q l=true->q5 D q l=true:=by
     intro l
     induction l with
     | nil=>intro h;cases h
     | cons x l ih =>
      simp only [q5,zAZ,zAF];rintro (⟨⟨a1,a2⟩,a3⟩|a)
      ·exact .inl ⟨⟨a1,((k4 _).1 a2).1⟩,a3⟩
      ·exact .inr (ih a)
    simp only [q5,hmono rs g,Bool.or_true]
   ·exact .inr g
  ·exact hrds e q hq g1 g2 D S hD hDi hsub hS
 have hra:∀ l:List Cfg,(∀ c∈l,c∈c0::cs)->∃ l',cx.runAll takes r.o r.env r.v (Nat.land r.m (chgM rs)) (Nat.pow 2 i) l=some l'/\(∀ c'∈l',∃ c∈l,j8 (Nat.land r.m (chgM rs)) c.D=true/\c'.D=Nat.lor c.D (Nat.pow 2 i)/\stg c'.D rl' hs'=some (c'.H,c'.lk)/\c'.df=df)/\(∀ c∈l,j8 (Nat.land r.m (chgM rs)) c.D=true->∃ c'∈l',c'.D=Nat.lor c.D (Nat.pow 2 i)):=by
  intro l
  induction l with
  | nil=>intro _;exact ⟨[],rfl,fun c hc=>by simp at hc,fun c hc=>by simp at hc⟩
  | cons c l ih =>
   intro hl;obtain ⟨l',e1,e2,e3⟩:=ih fun x hx=>hl x (zAE _ hx);cases hsub:j8 (Nat.land r.m (chgM rs)) c.D with
   | false =>
    refine ⟨l',by simp only [Cx.runAll,hsub,e1],fun c' hc'=>?_,fun x hx hxs=>?_⟩
    ·obtain ⟨x,hx,g⟩:=e2 c' hc';exact ⟨x,zAE _ hx,g⟩
    ·rcases zAO.1 hx with rfl|hx
     ·rw [hsub] at hxs;cases hxs
     ·exact e3 x hx hxs
   | true =>
    obtain ⟨H',lk',g1,g2⟩:=hr c (hl c zAL) hsub;refine ⟨⟨Nat.lor c.D (Nat.pow 2 i),H',lk',df⟩::l',by simp only [Cx.runAll,hsub,g1,V.same_refl,e1],fun c' hc'=>?_,fun x hx hxs=>?_⟩
    ·rcases zAO.1 hc' with rfl|hc'
     ·exact ⟨c,zAL,hsub,rfl,g2,rfl⟩
     ·obtain ⟨x,hx,g⟩:=e2 c' hc';exact ⟨x,zAE _ hx,g⟩
    ·rcases zAO.1 hx with rfl|hx
     ·exact ⟨_,zAL,rfl⟩
     ·obtain ⟨c',g1,g2⟩:=e3 x hx hxs;exact ⟨c',zAE _ g1,g2⟩
 obtain ⟨l,e1,e2,e3⟩:=hra cs fun c hc=>zAE _ hc;have hm0:j8 (Nat.land r.m (chgM rs)) c0.D=true:=subM_spec.2 fun b hb=>by rw [qU,zAF] at hb;rw [h.c0D];exact hb.2
 have hcfg:∀ c∈c1::l++c0::cs,stg c.D rl' hs'=some (c.H,c.lk)/\c.df=df:=fun c hc=>by
  simp only [zAY,zAO,zAt] at hc;rcases hc with rfl|hc|hc
  ·exact h1c
  ·obtain ⟨x,_,_,_,g1,g2⟩:=e2 c hc;exact ⟨g1,g2⟩
  ·have hc':c∈c0::cs:=by simpa using hc
   rw [hst c.D (hcD c hc')];exact h.cfg c hc'
 have hclo:∀ c∈c1::l++c0::cs,qW (r::rs) c.D:=fun c hc=>by
  simp only [zAY,zAO,zAt] at hc;rcases hc with rfl|hc|hc
  ·rw [hc1];exact clo2 _ (h.clo c0 zAL) hm0
  ·obtain ⟨x,hx,hxs,hxD,_⟩:=e2 c hc;rw [hxD];exact clo2 _ (h.clo x (zAE _ hx)) hxs
  ·exact clo1 _ (h.clo c (by simpa using hc))
 have hcomp:∀ D,qW (r::rs) D->∃ c∈c1::l++c0::cs,c.D=D:=fun D hD=>by
  cases hDi:bit D i with
  | false =>
   obtain ⟨c,hc,hcD⟩:=h.comp D (clo3 D hD hDi);exact ⟨c,by simp only [zAY,zAO,zAt];right;right;simpa using hc,hcD⟩
  | true =>
   obtain ⟨D0,g1,g2,g3,_⟩:=clo4 D hD hDi;obtain ⟨c,hc,hcE⟩:=h.comp D0 g1;rcases zAO.1 hc with e|hc
   ·exact ⟨c1,by simp,by rw [hc1,g3,<- hcE,e]⟩
   ·obtain ⟨c',hc',hcE'⟩:=e3 c hc (by rw [hcE];exact g2)
    exact ⟨c',by simp [hc'],by rw [hcE',hcE,g3]⟩
 have hnew:jS (fun c=>cx.newOk takes rs (chgM rs) r (c1::l++c0::cs) c) (c1::l)=true:=by
  refine ye fun c hc=>ye fun q hq=>?_;have hcm:c∈c1::l++c0::cs:=by simp only [zAY,zAO,zAt] at hc ⊢;rcases hc with rfl|hc;exact .inl rfl;exact .inr (.inl hc)
  have hci:bit c.D i=true:=by
   rcases zAO.1 hc with rfl|hc
   ·rw [hc1,qT,jf];simp
   ·obtain ⟨x,_,_,hxD,_⟩:=e2 c hc;rw [hxD,qT,jf];simp
  obtain ⟨s1,s2⟩:=hcfg c hcm;split
  ·rfl
  ·rename_i hsub;split
   ·rename_i hqh;split
    ·rfl
    ·rename_i hqD;have hcl:qW (r::rs) (Nat.lor c.D (Nat.pow 2 q.idx)):=by
      have hC:=hclo c hcm;refine ⟨fun b hb=>?_,fun p hp' hph hpD b hb hbc=>?_⟩
      ·rw [qT,zAZ,jf,decide_eq_true_eq] at hb;rcases hb with hb|rfl
       ·exact hC.1 b hb
       ·exact chgM_cons.2 (.inr (bit_chgM.2 ⟨q,hq,hqh,rfl⟩))
      ·rw [qT,zAZ]
       left
       rw [qT,zAZ,jf,decide_eq_true_eq] at hpD;rcases hpD with hpD|he
       ·exact hC.2 p hp' hph hpD b hb hbc
       ·have hpq:p=q:=by
         rcases zAO.1 hp' with rfl|hp'
         ·have:=hidx q hq;omega
         ·exact h.uniq p hp' q hq he.symm
        subst hpq;refine subM_spec.1 hsub b ?_;rw [qU,hb,zBQ];rcases chgM_cons.1 hbc with ⟨_,he2⟩|hbc
        ·have:=h.msk p hq b hb;have:=hidx p hq;omega
        ·exact hbc
     obtain ⟨c3,f1,f2,f3⟩:=zd4 (hcomp _ hcl);obtain ⟨t1,t2⟩:=hcfg c3 f2;rw [f3] at t1;rw [f1]
     by_cases hqr:q.idx∈rl
     ·obtain ⟨S,S',g1,g2,g3⟩:=ziv huniq (zAE _ hq) hqh (hclo c hcm) hqD (fun b hb hbc=>subM_spec.1 hsub b (by
       rw [qU,hb,zBQ];rcases chgM_cons.1 hbc with ⟨_,he2⟩|hbc
       ·have:=h.msk q hq b hb;have:=hidx q hq;omega
       ·exact hbc)) hchain hnd (hrl2 _ hqr)
      rw [s1] at g1;obtain rfl:=zA1 g1;rw [t1] at g2;obtain rfl:=zA1 g2;have:=runC_D (g3 0 0) 0 c rfl rfl s2;simp only [this,V.same_refl,zBQ];exact zd5 rfl rfl t2.symm
     ·have hne:q.idx ∉ rl':=fun hh=>by
       rcases hrl _ hh with he|hh
       ·have:=hidx q hq;omega
       ·exact hqr hh
      have:=runC_D (hcalls q (zAE _ hq) hqh hne (c.H,c.lk) (zgc s1) 0 0) 0 c rfl rfl s2;simp only [this,V.same_refl,zBQ];rw [zbY hne,s1] at t1;simp only [zAA,zAH] at t1;exact zd5 t1.1 t1.2 t2.symm
   ·rename_i hqh;cases hf:q.free with
    | true=>simp
    | false =>
     rcases hrds' q hq hqh hf c.D _ (hclo c hcm) hci hsub s1 with g|g
     ·simp only [q5,zAZ,zAF] at g;rcases g with ⟨⟨_,_⟩,g⟩|g
      ·simp [g]
      ·simp [g]
     ·rw [ze8 g s2];simp
 refine ⟨c1::l++c0::cs,fun k=>?_,l++c0::cs,rfl,?_⟩
 ·unfold Cx.cfgsK;simp only [hp,hi,e1];rw [hnew]
 ·refine ⟨fun q hq=>?_,fun q hq b hb=>?_,fun q hq p hp' he=>?_,hcfg,hclo,?_,hcomp,hcalls,fun j hj=>?_,hchain,fun q hq g1 g2 D S hD hsub hS=>?_⟩
  ·rcases zAO.1 hq with rfl|hq
   ·omega
   ·have:=hidx q hq;omega
  ·rcases zAO.1 hq with rfl|hq
   ·have:=hm b hb;omega
   ·exact h.msk q hq b hb
  ·rcases zAO.1 hq with e1|g1<;>rcases zAO.1 hp' with e2|g2
   ·rw [e1,e2]
   ·have:=hidx p g2;rw [e1] at he;omega
   ·have:=hidx q g1;rw [e2] at he;omega
   ·exact h.uniq q g1 p g2 he
  ·rw [hc1,h.c0D];refine kB fun b=>?_;have:=@chgM_cons r rs b;rw [qT,jf];cases g1:bit (chgM (r::rs)) b<;>cases g2:bit (chgM rs) b<;>simp_all
  ·rcases hrl j hj with e|e
   ·omega
   ·have:=h.rlt j e;omega
  ·rcases zAO.1 hq with rfl|hq
   ·rw [hp] at g1;cases g1
   ·have hsub':j8 (Nat.land q.m (chgM rs)) D=true:=subM_spec.2 fun b hb=>by
     rw [qU,zAF] at hb;exact subM_spec.1 hsub b (by rw [qU,hb.1,chgM_cons.2 (.inr hb.2)];rfl)
    cases hDi:bit D i with
    | true=>exact hrds' q hq g1 g2 D S hD hDi hsub' hS
    | false =>
     rw [hst D hDi] at hS;rcases h.rds q hq g1 g2 D S (clo3 D hD hDi) hsub' hS with g|g
     ·left;simp [q5,g]
     ·exact .inr g
end
end Go.Vm.Sx
namespace Go.Vm.Sx
set_option linter.unusedSectionVars false
open Go Go.Vm
variable {P:Program} {gl:Gl} {ph:PH} {N:Nat} {r:Nat×List V} {ρ ρ':List V} {pa pa':List Nat} {σ:Sg} {s:St} {n0:Nat} {B:List Blk} {env:List V} {H:Hp} {lk:List (Nat×Nat)} {df:List (V×List V)} {takes:List Tmp} {k:KT} {t:Tree}
variable [NoU gl]
theorem xd {dst:Option Tmp} {tt:TypeId} {a:Operand} {type:TypeId} {pos:String} {after:Array Edge} {guard:Option (Nat×Bool)} {c:Cls} (h:jW takes σ ⟨dst,.load tt a,type,pos,after,guard⟩=some c) :
  (qB takes dst=false/\(∃ g,a=.global g)/\c=.free)\/(qB takes dst=false/\∃ b off,pk σ a=some (.val (.one (.p b off)))/\c=.rd b)\/(qB takes dst=false/\∃ cs,pk σ a=some (.vp cs)/\c=.free)\/(qB takes dst=true/\∃ b off,pk σ a=some (.val (.one (.p b off)))/\c=.wr b):=by
 simp only [jW] at h;cases ht:qB takes dst with
 | false =>
  cases a with
  | global g=>simp only [ht] at h;cases h;exact .inl ⟨rfl,⟨g,rfl⟩,rfl⟩
  | _ =>
   simp only [ht] at h;split at h
   ·rename_i hh;cases hh
   ·rename_i hpk _;cases h;exact .inr (.inl ⟨rfl,_,_,hpk,rfl⟩)
   ·rename_i hpk _;cases h;exact .inr (.inr (.inl ⟨rfl,_,hpk,rfl⟩))
   ·cases h
 | true =>
  simp only [ht] at h;split at h
  ·rename_i hpk _;cases h;exact .inr (.inr (.inr ⟨rfl,_,_,hpk,rfl⟩))
  ·rename_i hh;cases hh
  ·rename_i hh;cases hh
  ·cases h
theorem zgd {o:Oper} {c:Cls} (h:jW takes σ o=some c):wL takes o=(match c with|.free=>false|.rd _=>false|.call=>true|.wr _=>true):=by
 obtain ⟨dst,op,type,pos,after,guard⟩:=o;cases op
 case load tt a =>
  have hl:wL takes ⟨dst,.load tt a,type,pos,after,guard⟩=qB takes dst:=by
   cases dst<;>rfl
  rw [hl];rcases xd h with ⟨e,_,rfl⟩|⟨e,_,_,_,rfl⟩|⟨e,_,_,rfl⟩|⟨e,_,_,_,rfl⟩<;>exact e
 all_goals simp only [jW] at h;try (cases h;done)
 case store tt a x =>
  split at h
  ·cases h;rfl
  ·cases h
 case call c =>
  obtain ⟨callee,args,ats⟩:=c;simp only at h;split at h
  ·rename_i f l h1 h2;split at h
   ·cases h;rfl
   ·cases h
  ·rename_i x h1 h2;split at h
   ·cases h;rfl
   ·cases h
  ·split at h
   ·cases h;rfl
   ·cases h
  ·cases h;rfl
  ·cases h;rfl
  ·cases h
 all_goals first|(cases h;rfl)
theorem zjo {x:Operand} (hr:PRel ρ pa σ env H) (h:zf2 σ x=true):∃ v,peek env x=some v/\((∃ s,v=.str s)\/v=.snil\/∃ sz xs o,v=.sl sz xs o):=by
 unfold zf2 at h;split at h
 ·rename_i t hc;exact ⟨_,q6 hr hc,.inl ⟨_,rfl⟩⟩
 ·rename_i sz t o hc;exact ⟨_,q6 hr hc,.inr (.inr ⟨_,_,_,rfl⟩)⟩
 ·rename_i hc;exact ⟨_,q6 hr hc,.inr (.inl rfl)⟩
 ·rename_i i cl hc;refine ⟨_,q6 hr hc,?_⟩;split at h
  ·rename_i hk;have:=hr.ks i _ hk;cases hv:at' ρ i with
   | str s=>left;refine ⟨s,?_⟩;cases cl<;>simp only [evC,hv,clr]
   | _=>rw [hv] at this;simp [kOk] at this
  ·rename_i sz hk;have:=hr.ks i _ hk;cases hv:at' ρ i with
   | snil=>right;left;cases cl<;>simp only [evC,hv,clr]
   | sl sz' xs o=>right;right;cases cl<;>simp only [evC,hv,clr]<;>exact ⟨_,_,_,rfl⟩
   | _=>rw [hv] at this;simp [kOk] at this
  ·cases h
 ·cases h
theorem zbg {cx:Cx} (hu:∀ e,cx.uq e=false) {b:Builtin} (hb:b≠.copy) {args:Array Operand} {ats:Array TypeId} {dst:Option Tmp} {type:TypeId} {pos:String} {after:Array Edge} {guard:Option (Nat×Bool)} :
  cx.op takes ⟨dst,.call ⟨.builtin b,args,ats⟩,type,pos,after,guard⟩ env H lk df=zoF H lk df (cx.builtin b ats args env H):=by
 have plain:(match cx.builtin b ats args env H with|none=>none|some (r,env)=>some (r,(⟨env,H,lk,df⟩:St)))=zoF H lk df (cx.builtin b ats args env H):=by
  cases cx.builtin b ats args env H<;>rfl
 simp only [Cx.op];split
 ·exact absurd rfl hb
 ·rename_i x y t u h1 h2;simp only [zcQ hu];exact plain
 ·exact plain
theorem zkA {o:Oper} {c:Cls} (h:jW takes σ o=some c) {v:V} {s':St} {cx:Cx} (hu:∀ e,cx.uq e=false) (hr:PRel ρ pa σ env H) (hc:c=.free) (hop:cx.op takes o env H lk df=some (.val v,s')) :
  ∀ H2 lk2 df2,∃ s2,cx.op takes o env H2 lk2 df2=some (.val v,s2):=by
 subst hc;have hn:wL takes o=false:=zgd h;cases hl:zdP o with
 | false=>exact fun H2 lk2 df2=>ziY (by rw [y7 hu];exact hn) (by rw [zhd hu];exact hl) hop lk2 df2
 | true =>
  intro H2 lk2 df2;obtain ⟨dst,op,type,pos,after,guard⟩:=o;cases op<;>simp only [zdP,zAD] at hl
  case load tt a =>
   have ht:qB takes dst=false:=by
    have hl:wL takes ⟨dst,.load tt a,type,pos,after,guard⟩=qB takes dst:=by cases dst<;>rfl
    rw [<- hl];exact hn
   rw [zal ht] at hop ⊢;have key:(peek env a).bind (zJ cx.P H2 cx.gl tt)=(peek env a).bind (zJ cx.P H cx.gl tt):=by
    rcases xd h with ⟨_,⟨g,rfl⟩,_⟩|⟨_,_,_,_,e⟩|⟨_,cs,hpk,_⟩|⟨_,_,_,_,e⟩
    ·simp only [peek,zAB,zJ]
    ·cases e
    ·obtain ⟨u,e1,e2⟩:=wt hr hpk;cases e2;simp only [e1,zAB,zJ]
    ·cases e
   rw [key];unfold rdQ at hop ⊢;split at hop
   ·cases hop;exact ⟨_,rfl⟩
   ·cases hop
  case lookup=>simp only [jW] at h;cases h
  case call c =>
   obtain ⟨callee,args,ats⟩:=c;simp only [jW] at h;have bi:∀ b,callee=.builtin b->cx.builtin b ats args env H2=cx.builtin b ats args env H->∃ s2,cx.op takes ⟨dst,.call ⟨callee,args,ats⟩,type,pos,after,guard⟩ env H2 lk2 df2=some (.val v,s2):=fun b hb he=>by
    subst hb;have hcp:b≠.copy:=by rintro rfl;simp [wL] at hn
    rw [zbg hu hcp] at hop ⊢;rw [he];unfold zoF at hop ⊢;split at hop
    ·simp only [zAA,zAH] at hop;obtain ⟨rfl,rfl⟩:=hop;exact ⟨_,rfl⟩
    ·cases hop
   split at h
   ·split at h
    ·cases h
    ·cases h
   ·rename_i x h2;split at h
    ·rename_i hf;refine bi _ rfl ?_;obtain ⟨u,e1,e2⟩:=zjo hr hf;obtain rfl:args=#[x]:=by apply Array.toList_inj.1;simpa using h2
     have hl:∀ t',kO cx.P H2 t' u=kO cx.P H t' u:=fun t'=>by
      rcases e2 with ⟨_,rfl⟩|rfl|⟨_,_,_,rfl⟩<;>unfold kO<;>split<;>simp_all
     unfold Cx.builtin;split<;>first|rfl|skip
     ·rename_i x' t' _ g1 g2;simp only [zAm,zBF] at g1;subst g1;simp only [e1,Option.bind_eq_bind,zAB,hl]
     ·rename_i hh _ _;cases hh
    ·cases h
   ·rename_i x y h2;split at h
    ·rename_i hf;refine bi _ rfl ?_;obtain ⟨u,e1,e2⟩:=zjo hr hf;obtain rfl:args=#[x,y]:=by apply Array.toList_inj.1;simpa using h2
     have ha:∀ t' w,qL cx.P H2 t' w u=qL cx.P H t' w u:=fun t' w=>by
      have he:∀ e,vr cx.P H2 e u=vr cx.P H e u:=fun e=>by
       rcases e2 with ⟨_,rfl⟩|rfl|⟨_,_,_,rfl⟩<;>rfl
      simp only [qL,he]
     unfold Cx.builtin;split<;>first|rfl|skip
     ·rename_i hh _ _;cases hh
     ·rename_i x' y' t' u' _ g1 g2;simp only [zAm,zBF] at g1;obtain ⟨g1a,g1b⟩:=g1;subst g1a g1b;simp only [e1,Option.bind_eq_bind,zAB,ha]
    ·cases h
   ·refine bi _ rfl ?_;unfold Cx.builtin;split
    ·rename_i hh _ _;cases hh
    ·rename_i hh _ _;cases hh
    all_goals rfl
   ·refine bi _ rfl ?_;unfold Cx.builtin;split
    ·rename_i hh _ _;cases hh
    ·rename_i hh _ _;cases hh
    all_goals rfl
   ·cases h
theorem zpy {o:Oper} {b:Nat} (h:jW takes σ o=some (.rd b)) {v:V} {s':St} {cx:Cx} (hr:PRel ρ pa σ env H) (hop:cx.op takes o env H lk df=some (.val v,s')) :
  ∀ H2 lk2 df2,H2.get (pd pa b)=H.get (pd pa b)->∃ s2,cx.op takes o env H2 lk2 df2=some (.val v,s2):=by
 intro H2 lk2 df2 hb;have hn:wL takes o=false:=zgd h;obtain ⟨dst,op,type,pos,after,guard⟩:=o;cases op
 case load tt a =>
  have ht:qB takes dst=false:=by
   have hl:wL takes ⟨dst,.load tt a,type,pos,after,guard⟩=qB takes dst:=by cases dst<;>rfl
   rw [<- hl];exact hn
  rw [zal ht] at hop ⊢;have key:(peek env a).bind (zJ cx.P H2 cx.gl tt)=(peek env a).bind (zJ cx.P H cx.gl tt):=by
   rcases xd h with ⟨_,_,e⟩|⟨_,b',off,hpk,e⟩|⟨_,_,_,e⟩|⟨_,_,_,_,e⟩<;>cases e
   obtain ⟨u,e1,e2⟩:=wt hr hpk;cases e2;simp only [e1,zAB,zC,evC,zJ,hb]
  rw [key];unfold rdQ at hop ⊢;split at hop
  ·cases hop;exact ⟨_,rfl⟩
  ·cases hop
 case store tt a x =>
  simp only [jW] at h;split at h<;>cases h
 case call c =>
  obtain ⟨callee,args,ats⟩:=c;simp only [jW] at h
  repeat' split at h
  all_goals cases h
 all_goals simp only [jW] at h;cases h
theorem zl6 (hph:zl1 P gl ph) {o:Oper} (hc:jW takes σ o=some .call) (h:xOp P takes σ o k=some t) (hr:Rel n0 B ρ pa σ ⟨env,H,lk,df⟩) (hq:evT ph gl N t ρ=some r) :
  ∃ v,∀ H2,∃ k0,∀ n,k0<=n->∀ lk2 df2,Cx.op ⟨P,gl,zx P gl n,gl.uq⟩ takes o env H2 lk2 df2=some (.val v,⟨env,H2,lk2,df2⟩):=by
 obtain ⟨dst,op,type,pos,after,guard⟩:=o;cases op
 case load tt a=>rcases xd hc with ⟨_,_,e⟩|⟨_,_,_,_,e⟩|⟨_,_,_,e⟩|⟨_,_,_,_,e⟩<;>cases e
 case store tt a x =>
  simp only [jW] at hc;split at hc<;>cases hc
 case call c =>
  obtain ⟨callee,args,ats⟩:=c;simp only [jW] at hc;split at hc
  ·rename_i f l;split at hc
   ·rename_i vs0 hpk0;simp only [xOp] at h;unfold zi9 at h;split at h
    ·rename_i fn vs ns hfn hpk;rw [hpk0] at hpk;simp only [zAA,zAH] at hpk;obtain ⟨rfl,rfl⟩:=hpk;split at h
     ·rename_i body lent hbody hlent;obtain ⟨vals,p1,p2,_,p4⟩:=pks_ok hr hpk0 (by simp)
      simp only [zeZ,zAA] at hlent;subst hlent;split at h
      ·rename_i t0 ht0;cases h;simp only [evT] at hq;split at hq
       ·rename_i v out hv;obtain ⟨e1,e2,e3,e4⟩:=hph _ _ _ _ _ hv;refine ⟨v,fun H2=>?_⟩;obtain ⟨k0,e4⟩:=e4 [] H2 (by simp) trivial
        refine ⟨k0,fun n hn lk2 df2=>?_⟩;have:=e4 n hn;simp only [zAp] at p2;rw [<- p2] at this;rw [qx,p1,zR,z7 hfn hbody this,zdN];rfl
       ·cases hq
      ·cases h
     ·cases h
    ·cases h
   ·cases hc
  ·split at hc<;>cases hc
  ·split at hc<;>cases hc
  ·cases hc
  ·cases hc
  ·cases hc
 all_goals simp only [jW] at hc;cases hc
end Go.Vm.Sx
namespace Go.Vm.Sx
set_option linter.unusedSectionVars false
open Go Go.Vm
variable {P:Program} {gl:Gl} {ph:PH} {N:Nat} {ρ ρ':List V} {pa pa':List Nat} {σ:Sg} {s:St} {n0:Nat} {B:List Blk} {env:List V} {H:Hp} {lk:List (Nat×Nat)} {df:List (V×List V)} {takes:List Tmp} {k:KT} {t:Tree}
variable [NoU gl]
abbrev cxn (P:Program) (gl:Gl) (n:Nat):Cx:=⟨P,gl,zx P gl n,gl.uq⟩
section
variable {i:Nat} {rs:List Rec} {rl:List Nat} {hs:List Stg} {r q:Rec} {X:Option Blk} {b:Nat}
theorem znv {D i b:Nat} (hDi:bit D i=true):bit (Nat.xor D (Nat.pow 2 i)) b=true ↔ (bit D b=true/\b≠i):=by
 have:bit (Nat.xor D (Nat.pow 2 i)) b=(bit D b ^^ decide (i=b)):=by
  rw [v9,v9];have:Nat.xor D (Nat.pow 2 i)=D ^^^ (2 ^ i):=rfl;rw [this,Nat.testBit_xor,Nat.testBit_two_pow]
 rw [this]
 by_cases he:i=b
 ·subst he;simp [hDi]
 ·have:¬ b=i:=fun e=>he e.symm;simp [he,this]
theorem zjp {D:Nat} (hi:r.idx=i) (hD:qW (r::rs) D) (hDi:bit D i=false):qW rs D:=by
 refine ⟨fun b hb=>?_,fun q hq hqh hqD b hb hbc=>hD.2 q (zAE _ hq) hqh hqD b hb (chgM_cons.2 (.inr hbc))⟩;rcases chgM_cons.1 (hD.1 b hb) with ⟨_,he⟩|hbc
 ·rw [hi] at he;subst he;rw [hb] at hDi;cases hDi
 ·exact hbc
theorem zl7 {D:Nat} (hi:r.idx=i) (hp:r.hp=true) (hm:∀ b,bit r.m b=true->b<i) (hidx:∀ q∈rs,q.idx<i) (hmsk:∀ q∈rs,∀ b,bit q.m b=true->b<q.idx) (hD:qW (r::rs) D) (hDi:bit D i=true) :
  ∃ D0,qW rs D0/\j8 (Nat.land r.m (chgM rs)) D0=true/\D=Nat.lor D0 (Nat.pow 2 i)/\∀ b,bit D0 b=true ↔ (bit D b=true/\b≠i):=by
 have hb0:∀ b,bit (Nat.xor D (Nat.pow 2 i)) b=true ↔ (bit D b=true/\b≠i):=fun b=>znv hDi;refine ⟨Nat.xor D (Nat.pow 2 i),⟨fun b hb=>?_,fun q hq hqh hqD b hb hbc=>?_⟩,subM_spec.2 fun b hb=>?_,kB fun b=>?_,hb0⟩
 ·obtain ⟨h1,h2⟩:=(hb0 b).1 hb;rcases chgM_cons.1 (hD.1 b h1) with ⟨_,he⟩|hbc
  ·rw [hi] at he;exact absurd he.symm h2
  ·exact hbc
 ·obtain ⟨h1,h2⟩:=(hb0 _).1 hqD;refine (hb0 b).2 ⟨hD.2 q (zAE _ hq) hqh h1 b hb (chgM_cons.2 (.inr hbc)),?_⟩;have:=hmsk q hq b hb;have:=hidx q hq;omega
 ·rw [qU,zAF] at hb;refine (hb0 b).2 ⟨hD.2 r zAL hp (by rw [hi];exact hDi) b hb.1 (chgM_cons.2 (.inr hb.2)),?_⟩
  have:=hm b hb.1;omega
 ·have hb:=hb0 b;rw [qT,jf]
  by_cases he:i=b
  ·subst he;simp [hDi]
  ·have hne:b≠i:=fun e=>he e.symm;have hiff:bit (Nat.xor D (Nat.pow 2 i)) b=true ↔ bit D b=true:=⟨fun h=>(hb.1 h).1,fun h=>hb.2 ⟨h,hne⟩⟩;rw [zBe.2 hiff];simp [he]
theorem zaq {D0 D:Nat} (h:∀ b,bit D0 b=true->bit D b=true):∀ {l:List Rec},q5 D0 q l=true->q5 D q l=true
 | [],h=>by cases h
 | x::l,hf=>by
  simp only [q5,zAZ,zAF] at hf ⊢;rcases hf with ⟨⟨a1,a2⟩,a3⟩|a
  ·exact .inl ⟨⟨a1,h _ a2⟩,a3⟩
  ·exact .inr (zaq h a)
theorem vn {D:Nat} {l:List Rec} (h:q5 D q l=true):q5 D q (r::l)=true:=by simp [q5,h]
def RdOk (rs:List Rec) (rl:List Nat) (hs:List Stg) (q:Rec) (b:Nat) (X:Option Blk):Prop :=
 ∀ D S,qW rs D->j8 (Nat.land q.m (chgM rs)) D=true->stg D rl hs=some S->q5 D q rs=true\/S.1.get b=X
theorem RdOk.quiet (h:RdOk rs rl hs q b X) (hp:r.hp=false):RdOk (r::rs) rl hs q b X:=by
 intro D S hD hsub hS;rw [zbe hp] at hsub;rcases h D S ((wH hp).1 hD) hsub hS with g|g
 ·exact .inl (vn g)
 ·exact .inr g
structure Up (i:Nat) (rs:List Rec):Prop where
 lt:∀ q∈rs,q.idx<i
 msk:∀ q∈rs,∀ b,bit q.m b=true->b<q.idx
theorem Up.cons (h:Up i rs) (hi:r.idx=i) (hm:∀ b,bit r.m b=true->b<i):Up (i+1) (r::rs):=by
 refine ⟨fun q hq=>?_,fun q hq b hb=>?_⟩
 ·rcases zAO.1 hq with rfl|hq
  ·omega
  ·have:=h.lt q hq;omega
 ·rcases zAO.1 hq with rfl|hq
  ·rw [hi];exact hm b hb
  ·exact h.msk q hq b hb
theorem zge {D:Nat} (_hq:q∈rs) (_hu:Up i rs) (h:j8 (Nat.land q.m (chgM (r::rs))) D=true):j8 (Nat.land q.m (chgM rs)) D=true:=by
 refine subM_spec.2 fun b hb=>subM_spec.1 h b ?_;rw [qU,zAF] at hb ⊢;exact ⟨hb.1,chgM_cons.2 (.inr hb.2)⟩
theorem zjq {D D0:Nat} (hq:q∈rs) (hu:Up i rs) (h0:∀ b,bit D0 b=true ↔ (bit D b=true/\b≠i)) (h:j8 (Nat.land q.m (chgM (r::rs))) D=true):j8 (Nat.land q.m (chgM rs)) D0=true:=by
 refine subM_spec.2 fun b hb=>(h0 b).2 ⟨subM_spec.1 (zge hq hu h) b hb,?_⟩;rw [qU,zAF] at hb;have:=hu.msk q hq b hb.1;have:=hu.lt q hq;omega
theorem RdOk.call (h:RdOk rs rl hs q b X) (hq:q∈rs) (hi:r.idx=i) (hp:r.hp=true) (hm:∀ b,bit r.m b=true->b<i) (hu:Up i rs) (hni:i ∉ rl):RdOk (r::rs) rl hs q b X:=by
 intro D S hD hsub hS;cases hDi:bit D i with
 | false =>
  rcases h D S (zjp hi hD hDi) (zge hq hu hsub) hS with g|g
  ·exact .inl (vn g)
  ·exact .inr g
 | true =>
  obtain ⟨D0,k1,k2,k3,k4⟩:=zl7 hi hp hm hu.lt hu.msk hD hDi;rw [k3,zbY hni] at hS;rcases h D0 S k1 (zjq hq hu k4 hsub) hS with g|g
  ·exact .inl (vn (zaq (fun b hb=>((k4 b).1 hb).1) g))
  ·exact .inr g
theorem RdOk.wr {S0 S':Stg} {tl:List Stg} (h:RdOk rs rl (S0::tl) q b X) (hq:q∈rs) (hi:r.idx=i) (hp:r.hp=true) (hm:∀ b,bit r.m b=true->b<i) (hu:Up i rs) (hall:∀ j∈rl,bit r.m j=true/\bit (chgM rs) j=true)
  (hc:bit r.m q.idx=true\/S'.1.get b=S0.1.get b\/∃ e∈rs,e.hp=true/\bit e.m q.idx=true/\bit r.m e.idx=true):RdOk (r::rs) (i::rl) (S'::S0::tl) q b X:=by
 intro D S hD hsub hS;cases hDi:bit D i with
 | false =>
  simp only [stg,hDi] at hS;rcases h D S (zjp hi hD hDi) (zge hq hu hsub) hS with g|g
  ·exact .inl (vn g)
  ·exact .inr g
 | true =>
  simp only [stg,hDi,zAA] at hS;subst hS;obtain ⟨D0,k1,k2,k3,k4⟩:=zl7 hi hp hm hu.lt hu.msk hD hDi;rcases hc with hc|hc|⟨e,e1,e2,e3,e4⟩
  ·exact .inl (zcw zAL hp (by rw [hi];exact hDi) hc)
  ·have hS0:stg D0 rl (S0::tl)=some S0:=zbZ fun j hj=>subM_spec.1 k2 j (by rw [qU,(hall j hj).1,(hall j hj).2];rfl)
   rcases h D0 S0 k1 (zjq hq hu k4 hsub) hS0 with g|g
   ·exact .inl (vn (zaq (fun b hb=>((k4 b).1 hb).1) g))
   ·exact .inr (hc.trans g)
  ·left
   refine zcw (zAE _ e1) e2 ?_ e3;exact ((k4 _).1 (subM_spec.1 k2 e.idx (by rw [qU,e4,bit_chgM.2 ⟨e,e1,e2,rfl⟩];rfl))).1
inductive Fr (ds:List DR) (pa:List Nat):List Nat->List Stg->Prop where
 |nil (h:Stg):Fr ds pa [] [h]
 |cons {rl:List Nat} {h h':Stg} {hs:List Stg} (d:DR) (a:Nat):d∈ds->d.cls=.wr a->a<pa.length->(∀ X,X≠pd pa a->h.1.get X=h'.1.get X)->Fr ds pa rl (h'::hs)->Fr ds pa (d.rec'.idx::rl) (h::h'::hs)
theorem Fr.mono {ds ds':List DR} (h:Fr ds pa rl hs) (hd:∀ d∈ds,d∈ds') (hp:pa <+: pa'):Fr ds' pa' rl hs:=by
 induction h with
 | nil h=>exact .nil h
 | cons d a h1 h2 h3 h4 _ ih =>
  refine .cons d a (hd d h1) h2 (zAo h3 hp.length_le) (fun X hX=>h4 X ?_) ih
  rwa [jl hp h3] at hX
theorem Fr.get {ds:List DR} (h:Fr ds pa rl hs) {D b:Nat} (hc:∀ d∈ds,∀ a,d.cls=.wr a->d.rec'.idx∈rl->a<pa.length->bit D d.rec'.idx=false->b≠pd pa a) :
  ∀ {S0 S:Stg} {tl:List Stg},hs=S0::tl->stg D rl hs=some S->S.1.get b=S0.1.get b:=by
 induction h with
 | nil h=>intro S0 S tl e hS;cases e;simp only [stg,zAA] at hS;rw [hS]
 | @cons rl h h' hs d a h1 h2 h3 h4 _ ih =>
  intro S0 S tl e hS;cases e;simp only [stg] at hS;split at hS
  ·cases hS;rfl
  ·rename_i hb;rw [ih (fun d' hd' a' ha' hj=>hc d' hd' a' ha' (zAE _ hj)) rfl hS];exact (h4 b (hc d h1 a h2 zAL h3 hb)).symm
end
inductive Prs (R:DR->Rec->Prop):List DR->List Rec->Prop where
 |nil:Prs R [] []
 |cons {d:DR} {q:Rec} {ds:List DR} {rs:List Rec}:R d q->Prs R ds rs->Prs R (d::ds) (q::rs)
theorem Prs.mono {R R':DR->Rec->Prop} {ds:List DR} {rs:List Rec} (h:Prs R ds rs) (hR:∀ d q,d∈ds->q∈rs->R d q->R' d q):Prs R' ds rs:=by
 induction h with
 | nil=>exact .nil
 | cons h1 _ ih=>exact .cons (hR _ _ zAL zAL h1) (ih fun d q hd hq=>hR d q (zAE _ hd) (zAE _ hq))
theorem Prs.left {R:DR->Rec->Prop} {ds:List DR} {rs:List Rec} (h:Prs R ds rs) {d:DR} (hd:d∈ds):∃ q∈rs,R d q:=by
 induction h with
 | nil=>simp at hd
 | cons h1 _ ih =>
  rcases zAO.1 hd with rfl|hd
  ·exact ⟨_,zAL,h1⟩
  ·obtain ⟨q,h1,h2⟩:=ih hd;exact ⟨q,zAE _ h1,h2⟩
theorem Prs.right {R:DR->Rec->Prop} {ds:List DR} {rs:List Rec} (h:Prs R ds rs) {q:Rec} (hq:q∈rs):∃ d∈ds,R d q:=by
 induction h with
 | nil=>simp at hq
 | cons h1 _ ih =>
  rcases zAO.1 hq with rfl|hq
  ·exact ⟨_,zAL,h1⟩
  ·obtain ⟨d,h1,h2⟩:=ih hq;exact ⟨d,zAE _ h1,h2⟩
structure Key (d:DR) (q:Rec):Prop where
 idx:q.idx=d.rec'.idx
 m:q.m=d.rec'.m
 tm:q.tm=d.rec'.tm
 lm:q.lm=d.rec'.lm
theorem zkB {R:DR->Rec->Prop} (hR:∀ d q,R d q->Key d q) {ds:List DR} {rs:List Rec} (h:Prs R ds rs) (j:Nat):maskAt rs j=maskAt (ds.map (·.rec')) j:=by
 induction h with
 | nil=>rfl
 | cons h1 _ ih=>have:=hR _ _ h1;simp only [zAX,maskAt,this.idx,this.m,ih]
theorem ze9 {R:DR->Rec->Prop} (hR:∀ d q,R d q->Key d q) {ds:List DR} {rs:List Rec} (h:Prs R ds rs):∀ (es:List Edge),kx rs es=kx (ds.map (·.rec')) es
 | []=>rfl
 | e::es=>by simp only [kx,zkB hR h,ze9 hR h es]
theorem zhu {R:DR->Rec->Prop} (hR:∀ d q,R d q->Key d q) {ds:List DR} {rs:List Rec} (h:Prs R ds rs) {r r':Rec} (e1:r.m=r'.m) (e2:r.tm=r'.tm) (e3:r.lm=r'.lm) (hs:jS (jB r) (ds.map (·.rec'))=true):jS (jB r') rs=true:=by
 refine ye fun q hq=>?_;obtain ⟨d,hd,hR'⟩:=h.right hq;have hk:=hR _ _ hR';have:=kp hs d.rec' (zA4.2 ⟨d,hd,rfl⟩);simp only [jB] at this ⊢;rw [<- e1,<- e2,<- e3,hk.idx,hk.tm,hk.lm];exact this
structure Lk1 (P:Program) (gl:Gl) (takes:List Tmp) (pa:List Nat) (rs:List Rec) (rl:List Nat) (hs:List Stg) (d:DR) (q:Rec):Prop where
 key:Key d q
 free:d.cls=.free->q.hp=false/\(q.free=true\/∀ n S,yQ (cxn P gl n) takes [] q S)
 rd:∀ b,d.cls=.rd b->q.hp=false/\b<pa.length/\∃ X,RdOk rs rl hs q (pd pa b) X/\∀ n (S:Stg),S.1.get (pd pa b)=X->yQ (cxn P gl n) takes [] q S
 call:d.cls=.call->q.hp=true/\q.idx ∉ rl/\∀ S:Stg,∃ k,∀ n,k<=n->∀ D D',(cxn P gl n).runC takes q.o q.env ⟨D',S.1,S.2,[]⟩ D=some (q.v,⟨D,S.1,S.2,[]⟩)
 wr:∀ a,d.cls=.wr a->q.hp=true/\a<pa.length/\q.idx∈rl
structure Lk (P:Program) (gl:Gl) (takes:List Tmp) (pa:List Nat) (s:St) (i:Nat) (ds:List DR) (rs:List Rec) (rl:List Nat) (hs:List Stg):Prop where
 prs:Prs (Lk1 P gl takes pa rs rl hs) ds rs
 head:∃ tl,hs=(s.H,s.lk)::tl
 fr:Fr ds pa rl hs
 up:Up i rs
 nd:rl.Nodup
 rlr:∀ j∈rl,∃ q∈rs,q.idx=j/\q.hp=true
theorem Lk.rlt {i:Nat} {ds:List DR} {rs:List Rec} {rl:List Nat} {hs:List Stg} (h:Lk P gl takes pa s i ds rs rl hs):i ∉ rl:=fun hh=>by
 obtain ⟨q,h1,h2,_⟩:=h.rlr i hh;have:=h.up.lt q h1;omega
theorem zl8 {pa:List Nat} {rs0:List Rec} {rl:List Nat} {hs:List Stg} (S:Stg) {ds:List DR} {rs:List Rec} (h:Prs (Lk1 P gl takes pa rs0 rl hs) ds rs) :
  ∃ k,∀ n,k<=n->∀ q∈rs,q.hp=true->q.idx ∉ rl->∀ D D',(cxn P gl n).runC takes q.o q.env ⟨D',S.1,S.2,[]⟩ D=some (q.v,⟨D,S.1,S.2,[]⟩):=by
 induction h with
 | nil=>exact ⟨0,fun n _ q hq=>by simp at hq⟩
 | @cons d q ds rs h1 _ ih =>
  obtain ⟨k1,ih⟩:=ih;cases hc:d.cls with
  | call =>
   obtain ⟨_,_,h2⟩:=h1.call hc;obtain ⟨k2,h2⟩:=h2 S;refine ⟨max k1 k2,fun n hn q' hq' hp hni=>?_⟩;rcases zAO.1 hq' with rfl|hq'
   ·exact h2 n (by omega)
   ·exact ih n (by omega) q' hq' hp hni
  | free =>
   refine ⟨k1,fun n hn q' hq' hp hni=>?_⟩;rcases zAO.1 hq' with rfl|hq'
   ·rw [(h1.free hc).1] at hp;cases hp
   ·exact ih n hn q' hq' hp hni
  | rd b =>
   refine ⟨k1,fun n hn q' hq' hp hni=>?_⟩;rcases zAO.1 hq' with rfl|hq'
   ·rw [(h1.rd b hc).1] at hp;cases hp
   ·exact ih n hn q' hq' hp hni
  | wr a =>
   refine ⟨k1,fun n hn q' hq' hp hni=>?_⟩;rcases zAO.1 hq' with rfl|hq'
   ·exact absurd (h1.wr a hc).2.2 hni
   ·exact ih n hn q' hq' hp hni
end Go.Vm.Sx
namespace Go.Vm.Sx
set_option linter.unusedSectionVars false
open Go Go.Vm
variable {P:Program} {gl:Gl} {ph:PH} {N:Nat} {ρ ρ':List V} {pa pa':List Nat} {σ:Sg} {s:St} {n0:Nat} {B:List Blk} {env:List V} {H:Hp} {lk:List (Nat×Nat)} {df:List (V×List V)} {takes:List Tmp} {k:KT} {t:Tree}
variable [NoU gl]
def znw (o:Oper) (x:OR):Bool:=match x with|.val _=>!zdP o|_=>false
theorem zl9 {cx:Cx} (hu:∀ e,cx.uq e=false) {all:Array Oper} {i m:Nat} {rs:List Rec} {c0:Cfg} {cs:List Cfg} {o:Oper} {os:List Oper} {x:OR} {s1:St} {v:V} (hm:kx rs o.after.toList=some m) (hw:zS all o env=some true) (hop:cx.op takes o env H lk df=some (x,s1)) (hx:znn x v) {r:Rec}
  (hr:r=⟨i,o,m,tmM takes o,Nat.lor (tmM takes o) (lkM all o),wL takes o,znw o x,env,v⟩) (hs:jS (jB r) rs=true) :
  cx.opsD all takes i rs (c0::cs) (o::os) ⟨env,H,lk,df⟩=cx.cfgsK takes rs r c0 ⟨Nat.lor c0.D (Nat.pow 2 i),s1.H,s1.lk,s1.defers⟩ cs fun cs'=>cx.opsD all takes (i+1) (r::rs) cs' os ⟨zl s1.env o.dst v,s1.H,s1.lk,s1.defers⟩:=by
 obtain ⟨env1,H1,lk1,df1⟩:=s1;subst hr;rcases hx with rfl|⟨rfl,rfl⟩
 ·simp only [znw] at hs ⊢;simp only [Cx.opsD,hm,qP,hw,hop,zO,q8,y7 hu,zhd hu,hs]
 ·simp only [znw] at hs ⊢;simp only [Cx.opsD,hm,qP,hw,hop,zO,q8,y7 hu,hs]
theorem zkC {cx:Cx} {all:Array Oper} {i m:Nat} {rs:List Rec} {c0:Cfg} {cs:List Cfg} {o:Oper} {os:List Oper} (hm:kx rs o.after.toList=some m) (hw:zS all o env=some false) {r:Rec}
  (hr:r=⟨i,o,m,tmM takes o,Nat.lor (tmM takes o) (lkM all o),false,true,env,.tup []⟩) (hs:jS (jB r) rs=true) :
  cx.opsD all takes i rs (c0::cs) (o::os) ⟨env,H,lk,df⟩=cx.cfgsK takes rs r c0 ⟨Nat.lor c0.D (Nat.pow 2 i),H,lk,df⟩ cs fun cs'=>cx.opsD all takes (i+1) (r::rs) cs' os ⟨zl env o.dst (.tup []),H,lk,df⟩:=by
 subst hr;simp only [Cx.opsD,hm,qP,hw,zO,q8,hs]
theorem znx {i m:Nat} {rs:List Rec} {es:List Edge} (hu:Up i rs) (h:kx rs es=some m):∀ b,bit m b=true->b<i:=by
 intro b hb;obtain ⟨_,h2⟩:=yr h;have:=h2 b hb
 grind [Up]
def DGo (P:Program) (gl:Gl) (ph:PH) (N:Nat) (takes:List Tmp) (all:Array Oper) (kk:Sg->Option Tree) (r:Nat×List V) (n0:Nat) (B:List Blk) (i:Nat) (rs:List Rec) (rl:List Nat) (hs:List Stg) (os:List Oper) (ρ:List V) (pa:List Nat) (s:St):Prop :=
 ∃ σ' ρ' pa' t' s',kk σ'=some t'/\evT ph gl N t' ρ'=some r/\ρ <+: ρ'/\pa <+: pa'/\Rel n0 B ρ' pa' σ' s'/\∃ k0,∀ n,k0<=n->∀ c0 cs,DInv (cxn P gl n) takes [] i rs rl hs c0 cs->(cxn P gl n).opsD all takes i rs (c0::cs) os s=some (.normal,s')
theorem Lk1.quiet {rs:List Rec} {rl:List Nat} {hs:List Stg} {d:DR} {q r:Rec} (h:Lk1 P gl takes pa rs rl hs d q) (hp:r.hp=false) (hpa:pa <+: pa'):Lk1 P gl takes pa' (r::rs) rl hs d q:=by
 refine ⟨h.key,h.free,fun b hb=>?_,h.call,fun a ha=>?_⟩
 ·obtain ⟨h1,h2,X,h3,h4⟩:=h.rd b hb;refine ⟨h1,zAo h2 hpa.length_le,X,?_,?_⟩
  ·rw [jl hpa h2];exact h3.quiet hp
  ·rw [jl hpa h2];exact h4
 ·obtain ⟨h1,h2,h3⟩:=h.wr a ha;exact ⟨h1,zAo h2 hpa.length_le,h3⟩
theorem Lk1.callr {i:Nat} {rs:List Rec} {rl:List Nat} {hs:List Stg} {d:DR} {q r:Rec} (h:Lk1 P gl takes pa rs rl hs d q) (hq:q∈rs) (hi:r.idx=i) (hp:r.hp=true) (hm:∀ b,bit r.m b=true->b<i) (hu:Up i rs) (hni:i ∉ rl) (hpa:pa <+: pa'):Lk1 P gl takes pa' (r::rs) rl hs d q:=by
 refine ⟨h.key,h.free,fun b hb=>?_,h.call,fun a ha=>?_⟩
 ·obtain ⟨h1,h2,X,h3,h4⟩:=h.rd b hb;refine ⟨h1,zAo h2 hpa.length_le,X,?_,?_⟩
  ·rw [jl hpa h2];exact h3.call hq hi hp hm hu hni
  ·rw [jl hpa h2];exact h4
 ·obtain ⟨h1,h2,h3⟩:=h.wr a ha;exact ⟨h1,zAo h2 hpa.length_le,h3⟩
theorem Lk1.wrr {i:Nat} {rs:List Rec} {rl:List Nat} {S0 S':Stg} {tl:List Stg} {d:DR} {q r:Rec} (h:Lk1 P gl takes pa rs rl (S0::tl) d q) (hq:q∈rs) (hi:r.idx=i) (hp:r.hp=true) (hm:∀ b,bit r.m b=true->b<i) (hu:Up i rs) (hall:∀ j∈rl,bit r.m j=true/\bit (chgM rs) j=true) (hpa:pa <+: pa')
  (hc:∀ b,d.cls=.rd b->b<pa.length->bit r.m q.idx=true\/S'.1.get (pd pa b)=S0.1.get (pd pa b)\/∃ e∈rs,e.hp=true/\bit e.m q.idx=true/\bit r.m e.idx=true):Lk1 P gl takes pa' (r::rs) (i::rl) (S'::S0::tl) d q:=by
 refine ⟨h.key,h.free,fun b hb=>?_,fun hd=>?_,fun a ha=>?_⟩
 ·obtain ⟨h1,h2,X,h3,h4⟩:=h.rd b hb;refine ⟨h1,zAo h2 hpa.length_le,X,?_,?_⟩
  ·rw [jl hpa h2];exact h3.wr hq hi hp hm hu hall (hc b hb h2)
  ·rw [jl hpa h2];exact h4
 ·obtain ⟨h1,h2,h3⟩:=h.call hd;refine ⟨h1,?_,h3⟩;simp only [zAO,not_or];exact ⟨fun e=>by have:=hu.lt q hq;omega,h2⟩
 ·obtain ⟨h1,h2,h3⟩:=h.wr a ha;exact ⟨h1,zAo h2 hpa.length_le,zAE _ h3⟩
theorem zb0 {cx:Cx} {o:Oper} {c:Cfg} {D:Nat} {x:OR} {v:V} {s1:St} (h:cx.op takes o env c.H c.lk c.df=some (x,s1)) (hx:znn x v):cx.runC takes o env c D=some (v,⟨D,s1.H,s1.lk,s1.defers⟩):=by
 unfold Cx.runC;rcases hx with rfl|⟨rfl,rfl⟩<;>simp only [h]
theorem zfa {o:Oper} (hn:wL takes o=false) (n n':Nat):(cxn P gl n).op takes o env H lk df=(cxn P gl n').op takes o env H lk df:=by
 obtain ⟨dst,op,type,pos,after,guard⟩:=o;cases op
 case slice t x lo hi mx=>cases mx<;>rfl
 case call c =>
  obtain ⟨callee,args,ats⟩:=c;cases callee
  case builtin b =>
   have hcp:b≠.copy:=by rintro rfl;simp [wL] at hn
   rw [zbg (NoU.out (gl:=gl)) hcp,zbg (NoU.out (gl:=gl)) hcp];rfl
  all_goals simp [wL] at hn
 all_goals first|rfl|(simp [wL] at hn)
theorem zpz {o:Oper} {b:Nat} (hc:jW takes σ o=some (.rd b)) (h:xOp P takes σ o k=some t) (hr:Rel n0 B ρ pa σ s):b<σ.na:=by
 have hn:wL takes o=false:=zgd hc;obtain ⟨dst,op,type,pos,after,guard⟩:=o;cases op
 case load tt a =>
  rcases xd hc with ⟨_,_,e⟩|⟨ht,b',off,hpk,e⟩|⟨_,_,_,e⟩|⟨_,_,_,_,e⟩<;>cases e
  simp only [xOp,ht] at h;have key:vG P σ (.load tt a) k=some t->b<σ.na:=fun h=>by
   unfold vG at h;simp only [zcS,hpk] at h;split at h
   ·rename_i v hv;split at hv
    ·rename_i cs _ hf;exact hr.bn b _ hf
    ·cases hv
   ·cases h
  cases a with
  | global g=>simp [pk] at hpk
  | _=>exact key h
 case store tt a x =>
  simp only [jW] at hc;split at hc<;>cases hc
 case call c =>
  obtain ⟨callee,args,ats⟩:=c;simp only [jW] at hc
  repeat' split at hc
  all_goals cases hc
 all_goals simp only [jW] at hc;cases hc
theorem zd6 {x:Operand} {f g:Sg->SC->Option Tree} (h:yA σ x f=some t) (hfg:∀ σ' sc,σ'.na=σ.na->σ'.blks=σ.blks->∀ t,f σ' sc=some t->g σ' sc=some t):yA σ x g=some t:=by
 unfold yA at h ⊢;split at h
 ·split at h
  ·exact hfg _ _ (by exact rfl) (by exact rfl) _ h
  ·split at h
   ·exact hfg _ _ (by exact rfl) (by exact rfl) _ h
   ·cases h
  ·split at h
   ·exact hfg _ _ (by exact rfl) (by exact rfl) _ h
   ·cases h
  ·cases h
 ·split at h
  ·exact hfg _ _ (by exact rfl) (by exact rfl) _ h
  ·cases h
def zgf (c:Cls) (σ:Sg):Bool:=match c with|.wr a=>Nat.blt a σ.na|_=>true
theorem zma {o:Oper} {c:Cls} (hc:jW takes σ o=some c) (h:xOp P takes σ o k=some t) (hr:Rel n0 B ρ pa σ s):xOp P takes σ o (fun σ' v=>if zgf c σ' then k σ' v else none)=some t:=by
 have triv:(∀ σ',zgf c σ'=true)->xOp P takes σ o (fun σ' v=>if zgf c σ' then k σ' v else none)=some t:=fun hh=>by
  simp only [hh,if_true];exact h
 cases c with
 | free=>exact triv fun _=>rfl
 | rd b=>exact triv fun _=>rfl
 | call=>exact triv fun _=>rfl
 | wr a =>
  clear triv;obtain ⟨dst,op,type,pos,after,guard⟩:=o;have hb:∀ x,jv a σ.blks=some x->Nat.blt a σ.na=true:=fun x hx=>by
   have:=hr.bn a x hx;simpa [zBq] using this
  cases op
  case load tt a' =>
   rcases xd hc with ⟨_,_,e⟩|⟨_,_,_,_,e⟩|⟨_,_,_,e⟩|⟨ht,b',off,hpk,e⟩<;>cases e
   simp only [xOp,ht,hpk] at h ⊢;split at h
   ·rename_i h1 h2;cases h2;split at h
    ·rename_i cs ty hf;simp only [zgf,hb _ hf,if_true];exact h
    ·cases h
   ·cases h
  case alloc tt =>
   simp only [jW,zAA,Cls.wr.injEq] at hc;subst hc;simp only [xOp] at h ⊢;split at h
   ·rename_i z hz;have hlt:Nat.blt σ.na (σ.na+1)=true:=by simp
    simp only [zgf,yB,hlt,if_true];exact h
   ·cases h
  case box tt x =>
   simp only [jW,zAA,Cls.wr.injEq] at hc;subst hc;simp only [xOp] at h ⊢;refine zd6 h fun σ' sc e1 e2 t h=>?_;have hlt:Nat.blt σ.na (σ'.na+1)=true:=by rw [e1];simp
   simp only [zgf,yB,hlt,if_true];exact h
  case store tt a' x =>
   simp only [jW] at hc;simp only [xOp] at h ⊢;split at hc
   ·rename_i b off hpk;cases hc;simp only [hpk] at h ⊢;refine zd6 h fun σ' sc e1 e2 t h=>?_;split at h
    ·rename_i n cs ty h1 h2;have hlt:=hb _ (by rw [<- e2];exact h2)
     rw [<- e1] at hlt;simp only [zgf,hlt,if_true];exact h
    ·cases h
   ·cases hc
  case call c =>
   obtain ⟨callee,args,ats⟩:=c;simp only [jW] at hc
   repeat' split at hc
   all_goals cases hc
  all_goals simp only [jW] at hc;cases hc
theorem zgg (he:Env P gl ph) {all:Array Oper} {kk:Sg->Option Tree} {r:Nat×List V}:∀ {os:List Oper} {i:Nat} {ds:List DR} {σ:Sg} {ρ:List V} {pa:List Nat} {s:St} {t:Tree} {rs:List Rec} {rl:List Nat} {hs:List Stg},
  zbN P all takes kk i ds os σ=some t->Rel n0 B ρ pa σ s->evT ph gl N t ρ=some r->Lk P gl takes pa s i ds rs rl hs->DGo P gl ph N takes all kk r n0 B i rs rl hs os ρ pa s
 | [],i,ds,σ,ρ,pa,s,t,rs,rl,hs,h,hr,hq,hL=>⟨σ,ρ,pa,t,s,h,hq,zAK _,zAK _,hr,0,fun n _ c0 cs _=>rfl⟩
 | o::os,i,ds,σ,ρ,pa,⟨env,H,lk,df⟩,t,rs,rl,hs,h,hr,hq,hL=>by
  simp only [zbN] at h;split at h
  ·cases h
  rename_i htk;simp only [zAr,zBZ] at htk;split at h
  ·cases h
  rename_i m hm0;split at h
  ·cases h
  rename_i hsl;simp only [zAr,zBZ] at hsl;have hm:kx rs o.after.toList=some m:=by rw [ze9 (fun d q h=>h.key) hL.prs];exact hm0
  have hmlt:=znx hL.up hm;obtain ⟨tl,hhs⟩:=hL.head;have hdf:df=[]:=hr.df;subst hdf;have hni:=hL.rlt;have run:∀ {σ0:Sg} {ρ0:List V} {t0:Tree} {c:Cls},zS all o env=some true->Rel n0 B ρ0 pa σ0 ⟨env,H,lk,[]⟩->ρ <+: ρ0->jW takes σ0 o=some c->zhj m c ds=true ->
    xOp P takes σ0 o (fun σ v=>zbN P all takes kk (i+1) (⟨zdU takes all i m o,c⟩::ds) os (putS σ o.dst v))=some t0->evT ph gl N t0 ρ0=some r->DGo P gl ph N takes all kk r n0 B i rs rl hs (o::os) ρ pa ⟨env,H,lk,[]⟩:=by
   intro σ0 ρ0 t0 c hw hr0 hpre hc hcm h0 hq0;obtain ⟨σ1,sv,ρ1,pa1,t1,x,s1,v,g1,g2,g3,g4,g5,⟨k1,g6⟩,g7,g8,g9⟩:=zl3 he (zma hc h0 hr0) hr0 hq0 htk
   dsimp only at g1
   have gw:zgf c σ1=true:=by
    split at g1
    ·assumption
    ·cases g1
   simp only [gw,if_true] at g1;obtain ⟨env1,H1,lk1,df1⟩:=s1;have hdf1:df1=[]:=g5.df;subst hdf1;have g5':=g5.putS (d:=o.dst) (sv:=sv) (v:=v) g8;have hhp:=zgd hc
   let rec0:Rec:=⟨i,o,m,tmM takes o,Nat.lor (tmM takes o) (lkM all o),wL takes o,znw o x,env,v⟩
   have hslr:jS (jB rec0) rs=true:=zhu (fun d q h=>h.key) hL.prs (r:=zdU takes all i m o) (r':=rec0) rfl rfl rfl hsl;have hkey:Key ⟨zdU takes all i m o,c⟩ rec0:=⟨rfl,rfl,rfl,rfl⟩;have step:=fun n (hn:k1<=n) c0 cs=>zl9 (NoU.out (gl:=gl)) (c0:=c0) (cs:=cs) (os:=os) (rs:=rs) hm hw (g6 n hn) g7 (r:=rec0) rfl hslr;have hpna:pa.length=σ0.na:=hr0.na
   have fin:∀ {rl':List Nat} {hs':List Stg},Lk P gl takes pa1 ⟨zl env1 o.dst v,H1,lk1,[]⟩ (i+1) (⟨zdU takes all i m o,c⟩::ds) (rec0::rs) rl' hs' ->
     (∃ k2,∀ n,k2<=n->∀ c0 cs,DInv (cxn P gl n) takes [] i rs rl hs c0 cs->∃ c0' cs',(∀ k,(cxn P gl n).cfgsK takes rs rec0 c0 ⟨Nat.lor c0.D (Nat.pow 2 i),H1,lk1,[]⟩ cs k=k (c0'::cs'))/\DInv (cxn P gl n) takes [] (i+1) (rec0::rs) rl' hs' c0' cs') ->
     DGo P gl ph N takes all kk r n0 B i rs rl hs (o::os) ρ pa ⟨env,H,lk,[]⟩:=by
    intro rl' hs' hL' ⟨k2,hk2⟩;obtain ⟨σ',ρ',pa',t',s',f1,f2,f3,f4,f5,k3,f6⟩:=zgg he g1 g5' g2 hL';refine ⟨σ',ρ',pa',t',s',f1,f2,(hpre.trans g3).trans f3,g4.trans f4,f5,max k1 (max k2 k3),fun n hn c0 cs hD=>?_⟩;rw [step n (by omega) c0 cs]
    obtain ⟨c0',cs',e1,e2⟩:=hk2 n (by omega) c0 cs hD
    rw [e1];exact f6 n (by omega) c0' cs' e2
   have look:rec0.hp=false->(rec0.free=true\/∀ n D (S:Stg),qW rs D->j8 (Nat.land rec0.m (chgM rs)) D=true->stg D rl hs=some S->yQ (cxn P gl n) takes [] rec0 S)->Lk1 P gl takes pa1 (rec0::rs) rl hs ⟨zdU takes all i m o,c⟩ rec0 ->
     DGo P gl ph N takes all kk r n0 B i rs rl hs (o::os) ρ pa ⟨env,H,lk,[]⟩:=by
    intro hp hv hl1;obtain ⟨v',e1,e2,_⟩:=wD (by rw [y7 (NoU.out (gl:=gl))];exact hp) (g6 k1 (zAR _))
    simp only [St.mk.injEq] at e2;obtain ⟨_,rfl,rfl,_⟩:=e2;refine fin (rl':=rl) (hs':=hs) ⟨?_,⟨tl,hhs⟩,hL.fr.mono (fun d hd=>zAE _ hd) g4,hL.up.cons rfl hmlt,hL.nd,fun j hj=>?_⟩ ⟨0,fun n _ c0 cs hD=>?_⟩
    ·exact .cons hl1 (hL.prs.mono fun d q _ _ hh=>hh.quiet hp g4)
    ·obtain ⟨q,q1,q2⟩:=hL.rlr j hj;exact ⟨q,zAE _ q1,q2⟩
    ·obtain ⟨e1,e2⟩:=hD.quiet (r:=rec0) rfl hmlt hp (hv.imp id fun hv=>hv n) (c1:=⟨Nat.lor c0.D (Nat.pow 2 i),H1,lk1,[]⟩);exact ⟨c0,cs,e1,e2⟩
   cases c with
   | free =>
    have hp:rec0.hp=false:=hhp;obtain ⟨v',e1,e2,_⟩:=wD (by rw [y7 (NoU.out (gl:=gl))];exact hp) (g6 k1 (zAR _))
    have hx:x=.val v:=by rcases g7 with g7|⟨g7,_⟩;exact g7;rw [g7] at e1;cases e1
    have hsame:∀ n (S:Stg),yQ (cxn P gl n) takes [] rec0 S:=fun n S=>by
     have hop:=g6 k1 (zAR _);rw [hx,zfa hp k1 n] at hop;obtain ⟨s2,hs2⟩:=zkA hc (NoU.out (gl:=gl)) hr0.here rfl hop S.1 S.2 [];exact ⟨_,zb0 (x:=.val v) (c:=⟨0,S.1,S.2,[]⟩) (D:=0) hs2 (.inl rfl)⟩
    exact look hp (.inr fun n D S _ _ _=>hsame n S) ⟨hkey,fun _=>⟨hp,.inr hsame⟩,fun _ hh=>(by cases hh),fun hh=>(by cases hh),fun _ hh=>(by cases hh)⟩
   | rd b =>
    have hp:rec0.hp=false:=hhp;obtain ⟨v',e1,e2,_⟩:=wD (by rw [y7 (NoU.out (gl:=gl))];exact hp) (g6 k1 (zAR _))
    have hx:x=.val v:=by rcases g7 with g7|⟨g7,_⟩;exact g7;rw [g7] at e1;cases e1
    have hb:b<pa.length:=by rw [hpna];exact zpz hc h0 hr0
    have hsame:∀ n (S:Stg),S.1.get (pd pa b)=H.get (pd pa b)->yQ (cxn P gl n) takes [] rec0 S:=fun n S hS=>by
     have hop:=g6 k1 (zAR _);rw [hx,zfa hp k1 n] at hop;obtain ⟨s2,hs2⟩:=zpy hc hr0.here hop S.1 S.2 [] hS;exact ⟨_,zb0 (x:=.val v) (c:=⟨0,S.1,S.2,[]⟩) (D:=0) hs2 (.inl rfl)⟩
    have hget:∀ D (S:Stg),qW rs D->j8 (Nat.land rec0.m (chgM rs)) D=true->stg D rl hs=some S->S.1.get (pd pa b)=H.get (pd pa b):=fun D S hD hsub hS=>by
     refine hL.fr.get (fun d hd a ha hj hlt hbit=>?_) hhs hS;simp only [zhj] at hcm;have hcd:=kp hcm d hd;obtain ⟨q,q1,q2,q3⟩:=hL.rlr _ hj;have hnm:bit m d.rec'.idx=false:=by
      cases hh:bit m d.rec'.idx with
      | false=>rfl
      | true =>
       have:=subM_spec.1 hsub d.rec'.idx (by rw [qU,bit_chgM.2 ⟨q,q1,q3,q2⟩];simp only [rec0,hh,zAc])
       rw [this] at hbit;cases hbit
     rw [hnm,ha] at hcd;simp only [zlH,zBL,zAr] at hcd;intro e;have:=hr0.inj b a (by rw [<- hpna];exact hb) (by rw [<- hpna];exact hlt) e
     subst this;simp at hcd
    refine look hp (.inr fun n D S h1 h2 h3=>hsame n S (hget D S h1 h2 h3)) ⟨hkey,fun hh=>(by cases hh),fun b' hb'=>?_,fun hh=>(by cases hh),fun _ hh=>(by cases hh)⟩
    cases hb';refine ⟨hp,zAo hb g4.length_le,H.get (pd pa b),?_,?_⟩
    ·rw [jl g4 hb];intro D S hD hsub hS;rw [zbe hp] at hsub;exact .inr (hget D S ((wH hp).1 hD) hsub hS)
    ·rw [jl g4 hb];exact hsame
   | call =>
    have hp:rec0.hp=true:=hhp;obtain ⟨v',hany⟩:=zl6 he.calls hc h0 hr0 hq0;have hv':x=.val v'/\(⟨env1,H1,lk1,[]⟩:St)=⟨env,H,lk,[]⟩:=by
     obtain ⟨k2,h2⟩:=hany H;have a:=g6 (max k1 k2) (by omega)
     have b:=h2 (max k1 k2) (by omega) lk []
     have:=a.symm.trans b;simpa using this
    obtain ⟨hxv,he1⟩:=hv';have hvv:v'=v:=by
     rcases g7 with g7|⟨g7,_⟩
     ·rw [g7] at hxv;cases hxv;rfl
     ·rw [g7] at hxv;cases hxv
    subst hvv;simp only [St.mk.injEq,zBF] at he1;obtain ⟨rfl,rfl,rfl⟩:=he1;have hcall:∀ S:Stg,∃ k,∀ n,k<=n->∀ D D',(cxn P gl n).runC takes rec0.o rec0.env ⟨D',S.1,S.2,[]⟩ D=some (rec0.v,⟨D,S.1,S.2,[]⟩):=fun S=>by
     obtain ⟨k2,h2⟩:=hany S.1;exact ⟨k2,fun n hn D D'=>zb0 (x:=.val v') (c:=⟨D',S.1,S.2,[]⟩) (h2 n hn S.2 []) (.inl rfl)⟩
    refine fin (rl':=rl) (hs':=hs) ⟨?_,⟨tl,hhs⟩,hL.fr.mono (fun d hd=>zAE _ hd) g4,hL.up.cons rfl hmlt,hL.nd,fun j hj=>?_⟩ ?_
    ·refine .cons ⟨hkey,fun hh=>(by cases hh),fun _ hh=>(by cases hh),fun _=>⟨hp,hni,hcall⟩,fun _ hh=>(by cases hh)⟩ (hL.prs.mono fun d q _ hq hh=>hh.callr hq rfl hp hmlt hL.up hni g4)
    ·obtain ⟨q,q1,q2⟩:=hL.rlr j hj;exact ⟨q,zAE _ q1,q2⟩
    ·have hk:∃ k2,∀ n,k2<=n->∀ S∈hs,∀ D D',(cxn P gl n).runC takes rec0.o rec0.env ⟨D',S.1,S.2,[]⟩ D=some (rec0.v,⟨D,S.1,S.2,[]⟩):=by
      have:∀ l:List Stg,∃ k2,∀ n,k2<=n->∀ S∈l,∀ D D',(cxn P gl n).runC takes rec0.o rec0.env ⟨D',S.1,S.2,[]⟩ D=some (rec0.v,⟨D,S.1,S.2,[]⟩):=by
       intro l
       induction l with
       | nil=>exact ⟨0,fun n _ S hS=>by simp at hS⟩
       | cons S l ih =>
        obtain ⟨k2,ih⟩:=ih;obtain ⟨k3,h3⟩:=hcall S;refine ⟨max k2 k3,fun n hn S' hS'=>?_⟩;rcases zAO.1 hS' with rfl|hS'
        ·exact h3 n (by omega)
        ·exact ih n (by omega) S' hS'
      exact this hs
     obtain ⟨k2,hk2⟩:=hk;refine ⟨k2,fun n hn c0 cs hD=>?_⟩;have hhead:∀ D,(∀ j∈rl,bit D j=true)->stg D rl hs=some (H1,lk1):=fun D hDD=>by rw [hhs];exact zbZ hDD
     obtain ⟨cs',e1,cs2,e2,e3⟩:=hD.chg (r:=rec0) (rl':=rl) (hs':=hs) (c1:=⟨Nat.lor c0.D (Nat.pow 2 i),H1,lk1,[]⟩) rfl hmlt hp rfl
      (fun c hc hsub=>by
       obtain ⟨d1,d2⟩:=hD.cfg c hc;refine ⟨c.H,c.lk,fun D'=>?_,by rw [zbY hni];exact d1⟩
       have:=hk2 n hn (c.H,c.lk) (zgc d1) D' c.D;obtain ⟨cD,cH,clk,cdf⟩:=c;simp only at d2 this ⊢;subst d2
       exact this)
      ⟨(by
        rw [zbY hni];refine hhead c0.D fun j hj=>?_;obtain ⟨q,q1,q2,q3⟩:=hL.rlr j hj
        rw [hD.c0D];exact bit_chgM.2 ⟨q,q1,q3,q2⟩),rfl⟩
      (fun D _=>rfl) (.inl ⟨rfl,rfl⟩)
      (fun q hq hqh hqi S hS D D'=>by
       rcases zAO.1 hq with rfl|hq
       ·exact hk2 n hn S hS D D'
       ·exact hD.calls q hq hqh hqi S hS D D')
      (zbf (fun q hq=>zAE _ hq) (fun b hb=>chgM_cons.2 (.inr hb)) hD.chain) hL.nd
      (fun e=>by have:=congrArg List.length e;simp at this)
     subst e2;exact ⟨_,cs2,e1,e3⟩
   | wr a =>
    have hp:rec0.hp=true:=hhp;have hna1:pa1.length=σ1.na:=g5.na;have ha:a<pa1.length:=by rw [hna1];simpa [zgf,zBq] using gw
    simp only [zhj] at hcm;have hall:∀ j∈rl,bit rec0.m j=true/\bit (chgM rs) j=true:=fun j hj=>by
     obtain ⟨q,q1,q2,q3⟩:=hL.rlr j hj;refine ⟨?_,bit_chgM.2 ⟨q,q1,q3,q2⟩⟩;obtain ⟨d,hd,hdq⟩:=hL.prs.right q1;have hcd:=kp hcm d hd;have hji:d.rec'.idx=j:=by rw [<- hdq.key.idx];exact q2
     cases hdc:d.cls with
     | free=>rw [(hdq.free hdc).1] at q3;cases q3
     | rd b=>rw [(hdq.rd b hdc).1] at q3;cases q3
     | call=>exact absurd (by rw [q2];exact hj) (hdq.call hdc).2.1
     | wr a' =>
      rw [hdc,hji] at hcd;simpa using hcd
    have hcase:∀ d q,d∈ds->q∈rs->Lk1 P gl takes pa rs rl hs d q->∀ b,d.cls=.rd b->b<pa.length->bit rec0.m q.idx=true\/H1.get (pd pa b)=H.get (pd pa b)\/∃ e∈rs,e.hp=true/\bit e.m q.idx=true/\bit rec0.m e.idx=true:=fun d q hd hq hdq b hdc hlt=>by
     have hcd:=kp hcm d hd;rw [hdc] at hcd;simp only [zAZ,zAr] at hcd;rcases hcd with g|g|g
     ·left;rw [hdq.key.idx];exact g
     ·right;left
      rw [<- jl g4 hlt];refine g9 a hc _ fun e=>?_;have:=g5.inj b a (by rw [<- hna1];exact zAo hlt g4.length_le) (by rw [<- hna1];exact ha) e
      subst this;simp at g
     ·right;right
      obtain ⟨e,he1,he2⟩:=zf5 g;simp only [zAF] at he2;obtain ⟨qe,f1,f2⟩:=hL.prs.left he1;cases hec:e.cls with
      | wr a' =>
       obtain ⟨f3,_,f4⟩:=f2.wr a' hec;exact ⟨qe,f1,f3,by rw [f2.key.m,hdq.key.idx];exact he2.2,(hall _ f4).1⟩
      | _=>rw [hec] at he2;simp [Cls.real] at he2
    obtain ⟨k3,hk3⟩:=zl8 (H1,lk1) hL.prs;have hLL:=hL;subst hhs;refine fin (rl':=i::rl) (hs':=(H1,lk1)::(H,lk)::tl) ⟨?_,⟨_,rfl⟩,?_,hL.up.cons rfl hmlt,?_,fun j hj=>?_⟩ ⟨max k1 k3,fun n hn c0 cs hD=>?_⟩
    ·exact .cons ⟨hkey,fun hh=>(by cases hh),fun _ hh=>(by cases hh),fun hh=>(by cases hh),fun a' hh=>(by cases hh;exact ⟨hp,ha,zAL⟩)⟩ (hL.prs.mono fun d q hd hq hh=>hh.wrr hq rfl hp hmlt hL.up hall g4 (hcase d q hd hq hh))
    ·exact .cons ⟨zdU takes all i m o,.wr a⟩ a zAL rfl ha (fun X hX=>g9 a hc X hX) (hL.fr.mono (fun d hd=>zAE _ hd) g4)
    ·exact List.nodup_cons.2 ⟨hni,hL.nd⟩
    ·rcases zAO.1 hj with rfl|hj
     ·exact ⟨rec0,zAL,rfl,hp⟩
     ·obtain ⟨q,q1,q2⟩:=hL.rlr j hj;exact ⟨q,zAE _ q1,q2⟩
    ·have hbi:∀ D,bit (Nat.lor D (Nat.pow 2 i)) i=true:=fun D=>by rw [qT,jf];simp
     obtain ⟨cs',e1,cs2,e2,e3⟩:=hD.chg (r:=rec0) (rl':=i::rl) (hs':=(H1,lk1)::(H,lk)::tl) (c1:=⟨Nat.lor c0.D (Nat.pow 2 i),H1,lk1,[]⟩) rfl hmlt hp rfl
      (fun c hc' hsub=>by
       obtain ⟨d1,d2⟩:=hD.cfg c hc';have:stg c.D rl ((H,lk)::tl)=some (H,lk):=zbZ fun j hj=>subM_spec.1 hsub j (by rw [qU,(hall j hj).1,(hall j hj).2];rfl)
       rw [this] at d1;simp only [zAA,zAH] at d1;refine ⟨H1,lk1,fun D'=>?_,by simp only [stg,hbi]⟩
       have hop:=g6 n (by omega)
       obtain ⟨cD,cH,clk,cdf⟩:=c;simp only at d1 d2;obtain ⟨rfl,rfl⟩:=d1;subst d2
       exact zb0 (c:=⟨cD,_,_,[]⟩) hop g7)
      ⟨by simp only [stg,hbi],rfl⟩
      (fun D hDi=>by simp only [stg,hDi]) (.inr ⟨(H1,lk1),rfl,rfl⟩)
      (fun q hq hqh hqi S hS D D'=>by
       simp only [zAO,not_or] at hqi;rcases zAO.1 hq with rfl|hq
       ·exact absurd rfl hqi.1
       ·rcases zAO.1 hS with rfl|hS
        ·exact hk3 n (by omega) q hq hqh hqi.2 D D'
        ·exact hD.calls q hq hqh hqi.2 S hS D D')
      (.cons rec0 zAL hp (fun j hj=>⟨(hall j hj).1,chgM_cons.2 (.inr (hall j hj).2)⟩) (fun D D'=>zb0 (c:=⟨D',H,lk,[]⟩) (g6 n (by omega)) g7) (zbf (fun q hq=>zAE _ hq) (fun b hb=>chgM_cons.2 (.inr hb)) hD.chain))
      (List.nodup_cons.2 ⟨hni,hL.nd⟩)
      (fun _ q hq f1 f2 D S hDc hDi hsub hS=>by
       obtain ⟨d,hd,hdq⟩:=hL.prs.right hq;cases hdc:d.cls with
       | free =>
        rcases (hdq.free hdc).2 with g|g
        ·rw [g] at f2;cases f2
        ·exact .inr (g n S)
       | rd b =>
        obtain ⟨_,x2,X,x3,x4⟩:=hdq.rd b hdc;have x5:=x3.wr hq (r:=rec0) (S':=(H1,lk1)) rfl hp hmlt hL.up hall (hcase d q hd hq hdq b hdc x2)
        rcases x5 D S hDc (subM_spec.2 fun b hb=>by
          rw [qU,zAF] at hb
          refine subM_spec.1 hsub b (by
           rw [qU,zAF];refine ⟨hb.1,?_⟩;rcases chgM_cons.1 hb.2 with ⟨_,e⟩|e
           ·have z1:=hL.up.msk q hq b hb.1;have z2:=hL.up.lt q hq;have z3:i=b:=e;omega
           ·exact e)) hS with g|g
        ·exact .inl g
        ·exact .inr (x4 n S g)
       | call=>rw [(hdq.call hdc).1] at f1;cases f1
       | wr a'=>rw [(hdq.wr a' hdc).1] at f1;cases f1)
     subst e2;exact ⟨_,cs2,e1,e3⟩
  have skip:∀ {σ0:Sg} {t0:Tree},zS all o env=some false->Rel n0 B ρ pa σ0 ⟨env,H,lk,[]⟩ ->
    zbN P all takes kk (i+1) (⟨{ zdU takes all i m o with hp:=false },.free⟩::ds) os (putS σ0 o.dst tup0)=some t0->evT ph gl N t0 ρ=some r->DGo P gl ph N takes all kk r n0 B i rs rl hs (o::os) ρ pa ⟨env,H,lk,[]⟩:=by
   intro σ0 t0 hw hr0 h0 hq0;have g5':=hr0.putS (d:=o.dst) (sv:=tup0) (v:=.tup []) (fun _ _ _ _ v' hv'=>by cases hv';rfl)
   let rec0:Rec:=⟨i,o,m,tmM takes o,Nat.lor (tmM takes o) (lkM all o),false,true,env,.tup []⟩
   have hslr:jS (jB rec0) rs=true:=zhu (fun d q h=>h.key) hL.prs (r:=zdU takes all i m o) (r':=rec0) rfl rfl rfl hsl;have hL':Lk P gl takes pa ⟨zl env o.dst (.tup []),H,lk,[]⟩ (i+1) (⟨{ zdU takes all i m o with hp:=false },.free⟩::ds) (rec0::rs) rl hs:=by
    refine ⟨?_,⟨tl,hhs⟩,hL.fr.mono (fun d hd=>zAE _ hd) (zAK _),hL.up.cons rfl hmlt,hL.nd,fun j hj=>?_⟩
    ·exact .cons ⟨⟨rfl,rfl,rfl,rfl⟩,fun _=>⟨rfl,.inl rfl⟩,fun _ hh=>(by cases hh),fun hh=>(by cases hh),fun _ hh=>(by cases hh)⟩ (hL.prs.mono fun d q _ _ hh=>hh.quiet rfl (zAK _))
    ·obtain ⟨q,q1,q2⟩:=hL.rlr j hj;exact ⟨q,zAE _ q1,q2⟩
   obtain ⟨σ',ρ',pa',t',s',f1,f2,f3,f4,f5,k3,f6⟩:=zgg he h0 g5' hq0 hL';refine ⟨σ',ρ',pa',t',s',f1,f2,f3,f4,f5,k3,fun n hn c0 cs hD=>?_⟩;rw [zkC hm hw (r:=rec0) rfl hslr];obtain ⟨e1,e2⟩:=hD.quiet (r:=rec0) rfl hmlt rfl (.inl rfl) (c1:=⟨Nat.lor c0.D (Nat.pow 2 i),H,lk,[]⟩);rw [e1];exact f6 n hn c0 cs e2
  have go:∀ {σ0:Sg} {t0:Tree},zS all o env=some true->Rel n0 B ρ pa σ0 ⟨env,H,lk,[]⟩ ->
    (match jW takes σ0 o with|none=>none|some c=>if zhj m c ds=true then xOp P takes σ0 o fun σ v=>zbN P all takes kk (i+1) (⟨zdU takes all i m o,c⟩::ds) os (putS σ o.dst v) else none)=some t0->evT ph gl N t0 ρ=some r->DGo P gl ph N takes all kk r n0 B i rs rl hs (o::os) ρ pa ⟨env,H,lk,[]⟩:=by
   intro σ0 t0 hw hr0 h0 hq0;split at h0
   ·cases h0
   ·rename_i c hc;split at h0
    ·rename_i hcm;exact run hw hr0 (zAK _) hc hcm h0 hq0
    ·cases h0
  split at h
  ·cases h
  ·rename_i hg;exact skip (guard_ok hg hr) hr h hq
  ·rename_i hg;exact go (guard_ok hg hr) hr h hq
  ·rename_i c hg;obtain ⟨b,hw,hb⟩:=guard_ok hg hr;obtain ⟨ta,tb,h1,h2,h3⟩:=zbV h hq;have h0:=hb ρ pa (zAK _) (zAK _);rcases h3 with ⟨h3,h4⟩|⟨h3,h4⟩
   ·rw [h0] at h3;subst h3;exact go hw (hr.cond hb) h1 h4
   ·rw [h0] at h3;subst h3;exact skip hw (hr.cond (c:=mkNot c) fun ρ'' pa'' f1 f2=>by rw [jJ,hb ρ'' pa'' f1 f2];rfl) h2 h4
theorem zmb (he:Env P gl ph) {ops:Array Oper} {kk:Sg->Option Tree} {r:Nat×List V} (h:zbN P ops (wx ops) kk 0 [] ops.toList σ=some t) (hr:Rel n0 B ρ pa σ ⟨env,H,[],df⟩) (hq:evT ph gl N t ρ=some r) :
  ∃ σ' ρ' pa' t' s',kk σ'=some t'/\evT ph gl N t' ρ'=some r/\ρ <+: ρ'/\pa <+: pa'/\Rel n0 B ρ' pa' σ' s'/\∃ k0,∀ n,k0<=n->Cx.draw ⟨P,gl,zx P gl n,gl.uq⟩ ops ⟨env,H,lk,df⟩=some (.normal,s'):=by
 have hdf:df=[]:=hr.df;subst hdf;obtain ⟨σ',ρ',pa',t',s',h1,h2,h3,h4,h5,k0,h6⟩:=zgg (rs:=[]) (rl:=[]) (hs:=[(H,[])]) he h hr hq ⟨.nil,⟨[],rfl⟩,.nil _,⟨fun q hq=>by simp at hq,fun q hq=>by simp at hq⟩,List.nodup_nil,fun j hj=>by simp at hj⟩
 refine ⟨σ',ρ',pa',t',s',h1,h2,h3,h4,h5,k0,fun n hn=>?_⟩;have hcl:∀ D,qW [] D->D=0:=fun D hD=>kB fun b=>by
  rw [wC];cases hb:bit D b with
  | false=>rfl
  | true=>have:=hD.1 b hb;simp [chgM,wC] at this
 refine h6 n hn ⟨0,H,[],[]⟩ [] ⟨fun q hq=>by simp at hq,fun q hq=>by simp at hq,fun q hq=>by simp at hq,fun c hc=>?_,fun c hc=>?_,rfl,fun D hD=>⟨_,zAL,(hcl D hD).symm⟩,fun q hq=>by simp at hq,fun j hj=>by simp at hj,.nil _,fun q hq=>by simp at hq⟩
 ·simp only [zBh] at hc;subst hc;exact ⟨rfl,rfl⟩
 ·simp only [zBh] at hc;subst hc;exact ⟨fun b hb=>(by rw [wC] at hb;cases hb),fun q hq=>(by simp at hq)⟩
end Go.Vm.Sx
namespace Go.Vm.Sx
set_option linter.unusedSectionVars false
open Go Go.Vm
variable {P:Program} {gl:Gl} {ph:PH} {N:Nat} {ρ ρ':List V} {pa pa':List Nat} {σ σ' σJ:Sg} {s:St} {n0:Nat} {B:List Blk} {env:List V} {H:Hp} {lk:List (Nat×Nat)} {df:List (V×List V)} {takes:List Tmp} {k:KT} {t:Tree}
variable [NoU gl]
def exOf:XE->Ex
 | .normal=>.normal
 | .exit i=>.exit i
 | .ret=>.ret
def Run (_P:Program) (gl:Gl) (ph:PH) (N:Nat) (n0:Nat) (B:List Blk) (K:KE) (r:Nat×List V) (ρ:List V) (pa:List Nat) (run:Nat->Option (Ex×St)):Prop :=
 ∃ e σ' ρ' pa' t' s',K e σ'=some t'/\evT ph gl N t' ρ'=some r/\ρ <+: ρ'/\pa <+: pa'/\Rel n0 B ρ' pa' σ' s'/\∃ k0,∀ n,k0<=n->run n=some (exOf e,s')
theorem zjr {js:JS} {body:KE->Option Tree} {pick:XE->Bool} {K:KE} {next:Sg->Option Tree} {r:Nat×List V} {run:Nat->Option (Ex×St)} (h:znj js σ body pick K next=some t) (hr:Rel n0 B ρ pa σ s) (hq:evT ph gl N t ρ=some r)
    (hb:∀ K t r,body K=some t->evT ph gl N t ρ=some r->Run P gl ph N n0 B K r ρ pa run) :
    ∃ e s',(∃ k0,∀ n,k0<=n->run n=some (exOf e,s')) /\
      ((pick e=true/\∃ σ1 ρ1 t1,next σ1=some t1/\evT ph gl N t1 ρ1=some r/\ρ <+: ρ1/\Rel n0 B ρ1 pa σ1 s') \/
       (pick e=false/\∃ σ1 ρ1 pa1 t1,K e σ1=some t1/\evT ph gl N t1 ρ1=some r/\ρ <+: ρ1/\pa <+: pa1/\Rel n0 B ρ1 pa1 σ1 s')):=by
  simp only [znj] at h;split at h
  · cases h
  · rename_i hJ
    simp only [zAr,zBZ] at hJ;split at h
    · rename_i b t1 hbody hnext
      cases h;simp only [evT] at hq;cases hbr:evT ph gl N b ρ with
      | none=>rw [hbr] at hq;cases hq
      | some rb =>
        rw [hbr] at hq;obtain ⟨e,σ',ρ',pa',t',s',h1,h2,h3,h4,h5,h6⟩:=hb _ _ _ hbody hbr;refine ⟨e,s',h6,?_⟩;cases hp:pick e with
        | true =>
          left
          simp only [hp,zlJ] at h1;split at h1
          · rename_i vals hv
            cases h1;simp only [evT,zAA] at h2;subst h2;exact ⟨rfl,gen js σ,ρ++zr ρ' [] vals,t1,hnext,hq,zAq _ _,ziu hr hJ h5 h3 h4 hv⟩
          · cases h1
        | false =>
          right
          simp only [hp,zkq] at h1;split at h1
          · rename_i t2 ht2
            cases h1;simp only [evT] at h2;split at h2
            · rename_i j vs hj
              cases h2;simp only [zAA] at hq;subst hq;exact ⟨rfl,σ',ρ',pa',t2,ht2,hj,h3,h4,h5⟩
            · cases h2
          · cases h1
    · cases h
theorem zjs {js:JS} {c:Code} {body:Tree} {K:KE} {r:Nat×List V} (hr0:Rel n0 B ρ pa σ s) (hJ:okJ σ (gen js σ)=true)
  (hb:∀ (ρ1:List V) (s1:St) (r:Nat×List V),Rel n0 B ρ1 pa (gen js σ) s1->evT ph gl N body ρ1=some r->Run P gl ph N n0 B (fun e σ'=>match e with|.normal=>zlJ (fit σ.ks.length (gen js σ) σ')|e=>zkq (K e σ')) r ρ1 pa (fun n=>Cx.code ⟨P,gl,zx P gl n,gl.uq⟩ n c s1)) :
  ∀ (m:Nat) (vs:List V) (s1:St),Rel n0 B (ρ++vs) pa (gen js σ) s1->xS (fun vs=>evT ph gl N body (ρ++vs)) m vs=some r ->
   ∃ e σ' ρ' pa' t' s',K e σ'=some t'/\evT ph gl N t' ρ'=some r/\ρ <+: ρ'/\pa <+: pa'/\Rel n0 B ρ' pa' σ' s'/\∃ k0,∀ n,k0<=n->∀ j,m<=j->yq (Cx.code ⟨P,gl,zx P gl n,gl.uq⟩ n c) j s1=some (exOf e,s')
 | 0,vs,s1,_,h=>by cases h
 | m+1,vs,s1,hr,h=>by
  simp only [xS] at h;cases hbr:evT ph gl N body (ρ++vs) with
  | none=>rw [hbr] at h;cases h
  | some rb =>
   rw [hbr] at h;obtain ⟨e,σ',ρ',pa',t',s',h1,h2,h3,h4,h5,k1,h6⟩:=hb (ρ++vs) s1 rb hr hbr;have hpre:ρ <+: ρ':=zcu h3;have esc:∀ e',e=e'->e'≠.normal->zkq (K e' σ')=some t'->∃ e σ' ρ' pa' t' s',K e σ'=some t'/\evT ph gl N t' ρ'=some r/\ρ <+: ρ'/\pa <+: pa'/\Rel n0 B ρ' pa' σ' s'/\∃ k0,∀ n,k0<=n->∀ j,m+1<=j->yq (Cx.code ⟨P,gl,zx P gl n,gl.uq⟩ n c) j s1=some (exOf e,s'):=by
    rintro e' rfl hne h1;simp only [zkq] at h1;split at h1
    ·rename_i t2 ht2;cases h1;simp only [evT] at h2;split at h2
     ·rename_i j vs hj;cases h2;simp only [zAA] at h;subst h;refine ⟨e,σ',ρ',pa',t2,s',ht2,hj,hpre,h4,h5,k1,fun n hn j hj=>?_⟩
      match j,hj with
      | j+1,_ =>
      have:=h6 n hn;simp only [yq,this];cases e<;>first|exact absurd rfl hne|rfl
     ·cases h2
    ·cases h1
   cases e with
   | normal =>
    simp only [zlJ] at h1;split at h1
    ·rename_i vals hv;cases h1;simp only [evT,zAA] at h2;subst h2;have hr2:=ziu hr0 hJ h5 hpre h4 hv;obtain ⟨e,σ2,ρ2,pa2,t2,s2,g1,g2,g3,g4,g5,k2,g6⟩:=zjs (K:=K) hr0 hJ hb m _ s' hr2 h;refine ⟨e,σ2,ρ2,pa2,t2,s2,g1,g2,g3,g4,g5,max k1 k2,fun n hn j hj=>?_⟩
     match j,hj with
     | j+1,hj =>
     have:=h6 n (by omega)
     simp only [yq,this,exOf];exact g6 n (by omega) j (by omega)
    ·cases h1
   | exit i=>exact esc _ rfl (by intro h;cases h) h1
   | ret=>exact esc _ rfl (by intro h;cases h) h1
theorem kI (he:Env P gl ph) {hs:List (Nat×JS)}:∀ (c:Code) (p:Nat) (σ:Sg) (K:KE) (t:Tree) (ρ:List V) (pa:List Nat) (s:St) (r:Nat×List V),jZ P hs p c σ K=some t->Rel n0 B ρ pa σ s->evT ph gl N t ρ=some r ->
  Run P gl ph N n0 B K r ρ pa (fun n=>Cx.code ⟨P,gl,zx P gl n,gl.uq⟩ n c s)
 | .skip,p,σ,K,t,ρ,pa,s,r,h,hr,hq=>⟨.normal,σ,ρ,pa,t,s,h,hq,zAK _,zAK _,hr,0,fun n _=>rfl⟩
 | .label _,p,σ,K,t,ρ,pa,s,r,h,hr,hq=>⟨.normal,σ,ρ,pa,t,s,h,hq,zAK _,zAK _,hr,0,fun n _=>rfl⟩
 | .exit i,p,σ,K,t,ρ,pa,s,r,h,hr,hq=>⟨.exit i,σ,ρ,pa,t,s,h,hq,zAK _,zAK _,hr,0,fun n _=>rfl⟩
 | .ret,p,σ,K,t,ρ,pa,s,r,h,hr,hq=>⟨.ret,σ,ρ,pa,t,s,h,hq,zAK _,zAK _,hr,0,fun n _=>rfl⟩
 | .region id ops false,p,σ,K,t,ρ,pa,⟨env,H,lk,df⟩,r,h,hr,hq=>by
  simp only [jZ] at h;obtain ⟨σ',ρ',pa',t',s',h1,h2,h3,h4,h5,k0,h6⟩:=zbX he h hr.noLk hq;exact ⟨.normal,σ',ρ',pa',t',s',h1,h2,h3,h4,h5,k0,fun n hn=>by simp only [Cx.code];exact h6 n hn⟩
 | .region id ops true,p,σ,K,t,ρ,pa,⟨env,H,lk,df⟩,r,h,hr,hq=>by
  simp only [jZ] at h;obtain ⟨σ',ρ',pa',t',s',h1,h2,h3,h4,h5,k0,h6⟩:=zmb (lk:=lk) he h hr.noLk hq;exact ⟨.normal,σ',ρ',pa',t',s',h1,h2,h3,h4,h5,k0,fun n hn=>by simp only [Cx.code];exact h6 n hn⟩
 | .scope c,p,σ,K,t,ρ,pa,s,r,h,hr,hq=>by
  simp only [jZ] at h;obtain ⟨e,σ',ρ',pa',t',s',h1,h2,h3,h4,h5,k0,h6⟩:=kI he c (2 * p) σ K t ρ pa s r h hr hq;refine ⟨e,σ',ρ',pa',t',s',h1,h2,h3,h4,h5,k0,fun n hn=>?_⟩;have:=h6 n hn;simp only [Cx.code,this];cases e<;>rfl
 | .cond c a b,p,σ,K,t,ρ,pa,s,r,h,hr,hq=>by
  simp only [jZ] at h;split at h
  ·cases h
  ·rename_i tt hc;have ec:∀ ρ'' pa'',ρ <+: ρ''->pa <+: pa''->peek s.env c=some (.bool (evB ρ'' tt)):=fun ρ'' pa'' e1 e2=>ziq (hr.ext ρ'' pa'' e1 e2) hc;have e0:=ec ρ pa (zAK _) (zAK _);have hst:∀ ρ'' pa'',ρ <+: ρ''->pa <+: pa''->evB ρ'' tt=evB ρ tt:=fun ρ'' pa'' e1 e2=>by
    have:=(ec ρ'' pa'' e1 e2).symm.trans e0;simpa using this
   have goA:∀ {σ1:Sg} {t1:Tree},evB ρ tt=true->jZ P hs (2 * p) a σ1 K=some t1->Rel n0 B ρ pa σ1 s->evT ph gl N t1 ρ=some r->Run P gl ph N n0 B K r ρ pa (fun n=>Cx.code ⟨P,gl,zx P gl n,gl.uq⟩ n (.cond c a b) s):=fun hb h1 hr1 hq1=>by
    obtain ⟨e,σ',ρ',pa',t',s',h1,h2,h3,h4,h5,k0,h6⟩:=kI he a (2 * p) _ K _ ρ pa s r h1 hr1 hq1;exact ⟨e,σ',ρ',pa',t',s',h1,h2,h3,h4,h5,k0,fun n hn=>by simp only [Cx.code,e0,hb];exact h6 n hn⟩
   have goB:∀ {σ1:Sg} {t1:Tree},evB ρ tt=false->jZ P hs (2 * p+1) b σ1 K=some t1->Rel n0 B ρ pa σ1 s->evT ph gl N t1 ρ=some r->Run P gl ph N n0 B K r ρ pa (fun n=>Cx.code ⟨P,gl,zx P gl n,gl.uq⟩ n (.cond c a b) s):=fun hb h1 hr1 hq1=>by
    obtain ⟨e,σ',ρ',pa',t',s',h1,h2,h3,h4,h5,k0,h6⟩:=kI he b (2 * p+1) _ K _ ρ pa s r h1 hr1 hq1;exact ⟨e,σ',ρ',pa',t',s',h1,h2,h3,h4,h5,k0,fun n hn=>by simp only [Cx.code,e0,hb];exact h6 n hn⟩
   split at h
   ·rename_i hk;exact goA (jT hr.here.as hk) h hr hq
   ·rename_i hk;exact goB (jT hr.here.as hk) h hr hq
   ·obtain ⟨ta,tb,h1,h2,h3⟩:=zbV h hq;rcases h3 with ⟨h3,h4⟩|⟨h3,h4⟩
    ·exact goA h3 h1 (hr.cond fun ρ'' pa'' f1 f2=>by rw [hst ρ'' pa'' f1 f2];exact h3) h4
    ·exact goB h3 h2 (hr.cond (c:=mkNot tt) fun ρ'' pa'' f1 f2=>by rw [jJ,hst ρ'' pa'' f1 f2,h3];rfl) h4
 | .seq a b,p,σ,K,t,ρ,pa,s,r,h,hr,hq=>by
  simp only [jZ] at h;split at h
  ·obtain ⟨e,σ',ρ',pa',t',s',h1,h2,h3,h4,h5,k1,h6⟩:=kI he a (2 * p) σ _ t ρ pa s r h hr hq;cases e with
   | normal =>
    obtain ⟨e,σ2,ρ2,pa2,t2,s2,g1,g2,g3,g4,g5,k2,g6⟩:=kI he b (2 * p+1) σ' K t' ρ' pa' s' r h1 h5 h2;refine ⟨e,σ2,ρ2,pa2,t2,s2,g1,g2,h3.trans g3,h4.trans g4,g5,max k1 k2,fun n hn=>?_⟩;have:=h6 n (by omega)
    simp only [Cx.code,this,exOf];exact g6 n (by omega)
   | exit i=>exact ⟨.exit i,σ',ρ',pa',t',s',h1,h2,h3,h4,h5,k1,fun n hn=>by have:=h6 n hn;simp only [Cx.code,this,exOf]⟩
   | ret=>exact ⟨.ret,σ',ρ',pa',t',s',h1,h2,h3,h4,h5,k1,fun n hn=>by have:=h6 n hn;simp only [Cx.code,this,exOf]⟩
  ·rename_i js hjs;obtain ⟨e,s',⟨k1,h1⟩,h2⟩:=zjr (run:=fun n=>Cx.code ⟨P,gl,zx P gl n,gl.uq⟩ n a s) h hr hq fun K t r hb hq=>kI he a (2 * p) σ K t ρ pa s r hb hr hq;rcases h2 with ⟨hp,σ1,ρ1,t1,g1,g2,g3,g4⟩|⟨hp,σ1,ρ1,pa1,t1,g1,g2,g3,g4,g5⟩
   ·cases e with
    | normal =>
     obtain ⟨e,σ2,ρ2,pa2,t2,s2,f1,f2,f3,f4,f5,k2,f6⟩:=kI he b (2 * p+1) σ1 K t1 ρ1 pa s' r g1 g4 g2;refine ⟨e,σ2,ρ2,pa2,t2,s2,f1,f2,g3.trans f3,f4,f5,max k1 k2,fun n hn=>?_⟩;have:=h1 n (by omega)
     simp only [Cx.code,this,exOf];exact f6 n (by omega)
    | _=>cases hp
   ·cases e with
    | normal=>cases hp
    | exit i=>exact ⟨.exit i,σ1,ρ1,pa1,t1,s',g1,g2,g3,g4,g5,k1,fun n hn=>by have:=h1 n hn;simp only [Cx.code,this,exOf]⟩
    | ret=>exact ⟨.ret,σ1,ρ1,pa1,t1,s',g1,g2,g3,g4,g5,k1,fun n hn=>by have:=h1 n hn;simp only [Cx.code,this,exOf]⟩
 | .block id c,p,σ,K,t,ρ,pa,s,r,h,hr,hq=>by
  simp only [jZ] at h;split at h
  ·obtain ⟨e,σ',ρ',pa',t',s',h1,h2,h3,h4,h5,k1,h6⟩:=kI he c (2 * p) σ _ t ρ pa s r h hr hq;cases e with
   | normal=>exact ⟨.normal,σ',ρ',pa',t',s',h1,h2,h3,h4,h5,k1,fun n hn=>by have:=h6 n hn;simp only [Cx.code,this,exOf]⟩
   | ret=>exact ⟨.ret,σ',ρ',pa',t',s',h1,h2,h3,h4,h5,k1,fun n hn=>by have:=h6 n hn;simp only [Cx.code,this,exOf]⟩
   | exit i =>
    simp only at h1;cases hb:Nat.beq i id with
    | true =>
     rw [hb] at h1;exact ⟨.normal,σ',ρ',pa',t',s',h1,h2,h3,h4,h5,k1,fun n hn=>by have:=h6 n hn;simp only [Cx.code,this,exOf,hb,if_true]⟩
    | false =>
     rw [hb] at h1;exact ⟨.exit i,σ',ρ',pa',t',s',h1,h2,h3,h4,h5,k1,fun n hn=>by have:=h6 n hn;simp only [Cx.code,this,exOf,hb,zAD,if_false]⟩
  ·rename_i js hjs;obtain ⟨e,s',⟨k1,h1⟩,h2⟩:=zjr (run:=fun n=>Cx.code ⟨P,gl,zx P gl n,gl.uq⟩ n c s) h hr hq fun K t r hb hq=>kI he c (2 * p) σ K t ρ pa s r hb hr hq;rcases h2 with ⟨hp,σ1,ρ1,t1,g1,g2,g3,g4⟩|⟨hp,σ1,ρ1,pa1,t1,g1,g2,g3,g4,g5⟩
   ·refine ⟨.normal,σ1,ρ1,pa,t1,s',g1,g2,g3,zAK _,g4,k1,fun n hn=>?_⟩;have:=h1 n hn;cases e with
    | normal=>simp only [Cx.code,this,exOf]
    | exit i=>simp only at hp;simp only [Cx.code,this,exOf,hp,if_true]
    | ret=>cases hp
   ·cases e with
    | normal=>cases hp
    | exit i=>simp only at hp;exact ⟨.exit i,σ1,ρ1,pa1,t1,s',g1,g2,g3,g4,g5,k1,fun n hn=>by have:=h1 n hn;simp only [Cx.code,this,exOf,hp,zAD,if_false]⟩
    | ret=>exact ⟨.ret,σ1,ρ1,pa1,t1,s',g1,g2,g3,g4,g5,k1,fun n hn=>by have:=h1 n hn;simp only [Cx.code,this,exOf]⟩
 | .loop c,p,σ,K,t,ρ,pa,s,r,h,hr,hq=>by
  simp only [jZ] at h;split at h
  ·cases h
  ·rename_i js hjs;split at h
   ·cases h
   ·rename_i hJ;simp only [zAr,zBZ] at hJ;split at h
    ·rename_i ini body hini hbody;cases h;simp only [evT] at hq;have hr2:=ziu hr hJ hr (zAK _) (zAK _) hini;obtain ⟨e,σ',ρ',pa',t',s',h1,h2,h3,h4,h5,k0,h6⟩:=zjs (c:=c) (K:=K) hr hJ (fun ρ1 s1 r1 hr1 hq1=>kI he c (2 * p) (gen js σ) _ body ρ1 pa s1 r1 hbody hr1 hq1) N _ s hr2 hq;exact ⟨e,σ',ρ',pa',t',s',h1,h2,h3,h4,h5,max k0 N,fun n hn=>by simp only [Cx.code];exact h6 n (by omega) n (by omega)⟩
    ·cases h
 | .rangeFunc ..,_,_,_,_,_,_,_,_,h,_,_=>by simp [jZ] at h
 | .goto _,_,_,_,_,_,_,_,_,h,_,_=>by simp [jZ] at h
 | .refuse _,_,_,_,_,_,_,_,_,h,_,_=>by simp [jZ] at h
end Go.Vm.Sx
namespace Go.Vm.Sx
set_option linter.unusedSectionVars false
open Go Go.Vm
variable {P:Program} {gl:Gl} {ph:PH} {N:Nat} {ρ ρ':List V} {pa pa':List Nat} {σ σ' σJ:Sg} {s:St} {n0:Nat} {B:List Blk} {env:List V} {H:Hp} {lk:List (Nat×Nat)} {df:List (V×List V)} {takes:List Tmp} {t:Tree} {r:Nat×List V}
variable [NoU gl]
theorem zhv {kk:Sg->Option Tree}:∀ {cks:List CK} {i:Nat} {σ:Sg} {t:Tree},zjc kk σ cks i=some t->Rel n0 B ρ pa σ s->i+cks.length<=σ.ks.length->evT ph gl N t ρ=some r ->
  ∃ ks' t',ks'.length=σ.ks.length/\kk { σ with ks:=ks' }=some t'/\evT ph gl N t' ρ=some r/\Rel n0 B ρ pa { σ with ks:=ks' } s
 | [],i,σ,t,h,hr,hi,hq=>⟨σ.ks,t,rfl,h,hq,hr⟩
 | ck::cks,i,σ,t,h,hr,hi,hq=>by
  simp only [zjc] at h;split at h
  ·rename_i t1 ht;cases h;simp only [evT,cond_eq_ite] at hq;split at hq
   ·rename_i hk;simp only [zAS] at hi;obtain ⟨ks',t',h1,h2,h3,h4⟩:=zhv ht (hr.kind (by omega) hk) (by simp;omega) hq
    exact ⟨ks',t',by simpa using h1,h2,h3,h4⟩
   ·cases hq
  ·cases h
def vJ (P:Program):List TypeId->List AV->Nat->Prop
 | [],[],_=>True
 | t::ts,.p j' off::avs,j=>(∃ e,P.underlying t=some (.pointer e))/\j'=j/\off=0/\vJ P ts avs (j+1)
 | t::ts,.d _x::avs,j=>(∀ e,P.underlying t≠some (.pointer e))/\vJ P ts avs j
 | _,_,_=>False
def holdA:AV->V
 | .d x=>x
 | .p _ _=>.nilp
theorem xParams_ok {kk:Sg->List SV->Option Tree}:∀ {ts:List TypeId} {avs:List AV} {i j:Nat} {σ:Sg} {ρ:List V} {acc:List SV} {t:Tree},xA P kk σ ts i j acc=some t->vJ P ts avs j->Rel n0 B ρ pa σ s->i+ts.length<=σ.ks.length->(∀ m av,avs[m]?=some av->at' ρ (i+m)=holdA av)->evT ph gl N t ρ=some r ->
  ∃ (ks':List CK) (svs:List SV) (ρ':List V) (t':Tree),svs.length=avs.length/\kk { σ with ks:=ks' } (acc++svs)=some t'/\evT ph gl N t' ρ'=some r/\ρ <+: ρ'/\Rel n0 B ρ' pa { σ with ks:=ks' } s/\∀ (ρ'':List V) (pa'':List Nat),ρ' <+: ρ''->pa <+: pa''->∀ (m:Nat) (sv:SV),svs[m]?=some sv->∃ av,avs[m]?=some av/\jt ρ'' pa'' sv=some (vm pa'' av)
 | [],[],i,j,σ,ρ,acc,t,h,hp,hr,hi,hat,hq=>⟨σ.ks,[],ρ,t,rfl,by rw [zA0];exact h,hq,zAK _,hr,fun _ _ _ _ m sv hm=>by simp at hm⟩
 | ty::ts,.p j' off::avs,i,j,σ,ρ,acc,t,h,hp,hr,hi,hat,hq=>by
  obtain ⟨⟨e,he⟩,rfl,rfl,hp⟩:=hp;simp only [xA,he] at h;simp only [zAS] at hi;obtain ⟨ks',svs,ρ',t',h0,h1,h2,h3,h4,h5⟩:=xParams_ok (avs:=avs) h hp hr (by omega) (fun m av hm=>by rw [show i+1+m=i+(m+1) by omega];exact hat (m+1) av (by simpa using hm)) hq
  refine ⟨ks',.val (.one (.p j' 0))::svs,ρ',t',by simp [h0],by simpa using h1,h2,h3,h4,fun ρ'' pa'' e1 e2 m sv hm=>?_⟩
  cases m with
  | zero=>simp only [zAn,zAA] at hm;subst hm;exact ⟨.p j' 0,by simp,rfl⟩
  | succ m=>simp only [zBI] at hm ⊢;exact h5 ρ'' pa'' e1 e2 m sv hm
 | ty::ts,.d x::avs,i,j,σ,ρ,acc,t,h,hp,hr,hi,hat,hq=>by
  obtain ⟨he,hp⟩:=hp;simp only [zAS] at hi;have hx:at' ρ i=x:=hat 0 (.d x) (by simp)
  have h':xz P σ ty i (fun σ x=>xA P kk σ ts (i+1) j (acc++[.val x]))=some t:=by
   unfold xA at h;split at h
   ·rename_i e he';exact absurd he' (he e)
   ·exact h
  obtain ⟨ks1,sc,ρ1,t1,g1,g2,g3,g4,g5,_⟩:=zaK h' hr (by omega) hq
  have hkl1:=g4.kl;have hkl:=hr.kl;have hlen1:ρ.length<=ρ1.length:=by obtain ⟨z,rfl⟩:=g3;simp
  obtain ⟨ks',svs,ρ',t',h0,h1,h2,h3,h4,h5⟩:=xParams_ok (avs:=avs) g1 hp g4 (by simp only at hkl1 ⊢;omega) (fun m av hm=>by
   have hml:=(zAG.1 hm).1;have htl:ts.length=avs.length:=parLen hp
   rw [wX g3 (by omega),show i+1+m=i+(m+1) by omega];exact hat (m+1) av (by simpa using hm)) g2
  refine ⟨ks',.val sc::svs,ρ',t',by simp [h0],by simpa using h1,h2,g3.trans h3,h4,fun ρ'' pa'' e1 e2 m sv hm=>?_⟩
  cases m with
  | zero =>
   simp only [zAn,zAA] at hm;subst hm;exact ⟨.d x,by simp,by simp only [jt,vm];rw [g5 ρ'' pa'' (h3.trans e1),hx]⟩
  | succ m=>simp only [zBI] at hm ⊢;exact h5 ρ'' pa'' e1 e2 m sv hm
 | [],_::_,_,_,_,_,_,_,_,hp,_,_,_,_=>hp.elim
 | _::_,[],_,_,_,_,_,_,_,hp,_,_,_,_=>hp.elim
 where
 parLen:∀ {ts:List TypeId} {avs:List AV} {j:Nat},vJ P ts avs j->ts.length=avs.length
 | [],[],_,_=>rfl
 | _::_,.p _ _::_,_,h=>by simp [parLen h.2.2.2]
 | _::_,.d _::_,_,h=>by simp [parLen h.2]
 | [],_::_,_,h=>h.elim
 | _::_,[],_,h=>h.elim
theorem zhw (hr:Rel n0 B ρ pa σ s) {tt:Tmp} {x:SC} (h:zjd σ tt=some x):nth s.env tt=some (zC ρ pa x):=by
 unfold zjd at h;split at h
 ·rename_i sv hsv;split at h
  ·rename_i y hu;cases h;obtain ⟨_,v,h1,h2⟩:=zhl (pa:=pa) hr.here.as hu;cases h2;exact hr.here.env _ _ _ hsv h1
  ·cases h
 ·cases h
theorem zdi (hr:Rel n0 B ρ pa σ s):∀ {rs:List ResultVar} {xs:List SC},zkr P σ rs=some xs->zM P s.H s.env rs=some (kT ρ pa xs)
 | [],xs,h=>by cases h;rfl
 | .tmp tt::rs,xs,h=>by
  simp only [zkr] at h;split at h
  ·rename_i x ys h1 h2;cases h;simp only [zM,zhw hr h1,zdi hr h2,kT]
  ·cases h
 | .cell a ty::rs,xs,h=>by
  simp only [zkr] at h;split at h
  ·rename_i a' off h1;split at h
   ·rename_i cs ty' hf;split at h
    ·rename_i x ys h2 h3;cases h;have e1:=zhw hr h1;simp only [zC,evC] at e1;simp only [zM,e1,zaH];rw [hr.here.blks _ _ _ hf];simp only [xy,wG (ρ:=ρ) (pa:=pa) h2,zdi hr h3,kT,kG]
    ·cases h
   ·cases h
  ·cases h
theorem zkD (xs:List SC):kT ρ pa (clrSCs xs)=(kT ρ pa xs).map clr:=by
 induction xs with
 | nil=>rfl
 | cons x xs ih=>simp [clrSCs,kT,ih,kG]
theorem zd7 (hk:∀ i k,nth σ.ks i=some k->kOk k (at' ρ i)=true) (ht:tops ρ=0):∀ {xs:List SC},zdb σ.ks xs=true->tops (kT ρ pa xs)=0/\∀ pa',kT ρ pa' xs=kT ρ pa xs
 | [],_=>⟨rfl,fun _=>rfl⟩
 | x::xs,h=>by
  simp only [zdb,zAF] at h;obtain ⟨a1,a2⟩:=vX (pa:=pa) hk ht h.1;obtain ⟨b1,b2⟩:=zd7 hk ht h.2;exact ⟨by simp only [kT,tops,a1,b1];rfl,fun pa'=>by simp only [kT,a2 pa',b2 pa']⟩
theorem jK (l:List V):tops (l.map clr)=tops l:=by
 induction l with
 | nil=>rfl
 | cons v vs ih=>simp only [zAX,tops,top_clr,ih]
theorem zd8 (hr:Rel n0 B ρ pa σ s):∀ {lent:List (TypeId×List CK)} {j:Nat} {o:List C},zdX σ j lent=some o ->
  ∃ out:List (List V),zr ρ [] o=joinL out/\tops (joinL out)=0/\out.length=lent.length/\∀ m e ks,lent[m]?=some (e,ks)->∃ vs,out[m]?=some vs/\vs.length=ks.length/\s.H.get (pd pa (j+m))=some (.cells vs e)
 | [],j,o,h=>by cases h;exact ⟨[],rfl,rfl,rfl,fun m e ks hm=>by simp at hm⟩
 | (e,ks)::lent,j,o,h=>by
  simp only [zdX] at h;split at h
  ·rename_i cs ty o' hf ho;split at h
   ·rename_i hc;simp only [zAF] at hc;obtain ⟨⟨c1,c2⟩,c3⟩:=hc;obtain rfl:=jI c2;cases h;obtain ⟨out,h1,h2,h3,h4⟩:=zd8 hr ho;obtain ⟨d1,d2,d3⟩:=wu (pa:=pa) hr.here.ks hr.top c1;refine ⟨zr ρ pa cs::out,?_,by simp only [joinL,kY,d1,h2];rfl,by simp [h3],fun m e' ks' hm=>?_⟩
    ·simp only [joinL,<- h1,<- d3 []];simp [qk]
    ·cases m with
     | zero =>
      simp only [zAn,zAA,zAH] at hm;obtain ⟨rfl,rfl⟩:=hm;exact ⟨_,by simp,by rw [qv];exact jI c3,hr.here.blks _ _ _ hf⟩
     | succ m =>
      simp only [zBI] at hm;obtain ⟨vs,g1,g2,g3⟩:=h4 m e' ks' hm;exact ⟨vs,by simpa using g1,g2,by rw [show j+(m+1)=j+1+m by omega];exact g3⟩
   ·cases h
  ·cases h
theorem noP {ks:List CK}:∀ {cs:List C},wQ ks cs=true->zr ρ [] cs=zr ρ pa cs
 | [],_=>rfl
 | c::cs,h=>by
  simp only [wQ,zAF] at h;simp only [zr];rw [noP h.2];cases c with
  | p a off=>simp [zag] at h
  | v i cl=>cases cl<;>rfl
  | _=>rfl
theorem zny (hr:Rel n0 B ρ pa σ s) {lent:List (TypeId×List CK)} {rs:List ResultVar} {w:List V} (h:zlK P lent rs σ=some t) (hq:evT ph gl N t ρ=some (0,w)) :
  ∃ v out vs,σ.nf=lent.length/\w=v::joinL out/\zM P s.H s.env rs=some vs/\tupOf vs=v/\v.top=0/\tops (joinL out)=0/\out.length=lent.length/\∀ m e ks,lent[m]?=some (e,ks)->∃ vs,out[m]?=some vs/\vs.length=ks.length/\s.H.get (pd pa m)=some (.cells vs e):=by
 unfold zlK at h;split at h
 ·cases h
 rename_i hnf;simp only [zAr,zBZ] at hnf;have ext:∀ {σ0:Sg} {o:List C} {v:V},zdX σ 0 lent=some o->zr (ρ++[v]) [] o=zr ρ [] o:=by
  intro σ0 o v ho;have key:∀ {lent:List (TypeId×List CK)} {j:Nat} {o:List C},zdX σ j lent=some o->zr (ρ++[v]) [] o=zr ρ [] o:=by
   intro lent
   induction lent with
   | nil=>intro j o h;cases h;rfl
   | cons x lent ih =>
    obtain ⟨e,ks⟩:=x;intro j o h;simp only [zdX] at h;split at h
    ·rename_i cs ty o' hf ho;split at h
     ·rename_i hc;simp only [zAF] at hc;cases h;have a1:=hr.here.blks _ _ _ hf;have a2:=(hr.ext (ρ++[v]) pa (zAq _ _) (zAK _)).blks _ _ _ hf;rw [a1] at a2;simp only [zAA,Blk.cells.injEq,zBF] at a2;have nop:∀ {ρ0:List V},zr ρ0 [] cs=zr ρ0 pa cs:=fun {ρ0}=>noP hc.1.1;have e1:zr (ρ++[v]) [] (cs++o')=zr (ρ++[v]) [] cs++zr (ρ++[v]) [] o':=by simp [qk]
      have e2:zr ρ [] (cs++o')=zr ρ [] cs++zr ρ [] o':=by simp [qk]
      rw [e1,e2,ih ho,nop,nop,a2]
     ·cases h
    ·cases h
  exact key ho
 split at h
 ·rename_i x o hx ho;split at h
  ·rename_i hd;cases h;obtain ⟨d1,d2⟩:=vX (pa:=pa) hr.here.ks hr.top hd;obtain ⟨out,o1,o2,o3,o4⟩:=zd8 hr ho;simp only [evT,zAA,zAH,zAa,zr,evC,qR,d2 []] at hq;rw [<- hr.kl,y9,ext (σ0:=σ) ho,o1] at hq;refine ⟨_,out,_,jI hnf,hq.symm,zdi hr hx,rfl,d1,o2,o3,fun m e ks hm=>?_⟩;have:=o4 m e ks hm
   rwa [zAT] at this
  ·cases h
 ·rename_i xs o hne hx ho;split at h
  ·rename_i hd;cases h;obtain ⟨d1,d2⟩:=zd7 (pa:=pa) hr.here.ks hr.top hd;obtain ⟨out,o1,o2,o3,o4⟩:=zd8 hr ho;simp only [evT,zAA,zAH,zAa,zr,evC,qR,zkD,d2 []] at hq;rw [<- hr.kl,y9,ext (σ0:=σ) ho,o1] at hq;refine ⟨_,out,_,jI hnf,hq.symm,zdi hr hx,?_,by simp only [V.top,jK,d1],o2,o3,fun m e ks hm=>?_⟩
   ·match xs,hne with
    | [],_=>rfl
    | [x],hne=>exact absurd rfl (hne x)
    | x::y::z,_=>rfl
   ·have:=o4 m e ks hm
    rwa [zAT] at this
  ·cases h
 ·cases h
theorem putB_get:∀ {θ:List Nat} {fp:List (List V×TypeId)} {out:List (List V)} {H:Hp},θ.Nodup->θ.length=fp.length->out.length=fp.length->(∀ b∈θ,b<H.blks.length) ->
  (xF H θ fp out).edges=H.edges/\(xF H θ fp out).blks.length=H.blks.length/\(∀ (m b:Nat) (o:List V) (c:List V) (ty:TypeId),θ[m]?=some b->out[m]?=some o->fp[m]?=some (c,ty)->(xF H θ fp out).get b=some (.cells o ty))/\(∀ b,b ∉ θ->(xF H θ fp out).get b=H.get b)
 | [],[],[],H,_,_,_,_=>⟨rfl,rfl,fun m b o c ty h=>by simp at h,fun b _=>rfl⟩
 | b::θ,(c,ty)::fp,o::out,H,hn,h1,h2,h3=>by
  simp only [List.nodup_cons] at hn;simp only [zAS,Nat.add_right_cancel_iff] at h1 h2;have hset:(H.set b (.cells o ty)).blks.length=H.blks.length:=by simp [Hp.set]
  obtain ⟨a1,a2,a3,a4⟩:=putB_get (H:=H.set b (.cells o ty)) hn.2 h1 h2 (fun x hx=>by rw [hset];exact h3 x (zAE _ hx))
  refine ⟨a1,by rw [xF,a2,hset],fun m x o' c' ty' g1 g2 g3=>?_,fun x hx=>?_⟩
  ·cases m with
   | zero =>
    simp only [zAn,zAA,zAH] at g1 g2 g3;obtain ⟨rfl,rfl⟩:=g3;subst g1 g2;rw [xF,a4 b hn.1,xE (h3 b zAL)]
   | succ m =>
    simp only [zBI] at g1 g2 g3;exact a3 m x o' c' ty' g1 g2 g3
  ·simp only [zAO,not_or] at hx;rw [xF,a4 x hx.2,yh (fun e=>hx.1 e.symm)]
 | [],[],_::_,_,_,_,h,_=>by simp at h
 | [],_::_,_,_,_,h,_,_=>by simp at h
 | _::_,[],_,_,_,h,_,_=>by simp at h
 | _::_,_::_,[],_,_,_,h,_=>by simp at h
def FpOk:List (TypeId×List CK)->List (List V×TypeId)->Prop
 | [],[]=>True
 | (e,ks)::r,(vs,t)::fp=>e=t/\vs.length=ks.length/\tops vs=0/\FpOk r fp
 | _,_=>False
def lentV:List (List V×TypeId)->List V
 | []=>[]
 | (vs,_)::r=>vs++lentV r
theorem fpOk_len:∀ {l:List (TypeId×List CK)} {fp:List (List V×TypeId)},FpOk l fp->l.length=fp.length/\(lentKs l).length=(lentV fp).length/\tops (lentV fp)=0/\∀ (m:Nat) (e:TypeId) (ks:List CK),l[m]?=some (e,ks)->∃ vs:List V,fp[m]?=some (vs,e)/\vs.length=ks.length
 | [],[],_=>⟨rfl,rfl,rfl,fun m e ks h=>by simp at h⟩
 | (e,ks)::r,(vs,t)::fp,h=>by
  obtain ⟨rfl,h1,h2,h3⟩:=h;obtain ⟨a1,a2,a3,a4⟩:=fpOk_len h3;refine ⟨by simp [a1],by simp [lentKs,lentV,a2,h1],by simp only [lentV,kY,h2,a3];rfl,fun m e' ks' hm=>?_⟩
  cases m with
  | zero=>simp only [zAn,zAA,zAH] at hm;obtain ⟨rfl,rfl⟩:=hm;exact ⟨vs,by simp,h1⟩
  | succ m=>simp only [zBI] at hm ⊢;exact a4 m e' ks' hm
 | [],_::_,h=>h.elim
 | _::_,[],h=>h.elim
theorem zcV {θ:List Nat} {H:Hp}:∀ {l:List (TypeId×List CK)} {fp:List (List V×TypeId)} {j i:Nat} {x y:List V} {th:List Nat},FpOk l fp->yP H th fp->(∀ m b,th[m]?=some b->pd θ (j+m)=b)->x.length=i ->
  ∀ a cs ty,jv a (lentBlks l j i)=some (cs,ty)->H.get (pd θ a)=some (.cells (zr (x++lentV fp++y) [] cs) ty)/\(∀ pa,zr (x++lentV fp++y) pa cs=zr (x++lentV fp++y) [] cs)/\a<j+l.length
 | [],[],j,i,x,y,th,_,_,_,_,a,cs,ty,h=>by simp [lentBlks,jv] at h
 | (e,ks)::r,(vs,t)::fp,j,i,x,y,b::th,hf,hl,hth,hi,a,cs,ty,h=>by
  obtain ⟨rfl,h1,h2,h3⟩:=hf;simp only [lentBlks,wi] at h;split at h
  ·rename_i ha;subst ha;cases h;have e1:∀ pa,zr (x++lentV ((vs,e)::fp)++y) pa (lits ks i)=vs:=fun pa=>by
    simp only [lentV,zAb];have:=zbT (pa:=pa) (x:=x) (z:=vs) (ks:=ks) (y:=lentV fp++y) h1 hi;simpa only [zAb] using this
   refine ⟨?_,fun pa=>by rw [e1 pa,e1 []],by simp⟩
   have h0:=hth 0 b rfl;rw [zAv] at h0;rw [e1 [],h0];exact hl.1
  ·obtain ⟨g1,g2,g3⟩:=zcV (x:=x++vs) (y:=y) h3 hl.2 (fun m c hm=>by rw [show j+1+m=j+(m+1) by omega];exact hth (m+1) c (by simpa using hm)) (by simp [hi,h1]) a cs ty h
   simp only [lentV,zAb] at g1 g2 ⊢;exact ⟨g1,g2,by simp;omega⟩
 | [],_::_,_,_,_,_,_,h,_,_,_,_,_,_,_=>h.elim
 | _::_,[],_,_,_,_,_,h,_,_,_,_,_,_,_=>h.elim
 | _::_,_::_,_,_,_,_,[],_,h,_,_,_,_,_,_=>h.elim
def zc6 (avs:List AV) (fp:List (List V×TypeId)):List V:=avs.map holdA++lentV fp
theorem zbh {H:Hp}:∀ {θ:List Nat} {fp:List (List V×TypeId)},yP H θ fp->θ.length=fp.length/\∀ b∈θ,b<H.blks.length
 | [],[],_=>⟨rfl,fun b hb=>by simp at hb⟩
 | b::θ,(c,t)::r,h=>by
  obtain ⟨h1,h2⟩:=zbh h.2;refine ⟨by simp [h1],fun x hx=>?_⟩
  rcases zAO.1 hx with rfl|hx
  ·have:=h.1;simp only [Hp.get] at this;exact zir this
  ·exact h2 x hx
 | [],_::_,h=>h.elim
 | _::_,[],h=>h.elim
theorem zb1 {bs:List Blk} {es es2:List (Nat×Nat)}:∀ {θ:List Nat} {fp:List (List V×TypeId)},yP ⟨bs,es⟩ θ fp->yP ⟨bs,es2⟩ θ fp
 | [],[],_=>trivial
 | _::_,(_,_)::_,h=>⟨h.1,zb1 h.2⟩
 | [],_::_,h=>h.elim
 | _::_,[],h=>h.elim
theorem zd9 {ty:TypeId} {ts:List TypeId} {lent:List (TypeId×List CK)} (h:jR P (ty::ts)=some lent):(∃ e ks r,P.underlying ty=some (.pointer e)/\jR P ts=some r/\lent=(e,ks)::r)\/((∀ e,P.underlying ty≠some (.pointer e))/\jR P ts=some lent):=by
 simp only [jR] at h;split at h
 ·rename_i e r h1 h2;split at h
  ·rename_i ks hk;cases h;exact .inl ⟨e,ks,r,h1,h2,rfl⟩
  ·cases h
 ·rename_i d r hne h1 h2;cases h;exact .inr ⟨fun e he=>by rw [h1] at he;cases he;exact hne e rfl,h2⟩
 ·cases h
theorem parP:∀ {ts:List TypeId} {avs:List AV} {j0:Nat} {lent:List (TypeId×List CK)},vJ P ts avs j0->jR P ts=some lent->∀ (i j off:Nat),avs[i]?=some (AV.p j off)->off=0/\j<j0+lent.length
 | [],[],j0,lent,_,_,i,j,off,h=>by simp at h
 | ty::ts,.p j' off'::avs,j0,lent,hp,hl,i,j,off,h=>by
  obtain ⟨⟨e,he⟩,rfl,rfl,hp⟩:=hp;rcases zd9 hl with ⟨e',ks,r,h1,h2,rfl⟩|⟨h1,_⟩
  ·cases i with
   | zero=>simp only [zAn,zAA,AV.p.injEq] at h;obtain ⟨rfl,rfl⟩:=h;exact ⟨rfl,by simp⟩
   | succ i =>
    simp only [zBI] at h;obtain ⟨a,b⟩:=parP hp h2 i j off h;exact ⟨a,by simp;omega⟩
  ·exact absurd he (h1 e)
 | ty::ts,.d x::avs,j0,lent,hp,hl,i,j,off,h=>by
  obtain ⟨hne,hp⟩:=hp;rcases zd9 hl with ⟨e',ks,r,h1,h2,rfl⟩|⟨_,h2⟩
  ·exact absurd h1 (hne e')
  ·cases i with
   | zero=>simp at h
   | succ i=>simp only [zBI] at h;exact parP hp h2 i j off h
 | [],_::_,_,_,h,_,_,_,_,_=>h.elim
 | _::_,[],_,_,h,_,_,_,_,_=>h.elim
theorem joinL_inj:∀ {a b:List (List V)},(a.length=b.length/\∀ (m:Nat) (x y:List V),a[m]?=some x->b[m]?=some y->x.length=y.length)->joinL a=joinL b->a=b
 | [],[],_,_=>rfl
 | x::a,y::b,h,he=>by
  obtain ⟨h1,h2⟩:=h;simp only [joinL] at he;obtain ⟨e1,e2⟩:=List.append_inj he (h2 0 x y rfl rfl);rw [e1,joinL_inj ⟨by simpa using h1,fun m u w hu hw=>h2 (m+1) u w (by simpa using hu) (by simpa using hw)⟩ e2]
 | [],_::_,h,_=>by simp at h
 | _::_,[],h,_=>by simp at h
theorem szOk_get:∀ {fp:List (List V×TypeId)} {out:List (List V)},szOk fp out->out.length=fp.length/\∀ (m:Nat) (x:List V×TypeId) (a:List V),fp[m]?=some x->out[m]?=some a->x.1.length=a.length
 | [],[],_=>⟨rfl,fun m x a h=>by simp at h⟩
 | (c,t)::fp,o::out,h=>by
  obtain ⟨h1,h2⟩:=szOk_get h.2;refine ⟨by simp [h1],fun m x a hx ha=>?_⟩
  cases m with
  | zero=>simp only [zAn,zAA] at hx ha;subst hx ha;exact h.1
  | succ m=>simp only [zBI] at hx ha;exact h2 m x a hx ha
 | [],_::_,h=>h.elim
 | _::_,[],h=>h.elim
theorem lent_ex:∀ (fp:List (List V×TypeId)) (bs:List Blk),yP ⟨bs++fp.map (fun x=>Blk.cells x.1 x.2),[]⟩ (List.range' bs.length fp.length) fp
 | [],_=>trivial
 | (c,t)::fp,bs=>by
  refine ⟨by simp [Hp.get,zq],?_⟩
  have:=lent_ex fp (bs++[.cells c t]);simpa using this
theorem zjt (he:Env P gl ph) {f:FuncId} (hk:∀ args,gl.hk f args=none) {hs:List (Nat×JS)} {fn:Func} {lent:List (TypeId×List CK)} (h:yp P hs f=some t) (hfn:P.funcs[f]?=some fn) (hlent:jR P fn.params.toList=some lent) {avs:List AV} {fp:List (List V×TypeId)}
  (hp:vJ P fn.params.toList avs 0) (hf:FpOk lent fp) (htop:∀ x,AV.d x∈avs->x.top=0) {v:V} {out:List (List V)} (hsz:szOk fp out) (hq:evT ph gl N t (zc6 avs fp)=some (0,v::joinL out)):Ev P gl f avs fp v out:=by
 simp only [yp,hfn,hlent] at h;split at h
 ·rename_i body l hbody hl;cases hl;obtain ⟨f1,f2,f3,f4⟩:=fpOk_len hf;have hpl:fn.params.toList.length=avs.length:=xParams_ok.parLen hp;have hrho:tops (zc6 avs fp)=0:=by
   unfold zc6
   rw [kY,f3,zbQ (l:=avs.map holdA) fun v hv=>by
    obtain ⟨a,ha,rfl⟩:=zA4.1 hv;cases a with
    | d x=>exact htop x ha
    | p _ _=>rfl]
   rfl
  have key:∀ (θ:List Nat) (bs:List Blk) (es:List (Nat×Nat)),θ.Nodup->yP ⟨bs,es⟩ θ fp->v.top=0/\tops (joinL out)=0/\∃ k,∀ n,k<=n->zx P gl n f (avs.map (vm θ)) ⟨bs,es⟩=some (.ret v,xF ⟨bs,es⟩ θ fp out):=by
   intro θ bs es hn hL;obtain ⟨l1,l2⟩:=zbh hL;simp only at l2;have hpd:∀ a,a<θ.length->θ[a]?=some (pd θ a):=fun a ha=>by
    simp [pd,zq,ha]
   have hr0:Rel bs.length bs (zc6 avs fp) θ ⟨[],lentBlks lent 0 fn.params.toList.length,lent.length,List.replicate (fn.params.toList.length+(lentKs lent).length) .raw,[],[],lent.length⟩ ⟨[],⟨bs,[]⟩,[],[]⟩:=by
    have hB:∀ (y:List V) a cs ty,jv a (lentBlks lent 0 fn.params.toList.length)=some (cs,ty)->Hp.get ⟨bs,[]⟩ (pd θ a)=some (.cells (zr (zc6 avs fp++y) [] cs) ty)/\(∀ pa,zr (zc6 avs fp++y) pa cs=zr (zc6 avs fp++y) [] cs)/\a<0+lent.length:=fun y a cs ty hh =>
     zcV (x:=avs.map holdA) (y:=y) (th:=θ) (H:=⟨bs,[]⟩) hf (zb1 hL) (fun m b hm=>by rw [zAT];have:=hpd m (zAG.1 hm).1;rw [this] at hm;exact zA1 hm) (by simp [hpl]) a cs ty hh
    refine ⟨fun ρ'' pa'' e1 e2=>⟨fun i sv v hi=>by simp [nth] at hi,fun a cs ty hh=>?_,fun i k hi=>?_,fun t ht=>by simp at ht⟩,rfl,by simp only [l1,f1],?_,?_,?_,?_,hrho,fun e hh=>by simp at hh,fun b _ _=>rfl,zAR _,rfl,fun a off hh=>by simp [vH,yM] at hh,fun a x hh=>?_,fun a off hh=>by simp [vH,yM] at hh,zAR _⟩
    ·obtain ⟨y,rfl⟩:=e1;obtain ⟨g1,g2,g3⟩:=hB y a cs ty hh;rw [jl e2 (by omega),g2 pa'']
     exact g1
    ·rw [zq,List.getElem?_replicate] at hi;split at hi
     ·cases hi;rfl
     ·cases hi
    ·intro a a' ha ha' hh;have g1:=hpd a (by simp only at ha;omega)
     have g2:=hpd a' (by simp only at ha';omega)
     rw [hh] at g1;exact (List.getElem?_inj (by simp only at ha;omega) hn).1 (g1.trans g2.symm)
    ·intro a h1 h2;simp only at h1 h2;omega
    ·intro a ha;simp only at ha;exact l2 _ (zAh (hpd a (by omega)))
    ·simp [zc6,hpl,f2]
    ·obtain ⟨_,_,g3⟩:=hB [] a x.1 x.2 hh;simpa using g3
   obtain ⟨ks1,t1,k1,k2,k3,k4⟩:=zhv h hr0 (by simp) hq
   simp only [List.length_replicate] at k1
   obtain ⟨ks2,svs,ρ2,t2,p0,p1,p2,p3,p4,p5⟩:=xParams_ok (avs:=avs) k2 hp k4 (by simp only [k1];omega) (fun m av hm=>by
    rw [zAT,yN];unfold zc6;rw [zAe (by simpa using (zAG.1 hm).1)]
    simp [hm]) k3
   simp only [zAW] at p1;have hr2:Rel bs.length bs ρ2 θ ⟨svs++List.replicate (fn.ntmps - svs.length) tup0,lentBlks lent 0 fn.params.toList.length,lent.length,ks2,[],[],lent.length⟩ ⟨avs.map (vm θ)++List.replicate (fn.ntmps - (avs.map (vm θ)).length) (.tup []),⟨bs,[]⟩,[],[]⟩:=by
    refine ⟨fun ρ'' pa'' e1 e2=>⟨fun i sv w hi hw=>?_,(p4.ext ρ'' pa'' e1 e2).blks,(p4.ext ρ'' pa'' e1 e2).ks,(p4.ext ρ'' pa'' e1 e2).as⟩,by simp [p0],p4.na,p4.inj,p4.lo,p4.hi,p4.kl,p4.top,p4.edg,p4.base,p4.blen,rfl,p4.lk,p4.bn,p4.ln,p4.nf⟩
    rw [zq] at hi ⊢
    by_cases hlt:i<svs.length
    ·rw [zAe hlt] at hi;rw [zAe (by simp;omega)]
     obtain ⟨av,g1,g2⟩:=p5 ρ'' pa'' e1 e2 i sv hi;rw [g2] at hw;cases hw;simp only [zAl,g1,zAC,zAA];cases av with
     | d x=>rfl
     | p j off =>
      obtain ⟨g3,g4⟩:=parP hp hlent i j off g1;simp only [vm];rw [jl e2 (by omega)]
    ·rw [zAf (by omega),List.getElem?_replicate] at hi
     rw [zAf (by simp;omega),List.getElem?_replicate]
     split at hi
     ·cases hi;cases hw;rename_i hlt2;simp only [zA2,p0] at hlt2 ⊢;simp [hlt2,zC,evC]
     ·cases hi
   obtain ⟨e,σ',ρ',pa',t',s',c1,c2,c3,c4,c5,k0,c6⟩:=kI he body 1 _ _ t2 ρ2 θ _ _ p1 hr2 p2;have hfin:zlK P lent fn.results.toList σ'=some t'/\(e=.normal\/e=.ret):=by
    cases e with
    | normal=>exact ⟨c1,.inl rfl⟩
    | ret=>exact ⟨c1,.inr rfl⟩
    | exit i=>cases c1
   obtain ⟨v',out',vs,hnf,w1,w2,w3,w4,w5,w6,w7⟩:=zny c5 hfin.1 c2;simp only [zAm] at w1;obtain ⟨rfl,w1⟩:=w1;have hout:out=out':=by
    refine joinL_inj ?_ w1;have g1:=szOk_get hsz;refine ⟨by rw [g1.1,w6,f1],fun m a b ha hb=>?_⟩
    obtain ⟨x,hx⟩:∃ x,fp[m]?=some x:=by
     have:=(zAG.1 ha).1;exact ⟨fp[m]'(by rw [<- g1.1];exact this),by simp⟩
    obtain ⟨y,hy⟩:∃ y,lent[m]?=some y:=by
     have:=(zAG.1 ha).1;exact ⟨lent[m]'(by rw [f1,<- g1.1];exact this),by simp⟩
    have h1:=g1.2 m x a hx ha;obtain ⟨vs',h2,h3⟩:=f4 m y.1 y.2 hy;obtain ⟨ws,h4,h5,_⟩:=w7 m y.1 y.2 hy;rw [hx] at h2;cases h2;rw [hb] at h4;cases h4;simp only at h1;omega
   subst hout;refine ⟨w4,w5,k0+1,fun n hn'=>?_⟩;obtain ⟨n,rfl⟩:∃ n',n=n'+1:=⟨n - 1,by omega⟩
   obtain ⟨env',⟨bs',es'⟩,lk',df'⟩:=s';have hdf:df'=[]:=c5.df;refine yy (hk _) (NoU.out2 _ _ _) hfn hbody ⟨exOf e,_,by rw [zA0];exact c6 n (by omega),?_⟩
   have hfinH:q9 bs.length es (tupOf vs).top ⟨bs',es'⟩=xF ⟨bs,es⟩ θ fp out:=by
    rw [w3,w4];have hen:es'.all (fun e=>Nat.ble bs.length e.1 || Nat.ble e.2 bs.length)=true:=by
     rw [zBE];intro x hx;have:=c5.edg x hx;simp [zBp this]
    have hef:es'.filter (fun e=>Nat.blt e.1 bs.length)=[]:=by
     rw [List.filter_eq_nil_iff];intro x hx;have:=c5.edg x hx;simp only [zBq];omega
    obtain ⟨q1,q2,q3,q4⟩:=putB_get (H:=⟨bs,es⟩) (out:=out) hn l1 (by rw [w6,f1]) l2
    simp only at q1 q2;have hbl:(xF ⟨bs,es⟩ θ fp out).blks=bs'.take bs.length:=by
     apply List.ext_getElem?;intro b;rw [zA9];split
     ·rename_i hb
      by_cases hm:b∈θ
      ·obtain ⟨m,hm1,hm2⟩:=List.mem_iff_getElem.1 hm;have hml:m<lent.length:=by omega
       obtain ⟨vs',h2,h3⟩:=f4 m _ _ (show lent[m]?=some (lent[m].1,lent[m].2) by simp [hml])
       obtain ⟨ws,h4,h5,h6⟩:=w7 m _ _ (show lent[m]?=some (lent[m].1,lent[m].2) by simp [hml])
       have g1:=q3 m b ws vs' lent[m].1 (by simp [hm1,hm2]) h4 h2
       have g2:pd pa' m=b:=by
        rw [jl c4 (by omega)]
        have:=hpd m (by omega)
        rw [zAV hm1,hm2] at this;exact (zA1 this).symm
       rw [g2] at h6;simp only [Hp.get,zq] at g1 h6;rw [g1,h6]
      ·have g1:=q4 b hm;simp only [Hp.get,zq] at g1;rw [g1];refine (c5.base b hb fun a ha hh=>?_).symm;rw [hnf] at ha;rw [jl c4 (by omega)] at hh
       exact hm (hh ▸ zAh (hpd a (by omega)))
     ·rename_i hb;exact zAu (by rw [q2];omega)
    have:xF ⟨bs,es⟩ θ fp out=⟨bs'.take bs.length,es⟩:=by
     rw [<- hbl];cases hpb:xF ⟨bs,es⟩ θ fp out;rw [hpb] at q1;simp only at q1;rw [q1]
    rw [this];simp only [q9,hen,hef,zAW];simp
   rcases hfin.2 with rfl|rfl<;>exact ⟨hdf,vs,w2,by rw [w3],hfinH.symm⟩
  obtain ⟨a1,a2,_⟩:=key _ _ _ (List.nodup_range') (lent_ex fp []);exact ⟨a1,a2,hsz,fun θ H hn hL=>(key θ H.blks H.edges hn hL).2.2⟩
 ·cases h
end Go.Vm.Sx
namespace Go.Vm.Sx
set_option linter.unusedSectionVars false
open Go Go.Vm
variable {P:Program} {gl:Gl}
variable [NoU gl]
theorem zhx {m n i:Nat} (h:i<n):(List.range' m n)[i]?=some (m+i):=by
 simp [h]
theorem Ev.det {f:FuncId} {avs:List AV} {fp:List (List V×TypeId)} {v v':V} {out out':List (List V)} (h:Ev P gl f avs fp v out) (h':Ev P gl f avs fp v' out'):v=v'/\out=out':=by
 obtain ⟨_,_,s1,h⟩:=h;obtain ⟨_,_,s2,h'⟩:=h';have hn:=List.nodup_range' (s:=0) (n:=fp.length) (step:=1);have hL:yP ⟨[]++fp.map (fun x=>Blk.cells x.1 x.2),[]⟩ (List.range' 0 fp.length) fp:=lent_ex fp [];obtain ⟨k,h⟩:=h _ _ hn hL;obtain ⟨k',h'⟩:=h' _ _ hn hL;have e1:=h (max k k') (by omega)
 have e2:=h' (max k k') (by omega)
 rw [e1] at e2;simp only [zAA,zAH,Out.ret.injEq] at e2;refine ⟨e2.1,?_⟩;obtain ⟨l1,l2⟩:=zbh hL;obtain ⟨g1,g2⟩:=szOk_get s1;obtain ⟨g3,g4⟩:=szOk_get s2;obtain ⟨_,_,p1,_⟩:=putB_get (out:=out) hn l1 g1 l2;obtain ⟨_,_,q1,_⟩:=putB_get (out:=out') hn l1 g3 l2;apply List.ext_getElem?;intro m
 by_cases hm:m<fp.length
 ·have hb:(List.range' 0 fp.length)[m]?=some (0+m):=zhx hm;have ho:out[m]?=some (out[m]'(by omega)):=by simp [g1,hm]
  have ho':out'[m]?=some (out'[m]'(by omega)):=by simp [g3,hm]
  have hf:fp[m]?=some ((fp[m]'hm).1,(fp[m]'hm).2):=by simp [hm]
  have a:=p1 m _ _ _ _ hb ho hf;have b:=q1 m _ _ _ _ hb ho' hf;rw [e2.2,b] at a;simp only [zAA,Blk.cells.injEq,zBF] at a;rw [ho,ho',a]
 ·rw [zAu (by omega),zAu (by omega)]
open Classical in
noncomputable def phE (P:Program) (gl:Gl):PH:=fun f avs fp =>
 if h:∃ p:V×List (List V),Ev P gl f avs fp p.1 p.2 then some (Classical.choose h) else none
theorem phE_ok:zl1 P gl (phE P gl):=by
 intro f avs fp v out h;unfold phE at h;split at h
 ·rename_i hex;have:=zBf hex;have e:=zA1 h;rw [e] at this;exact this
 ·cases h
theorem kW {f:FuncId} {avs:List AV} {fp:List (List V×TypeId)} {v:V} {out:List (List V)} (h:Ev P gl f avs fp v out):phE P gl f avs fp=some (v,out):=by
 unfold phE;have hex:∃ p:V×List (List V),Ev P gl f avs fp p.1 p.2:=⟨(v,out),h⟩;rw [dif_pos hex];obtain ⟨e1,e2⟩:=(zBf hex).det h
 congr 1
 exact Prod.ext e1 e2
theorem zmc (hgl:∀ g off v,gl g off=some v->v.top=0):Env P gl (phE P gl):=⟨hgl,phE_ok⟩
theorem jc (hgl:∀ g off v,gl g off=some v->v.top=0) {hs:List (Nat×JS)} {f:FuncId} (hk:∀ args,gl.hk f args=none) {fn:Func} {t:Tree} (h:yp P hs f=some t) (hfn:P.funcs[f]?=some fn) (hlent:jR P fn.params.toList=some []) {xs:List V}
  (hp:vJ P fn.params.toList (xs.map .d) 0) (htop:tops xs=0) {v:V} (N:Nat) (hq:evT (phE P gl) gl N t xs=some (0,[v])):Ev P gl f (xs.map .d) [] v []:=by
 refine zjt (N:=N) (zmc hgl) hk h hfn hlent hp (fp:=[]) trivial (fun x hx=>?_) (v:=v) (out:=[]) trivial ?_
 ·simp only [zA4,AV.d.injEq,exists_eq_right] at hx;exact vj hx htop
 ·have:zc6 (xs.map AV.d) []=xs:=by simp [zc6,lentV,holdA,Function.comp_def]
  rw [this];exact hq
theorem Ev.run {f:FuncId} {xs:List V} {v:V} (h:Ev P gl f (xs.map .d) [] v []) (H:Hp):∃ k,∀ n,k<=n->zx P gl n f xs H=some (.ret v,H):=by
 obtain ⟨_,_,_,h⟩:=h;obtain ⟨k,h⟩:=h [] H (by simp) trivial
 refine ⟨k,fun n hn=>?_⟩;have:=h n hn;simpa [vm,Function.comp_def,xF] using this
theorem Ev.of_run {f:FuncId} {xs:List V} {v:V} (ht:v.top=0) (h:∀ H,∃ k,∀ n,k<=n->zx P gl n f xs H=some (.ret v,H)):Ev P gl f (xs.map .d) [] v []:=by
 refine ⟨ht,rfl,trivial,fun θ H _ hL=>?_⟩;cases θ with
 | nil =>
  obtain ⟨k,h⟩:=h H;refine ⟨k,fun n hn=>?_⟩;have:=h n hn;simpa [vm,Function.comp_def,xF] using this
 | cons=>exact hL.elim
theorem Ev.hook {f:FuncId} {xs:List V} {v:V} (hk:gl.hk f xs=some v) (ht:v.top=0):Ev P gl f (xs.map .d) [] v [] :=
 Ev.of_run ht fun H=>⟨1,fun n hn=>by
  obtain ⟨m,rfl⟩:∃ m,n=m+1:=⟨n - 1,by omega⟩
  obtain ⟨bs,es⟩:=H
  simp only [zx,hk]⟩
end Go.Vm.Sx
namespace Go.Vm.Sx
set_option linter.unusedSectionVars false
open Go Go.Vm
variable {P:Program} {gl:Gl} {ph:PH} {N:Nat} {t:Tree}
variable [NoU gl]
end Go.Vm.Sx
namespace Go.Vm.Sx
open Go Go.Vm
theorem qC (v:V) (ρ:List V):at' (v::ρ) 0=v:=rfl
theorem qH (v:V) (ρ:List V) (n:Nat):at' (v::ρ) (n+1)=at' ρ n:=rfl
theorem zmd {α:Type} {step:α->Option (Nat×α)} {st:Nat->α} {m j:Nat} {r:α} (hs:∀ i,i<m->step (st i)=some (0,st (i+1))) (he:step (st m)=some (j+1,r)):∀ {N:Nat},m<N->xS step N (st 0)=some (j,r):=by
 have key:∀ k i N,i+k=m->k<N->xS step N (st i)=some (j,r):=by
  intro k
  induction k with
  | zero =>
   intro i N hi hN;obtain rfl:i=m:=by omega
   cases N with
   | zero=>omega
   | succ N=>simp only [xS,he]
  | succ k ih =>
   intro i N hi hN;cases N with
   | zero=>omega
   | succ N =>
    simp only [xS,hs i (by omega)]
    exact ih (i+1) N (by omega) (by omega)
 intro N hN;exact key m 0 N (by omega) hN
theorem zy (v:V) (a b:List V):(v::a)++b=v::(a++b):=rfl
theorem zI (b:List V):([]:List V)++b=b:=rfl
theorem qm {α:Type} (a b:α):(bif true then a else b)=a:=rfl
theorem vK {α:Type} (a b:α):(bif false then a else b)=b:=rfl
def ltz (x y:Int):Bool:=decide (x<y)
def lez (x y:Int):Bool:=decide (x<=y)
theorem j9 (x y:Int):cmI .lss x y=ltz x y:=rfl
theorem zgh (x y:Int):cmI .leq x y=lez x y:=rfl
theorem kc (x y:Int):cmI .gtr x y=ltz y x:=rfl
theorem zcx (x y:Int):cmI .geq x y=lez y x:=rfl
theorem qX (x y:Int):cmI .eql x y=(x == y):=rfl
theorem zcW {x y:Int} (h:x<y):ltz x y=true:=decide_eq_true h
theorem zb2 {x y:Int} (h:y<=x):ltz x y=false:=decide_eq_false (by omega)
theorem zju {x y:Int} (h:x<=y):lez x y=true:=decide_eq_true h
theorem zoi {x y:Int} (h:y<x):lez x y=false:=decide_eq_false (by omega)
theorem ltz_i {x y:Int}:ltz x y=true ↔ x<y:=decide_eq_true_iff
theorem zjv {i n:Nat} (h:i<n):ltz (i:Int) (n:Int)=true:=zcW (by omega)
theorem zme {i n:Nat} (h:n<=i):ltz (i:Int) (n:Int)=false:=zb2 (by omega)
theorem zea {i:Nat}:ltz (i:Int) 0=false:=zb2 (by omega)
theorem jL (k:IntKind) (n:Int):kOk (.int k) (.int k n)=true:=by simp [kOk]
theorem vD (s:List Nat):kOk .str (.str s)=true:=by simp [kOk]
theorem kK (b:Bool):kOk .bool (.bool b)=true:=by simp [kOk]
theorem ks_nil:ksOk [] []=true:=by simp [ksOk]
theorem zU (k:CK) (ks:List CK) (v:V) (vs:List V):ksOk (k::ks) (v::vs)=(kOk k v && ksOk ks vs):=rfl
theorem zY (k:IntKind) (n:Int):vI (.int k n)=n:=by simp [vI]
theorem qY (b:Bool):vB (.bool b)=b:=by simp [vB]
theorem zoT (s:List Nat):vS (.str s)=s:=by simp [vS]
section
variable {pc:FuncId->List AV->List (List V×TypeId)->Option (V×List (List V))} {gl:Nat->Nat->Option V} {N:Nat} {ρ:List V} {t a b body:Tree} {c:TB} {i:Nat} {ks:List CK}
def zmf (pc:FuncId->List AV->List (List V×TypeId)->Option (V×List (List V))) (gl:Nat->Nat->Option V) (N:Nat) (body:Tree) (ρ ini:List V):Option (Nat×List V):=xS (fun vs=>evT pc gl N body (ρ++vs)) N ini
theorem zaL (ini:List C):evT pc gl N (.loop ini body) ρ=zmf pc gl N body ρ (zr ρ [] ini):=rfl
theorem zhy {st:Nat->List V} {m j:Nat} {r:List V} (hs:∀ i,i<m->evT pc gl N body (ρ++st i)=some (0,st (i+1))) (he:evT pc gl N body (ρ++st m)=some (j+1,r)) (hN:m<N):zmf pc gl N body ρ (st 0)=some (j,r):=zmd hs he hN
def zcX (pc:FuncId->List AV->List (List V×TypeId)->Option (V×List (List V))) (gl:Nat->Nat->Option V) (N:Nat) (body:Tree) (ρ:List V) (k:Nat) (ini:List V):Option (Nat×List V):=xS (fun vs=>evT pc gl N body (ρ++vs)) k ini
theorem zdj {ini:List V} {x:Option (Nat×List V)} (h:zcX pc gl N body ρ N ini=x):zmf pc gl N body ρ ini=x:=h
theorem xe {ini vs:List V} {k:Nat} {x:Option (Nat×List V)} (h:evT pc gl N body (ρ++ini)=some (0,vs)) (hx:zcX pc gl N body ρ k vs=x):zcX pc gl N body ρ (k+1) ini=x:=by
 subst hx;simp only [zcX,xS,h]
theorem xf {ini vs:List V} {k j:Nat} (h:evT pc gl N body (ρ++ini)=some (j+1,vs)):zcX pc gl N body ρ (k+1) ini=some (j,vs):=by
 simp only [zcX,xS,h]
theorem jC (h:evB ρ c=true):evT pc gl N (.ite c a b) ρ=evT pc gl N a ρ:=by simp [evT,h]
theorem jM (h:evB ρ c=false):evT pc gl N (.ite c a b) ρ=evT pc gl N b ρ:=by simp [evT,h]
theorem zb3 (h:evB ρ c=true):evT pc gl N (.need c t) ρ=evT pc gl N t ρ:=by simp [evT,h]
theorem zP (vs:List C):evT pc gl N (.out vs) ρ=some (0,zr ρ [] vs):=rfl
theorem ev_esc:evT pc gl N (.esc t) ρ=match evT pc gl N t ρ with|some (j,vs)=>some (j+1,vs)|none=>none:=rfl
theorem zN (e:VE):evT pc gl N (.letv e t) ρ=evT pc gl N t (ρ++[qR ρ e]):=rfl
theorem xG (l:TL) (i:TI):evT pc gl N (.elem l i t) ρ=bif ltz (evI ρ i) 0 then none else match nth (evL ρ l) (evI ρ i).toNat with|some v=>evT pc gl N t (ρ++[v])|none=>none:=by
 rw [evT,cond_eq_ite]
 by_cases h:evI ρ i<0
 ·simp [ltz,h]
 ·simp only [ltz,h,if_false,decide_false,zAD];rfl
theorem ev_opn:evT pc gl N (.opn i ks t) ρ=match at' ρ i with|.agg cs=>(bif ksOk ks cs then evT pc gl N t (ρ++cs) else none)|_=>none:=rfl
theorem ev_unt:evT pc gl N (.unt i ks t) ρ=match at' ρ i with|.tup cs=>(bif ksOk ks cs then evT pc gl N t (ρ++cs) else none)|_=>none:=rfl
theorem qZ {k:CK} (h:kOk k (at' ρ i)=true):evT pc gl N (.kin i k t) ρ=evT pc gl N t ρ:=by simp [evT,h]
theorem jg (f:FuncId) (args:List AS) (lent:List (List C×TypeId)):evT pc gl N (.call f args lent ks t) ρ=match pc f (kX ρ args) (qD ρ lent) with|some (v,out)=>(bif sizesOk lent out && ksOk ks (joinL out) then evT pc gl N t (ρ++(v::joinL out)) else none)|none=>none:=rfl
end
theorem zfb {α:Type} {l r:List α} {i:Nat} {a:α} (h:l.drop i=a::r):l[i]?=some a/\i<l.length/\l.drop (i+1)=r:=by
 have h1:i<l.length:=by
  rcases zAg i l.length with h1|h1
  ·exact h1
  ·rw [List.drop_eq_nil_of_le h1] at h;cases h
 rw [zBT h1] at h;cases h;exact ⟨by simp [h1],h1,rfl⟩
theorem zfc {α:Type} {l:List α} {i:Nat} (h:l.drop i=[]):l.length<=i:=by simpa using h
theorem vR (a:List V):a++([]:List V)=a:=zA0 a
end Go.Vm.Sx
namespace Go.Vm.Sx
open Go Go.Vm
def lv (sz:Nat) (nl:Bool) (l:List V):V:=if nl && l.isEmpty then .snil else .sl sz l .no
theorem lv_cases (sz:Nat) (nl:Bool) (l:List V):lv sz nl l=.sl sz l .no\/(l=[]/\lv sz nl l=.snil):=by
 unfold lv;split
 ·rename_i h;rw [zAF] at h;exact .inr ⟨by simpa using h.2,rfl⟩
 ·exact .inl rfl
theorem clr_lv {sz:Nat} {nl:Bool} {l:List V}:clr (lv sz nl l)=lv sz nl l:=by
 rcases lv_cases sz nl l with h|⟨_,h⟩<;>rw [h]<;>rfl
theorem ziw {sz:Nat} {nl:Bool} {l:List V}:(lv sz nl l).top=tops l:=by
 rcases lv_cases sz nl l with h|⟨hl,h⟩<;>rw [h]
 ·rfl
 ·rw [hl];rfl
theorem zoU (sz:Nat) (nl:Bool) (l:List V):kOk (.sl sz) (lv sz nl l)=true:=by
 rcases lv_cases sz nl l with h|⟨_,h⟩<;>rw [h]<;>simp [kOk,locked]
theorem zmg (sz:Nat) (nl:Bool) (l:List V):vL (lv sz nl l)=l:=by
 rcases lv_cases sz nl l with h|⟨h0,h⟩<;>rw [h]
 ·simp [vL]
 ·rw [h0];simp [vL]
def acc (sz:Nat) (e:TypeId) (l:List V):V:=match l with|[]=>.snil|_=>.sl sz l (.yes e)
theorem roomA_of {n b:Nat} (h1:n<=140737488355328) (h2:n * b<=140737488355328):kh n b=true:=by
 simp only [kh,zAF];exact ⟨zBp h1,zBp h2⟩
section
variable {pc:FuncId->List AV->List (List V×TypeId)->Option (V×List (List V))} {gl:Nat->Nat->Option V} {N:Nat} {ρ:List V} {body:Tree}
end
end Go.Vm.Sx
namespace Go.Vm
open Go
end Go.Vm
namespace Go.Vm
open Go
variable {cx:Cx} {n:Nat}
def kZ (cx:Cx) (o:Oper) (env:List V) (lk:List (Nat×Nat)):Bool :=
 match o.op with
 | .load t a=>match jG cx.P t with
  | some false=>true
  | _=>match peek env a with
   | some (.ptr b _)=>lk.all fun p=>!(Nat.beq p.1 b)
   | _=>true
 | _=>true
def Cx.opsN (cx:Cx) (all:Array Oper) (takes:List Tmp):List Oper->St->Option St
 | [],s=>some s
 | o::os,⟨env,H,lk,df⟩=>match zS all o env with
  | none=>none
  | some false=>cx.opsN all takes os ⟨zl env o.dst (.tup []),H,lk,df⟩
  | some true=>match kZ cx o env lk with
   | false=>none
   | true=>match cx.op takes o env H lk df with
    | some (.val v,⟨env,H,lk,df⟩)=>cx.opsN all takes os ⟨zl env o.dst v,H,lk,df⟩
    | some (.skip,⟨env,H,lk,df⟩)=>cx.opsN all takes os ⟨zl env o.dst (.tup []),H,lk,df⟩
    | _=>none
inductive It where
 |c (c:Code)|eb (id:Nat)|os (all:Array Oper) (takes:List Tmp) (l:List Oper)|on (all:Array Oper) (takes:List Tmp) (l:List Oper)
def go (cx:Cx) (n:Nat) (Q:Ex->St->Prop):List It->Ex->St->Prop
 | [],ex,s=>Q ex s
 | .c c::k,.normal,s=>W cx n c s (go cx n Q k)
 | .c _::k,ex,s=>go cx n Q k ex s
 | .eb id::k,.exit i,s=>go cx n Q k (if Nat.beq i id then .normal else .exit i) s
 | .eb _::k,ex,s=>go cx n Q k ex s
 | .os all takes l::k,.normal,s=>O cx all takes l s (go cx n Q k)
 | .os _ _ _::k,ex,s=>go cx n Q k ex s
 | .on all takes l::k,.normal,s=>∃ s',cx.opsN all takes l s=some s'/\go cx n Q k .normal s'
 | .on _ _ _::k,ex,s=>go cx n Q k ex s
variable {Q:Ex->St->Prop} {k:List It} {s:St} {env:List V} {H:Hp} {lk:List (Nat×Nat)} {df:List (V×List V)} {all:Array Oper} {takes:List Tmp} {os:List Oper}
theorem yi {c:Code} (h:go cx n Q [.c c] .normal s):W cx n c s Q:=by
 have:(go cx n Q [])=Q:=by funext ex s;simp [go]
 simpa [go,this] using h
theorem zD {ex:Ex}:go cx n Q [] ex s ↔ Q ex s:=by simp [go]
theorem go_skip:go cx n Q (.c .skip::k) .normal s ↔ go cx n Q k .normal s:=by simp only [go];exact zoD
theorem zd {a b:Code}:go cx n Q (.c (.seq a b)::k) .normal s ↔ go cx n Q (.c a::.c b::k) .normal s:=by
 simp only [go,zpt];have:(thn (fun s=>W cx n b s (go cx n Q k)) (go cx n Q k))=go cx n Q (.c b::k):=by
  funext ex s;cases ex<;>simp [go]
 rw [this]
theorem qb {id:Nat} {c:Code}:go cx n Q (.c (.block id c)::k) .normal s ↔ go cx n Q (.c c::.eb id::k) .normal s:=by
 simp only [go,zm8];have:blk id (go cx n Q k)=go cx n Q (.eb id::k):=by
  funext ex s;cases ex<;>simp [go]
 rw [this]
theorem go_ret:go cx n Q (.c .ret::k) .normal s ↔ go cx n Q k .ret s:=by simp only [go];exact zps
theorem xH {i:Nat}:go cx n Q (.c (.exit i)::k) .normal s ↔ go cx n Q k (.exit i) s:=by simp only [go];exact zoE
theorem jX {id:Nat}:go cx n Q (.eb id::k) .normal s ↔ go cx n Q k .normal s:=by simp [go]
theorem wj {id i:Nat}:go cx n Q (.eb id::k) (.exit i) s ↔ go cx n Q k (if Nat.beq i id then .normal else .exit i) s:=by simp [go]
theorem jk {id:Nat}:go cx n Q (.eb id::k) .ret s ↔ go cx n Q k .ret s:=by simp [go]
theorem wT {c:Code} {i:Nat}:go cx n Q (.c c::k) (.exit i) s ↔ go cx n Q k (.exit i) s:=by simp [go]
theorem qI {c:Code}:go cx n Q (.c c::k) .ret s ↔ go cx n Q k .ret s:=by simp [go]
def zfd (a b:Prop):Option V->Prop
 | some (.bool true)=>a
 | some (.bool false)=>b
 | _=>False
theorem zG {c:Operand} {a b:Code}:go cx n Q (.c (.cond c a b)::k) .normal ⟨env,H,lk,df⟩ ↔ zfd (go cx n Q (.c a::k) .normal ⟨env,H,lk,df⟩) (go cx n Q (.c b::k) .normal ⟨env,H,lk,df⟩) (peek env c):=by
 simp only [go];unfold W;simp only [Cx.code];cases peek env c with
 | none=>simp [zfd]
 | some v =>
  cases v with
  | bool t=>cases t<;>simp [zfd]
  | _=>simp [zfd]
theorem zK {a b:Prop} {t:Bool}:zfd a b (some (.bool t)) ↔ (t=true/\a\/t=false/\b):=by cases t<;>simp [zfd]
theorem go_region {id:Nat} {ops:Array Oper}:go cx n Q (.c (.region id ops false)::k) .normal ⟨env,H,lk,df⟩ ↔ go cx n Q (.os ops (wx ops) ops.toList::k) .normal ⟨env,H,[],df⟩:=by
 simp only [go];exact zlt
theorem go_os_nil:go cx n Q (.os all takes []::k) .normal s ↔ go cx n Q k .normal s:=by simp only [go];exact zpu
theorem zi {dst:Option Tmp} {op:Op} {type:TypeId} {pos:String} {after:Array Edge} :
  go cx n Q (.os all takes (⟨dst,op,type,pos,after,none⟩::os)::k) .normal ⟨env,H,lk,df⟩ ↔ opQ dst (fun s=>go cx n Q (.os all takes os::k) .normal s) (go cx n Q k) (cx.op takes ⟨dst,op,type,pos,after,none⟩ env H lk df):=by
 simp only [go];exact zm9
def gdQ (a b:Prop):Option Bool->Prop
 | some true=>a
 | some false=>b
 | none=>False
theorem kL {dst:Option Tmp} {op:Op} {type:TypeId} {pos:String} {after:Array Edge} {g:Nat×Bool} :
  go cx n Q (.os all takes (⟨dst,op,type,pos,after,some g⟩::os)::k) .normal ⟨env,H,lk,df⟩ ↔
   gdQ (opQ dst (fun s=>go cx n Q (.os all takes os::k) .normal s) (go cx n Q k) (cx.op takes ⟨dst,op,type,pos,after,some g⟩ env H lk df)) (go cx n Q (.os all takes os::k) .normal ⟨zl env dst (.tup []),H,lk,df⟩) (zS all ⟨dst,op,type,pos,after,some g⟩ env):=by
 simp only [go];unfold O;simp only [Cx.ops];cases zS all ⟨dst,op,type,pos,after,some g⟩ env with
 | none=>simp [gdQ]
 | some b =>
  cases b with
  | false=>simp [gdQ,q8]
  | true =>
   simp only [gdQ];cases h:cx.op takes ⟨dst,op,type,pos,after,some g⟩ env H lk df with
   | none=>simp
   | some r =>
    obtain ⟨r,s1⟩:=r;obtain ⟨env1,H1,lk1,df1⟩:=s1;cases r<;>simp [q8,ex2]
def zcY (want:Bool):Option V->Option Bool
 | some (.bool b)=>some (b == want)
 | some (.tup _)=>some false
 | _=>none
theorem zkE {dst:Option Tmp} {op:Op} {type:TypeId} {pos:String} {after:Array Edge} {j:Nat} {want:Bool} {d:Tmp} (hd:(all[j]?).bind (·.dst)=some d):zS all ⟨dst,op,type,pos,after,some (j,want)⟩ env=zcY want (nth env d):=by
 unfold zS zcY;simp only [hd];cases nth env d with
 | none=>rfl
 | some v=>cases v<;>rfl
theorem xI {c:Code} (Inv:Nat->St->Prop) (j:Nat) (hj:j<n) (h0:Inv j s) (hstep:∀ j s,Inv j s->go cx n (thn (fun s'=>∃ i,i<j/\Inv i s') (go cx n Q k)) [.c c] .normal s):go cx n Q (.c (.loop c)::k) .normal s:=by
 simp only [go];exact zoG Inv j hj h0 fun j s h=>yi (hstep j s h)
theorem qJ {P:Program} {gl:Gl} {f:FuncId} {fn:Func} {body:Code} {args:List V} {bs:List Blk} {es:List (Nat×Nat)} {out:Out} {H':Hp} (hk:gl.hk f args=none) (hk2:∀ H,gl.hk2 n f args H=none) (hf:P.funcs[f]?=some fn) (hb:fn.body=some body)
  (h:go ⟨P,gl,zx P gl n,gl.uq⟩ n (Fin P fn.results.toList bs.length es out H') [.c body] .normal ⟨args++List.replicate (fn.ntmps - args.length) (.tup []),⟨bs,[]⟩,[],[]⟩):zx P gl (n+1) f args ⟨bs,es⟩=some (out,H') :=
 yy hk hk2 hf hb (by rw [zA0];exact yi h)
def Fx (P:Program) (rs:List ResultVar) (Post:V->Hp->Prop):Ex->St->Prop
 | .normal,⟨env,H,_,df⟩|.ret,⟨env,H,_,df⟩=>df=[]/\∃ vs,zM P H env rs=some vs/\Post (tupOf vs) H
 | _,_=>False
theorem kR {P:Program} {gl:Gl} {f:FuncId} {fn:Func} {body:Code} {args:List V} {bs:List Blk} {es:List (Nat×Nat)} {Post:V->Hp->Prop} (hk:gl.hk f args=none) (hk2:∀ H,gl.hk2 n f args H=none) (hf:P.funcs[f]?=some fn) (hb:fn.body=some body)
  (h:go ⟨P,gl,zx P gl n,gl.uq⟩ n (Fx P fn.results.toList Post) [.c body] .normal ⟨args++List.replicate (fn.ntmps - args.length) (.tup []),⟨bs,[]⟩,[],[]⟩):∃ v H1,zx P gl (n+1) f args ⟨bs,es⟩=some (.ret v,q9 bs.length es v.top H1)/\Post v H1:=by
 obtain ⟨ex,⟨env,H,lk,df⟩,h1,h2⟩:=yi h;cases ex<;>simp only [Fx] at h2
 ·obtain ⟨rfl,vs,h3,h4⟩:=h2;exact ⟨_,H,yy hk hk2 hf hb ⟨.normal,_,by rw [zA0];exact h1,⟨rfl,vs,h3,rfl,rfl⟩⟩,h4⟩
 ·obtain ⟨rfl,vs,h3,h4⟩:=h2;exact ⟨_,H,yy hk hk2 hf hb ⟨.ret,_,by rw [zA0];exact h1,⟨rfl,vs,h3,rfl,rfl⟩⟩,h4⟩
theorem get_push {x:Blk} {b:Nat}:(H.push x).get b=match H.get b with|some y=>some y|none=>if b=H.blks.length then some x else none:=by
 simp only [Hp.get,Hp.push,zq,List.getElem?_append];split
 ·rename_i h;rw [zAV h]
 ·rename_i h;have:H.blks[b]?=none:=zAu (by omega)
  rw [this]
  by_cases e:b=H.blks.length
  ·subst e;simp
  ·rw [if_neg e];simp;omega
theorem zdk {x:Blk} {b c:Nat}:(H.set b x).get c=match H.get c with|some y=>some (if c=b then x else y)|none=>none:=by
 simp only [Hp.get,Hp.set,zq,List.getElem?_set']
 by_cases e:b=c
 ·subst e;cases h:H.blks[b]?<;>simp
 ·rw [if_neg e];cases h:H.blks[c]?<;>simp [Ne.symm e]
theorem zeb {b c:Nat} {v:V}:(H.edge b v).get c=H.get c:=by
 unfold Hp.edge;split<;>rfl
theorem wk {b:Nat} {x:Blk} (h:H.get b=some x):b<H.blks.length:=by
 simp only [Hp.get,zq] at h;exact (zAG.1 h).1
end Go.Vm
namespace Go.Vm
open Go
structure SR where
 idx:Nat
 m:Nat
 tm:Nat
 lm:Nat
 hp:Bool
 lk:Bool
 al:Bool
 ld:Bool
 tk:Bool
def wY (o:Oper):Bool:=match o.op with|.alloc _=>true|_=>false
def jP (takes:List Tmp) (o:Oper):Bool :=
 match o.op with
 | .load ..=>match o.dst with
  | some d=>takes.any (Nat.beq d)
  | none=>false
 | _=>false
def zcy (takes:List Tmp) (o:Oper):Bool :=
 match o.op with
 | .load ..=>match o.dst with
  | some d=>!(takes.any (Nat.beq d))
  | none=>false
 | .call ⟨.builtin .len,⟨[_]⟩,⟨[_]⟩⟩=>true
 | _=>false
def maskSAt:List SR->Nat->Option Nat
 | [],_=>none
 | r::rs,j=>if Nat.beq r.idx j then some r.m else maskSAt rs j
def zfe (rs:List SR):List Edge->Option Nat
 | []=>some 0
 | e::es=>match Region.binds .any e with
  | false=>zfe rs es
  | true=>match maskSAt rs e.on with
   | none=>none
   | some m=>match zfe rs es with
    | none=>none
    | some k=>some (Nat.lor k (Nat.lor m (Nat.pow 2 e.on)))
def zgi (r q:SR):Bool :=
 match bit r.m q.idx with
 | true=>true
 | false=>Nat.beq (Nat.land q.tm r.lm) 0 && Nat.beq (Nat.land r.tm q.lm) 0
variable {cx:Cx} {all:Array Oper} {takes:List Tmp}
structure SRel (cx:Cx) (takes:List Tmp) (q:Rec) (t:SR):Prop where
 idx:q.idx=t.idx
 m:q.m=t.m
 tm:q.tm=t.tm
 lm:q.lm=t.lm
 hp:q.hp=true->t.hp=true
 lk:q.hp=false->q.free=false->t.lk=true
 ld:t.ld=zcy takes q.o
 tk:t.tk=jP takes q.o
inductive Prs (cx:Cx) (takes:List Tmp):List Rec->List SR->Prop where
 |nil:Prs cx takes [] []
 |cons {q:Rec} {t:SR} {rs:List Rec} {ts:List SR} (h:SRel cx takes q t) (r:Prs cx takes rs ts):Prs cx takes (q::rs) (t::ts)
theorem zff {rs:List Rec} {ts:List SR} (h:Prs cx takes rs ts):∀ (es:List Edge),kx rs es=zfe ts es:=by
 have hat:∀ j,maskAt rs j=maskSAt ts j:=by
  intro j
  induction h with
  | nil=>rfl
  | cons a _ ih=>simp only [maskAt,maskSAt,a.idx,a.m,ih]
 intro es
 induction es with
 | nil=>rfl
 | cons e es ih=>simp only [kx,zfe,hat,ih];rfl
theorem zhz {rs:List Rec} {ts:List SR} (h:Prs cx takes rs ts) {f:Rec->Bool} {g:SR->Bool} (hfg:∀ q t,SRel cx takes q t->g t=true->f q=true) (hg:jS g ts=true):jS f rs=true:=by
 induction h with
 | nil=>rfl
 | cons a _ ih =>
  simp only [jS] at hg ⊢;split at hg
  ·rename_i h1;rw [hfg _ _ a h1];exact ih hg
  ·cases hg
theorem zgj {α:Type} {f:α->Bool}:∀ {l:List α},(∀ x∈l,f x=true)->jS f l=true
 | [],_=>rfl
 | y::l,h=>by simp only [jS,h y (zAL ..)];exact zgj fun x hx=>h x (zAE _ hx)
theorem vo {rs:List Rec} {ts:List SR} (h:Prs cx takes rs ts) {g:SR->Bool} (hg:jS g ts=true):∀ q∈rs,∃ t,SRel cx takes q t/\g t=true:=by
 induction h with
 | nil=>intro q hq;simp at hq
 | cons a _ ih =>
  simp only [jS] at hg;split at hg<;>try (cases hg;done)
  rename_i h1;intro q hq;rcases zAO.1 hq with rfl|hq
  ·exact ⟨_,a,h1⟩
  ·exact ih hg q hq
theorem yR {H:Hp} {b:Nat} {x y:Blk} (h:H.get b=some y):(H.push x).get b=some y:=by rw [get_push,h]
theorem zix {P:Program} {gl:Nat->Nat->Option V} {H:Hp} {x:Blk} {t:TypeId} {p v:V} (h:zJ P H gl t p=some v):zJ P (H.push x) gl t p=some v:=by
 cases p<;>simp only [zJ] at h ⊢<;>first|exact h|skip
 ·rename_i b off;cases hb:H.get b with
  | none=>simp [hb] at h
  | some y=>rw [yR hb];simpa [hb] using h
 ·rename_i b u k;cases hb:H.get b with
  | none=>simp [hb] at h
  | some y=>rw [yR hb];simpa [hb] using h
theorem zkF {P:Program} {H:Hp} {x:Blk} {t:TypeId} {p:V} {v:Int} (h:kO P H t p=some v):kO P (H.push x) t p=some v:=by
 unfold kO at h ⊢;split at h<;>try (simp only [*];done)
 ·rename_i hu;split at h<;>try (cases h;done)
  rename_i es hb;simp only [yR hb];exact h
theorem zfg {o:Oper} (hld:zcy takes o=true) {env:List V} {v:V} {D:Nat} {H:Hp} {x:Blk} {lk:List (Nat×Nat)} {df:List (V×List V)} (h:cx.valC takes o env v ⟨D,H,lk,df⟩=true):cx.valC takes o env v ⟨D,H.push x,lk,df⟩=true:=by
 obtain ⟨dst,op,type,pos,after,guard⟩:=o;unfold zcy at hld;split at hld<;>try (cases hld;done)
 ·rename_i t a hop;simp only at hop;subst hop;cases dst with
  | none=>simp at hld
  | some d =>
   have ht:takes.any (Nat.beq d)=false:=by simpa using hld
   simp only [Cx.valC,Cx.runC,zbJ ht] at h ⊢;cases hp:peek env a with
   | none=>simp [hp,rdQ] at h
   | some p =>
    cases hl:zJ cx.P H cx.gl t p with
    | none=>simp [hp,hl,rdQ] at h
    | some u=>simpa [hp,hl,zix hl,rdQ] using h
 ·rename_i x0 t0 hop;simp only at hop;subst hop;have hh:∀ H',cx.op takes ⟨dst,.call ⟨.builtin .len,#[x0],#[t0]⟩,type,pos,after,guard⟩ env H' lk df=rdQ env H' lk df (((peek env x0).bind (kO cx.P H' t0)).map (.int .i64)):=fun H'=>kF;simp only [Cx.valC,Cx.runC] at h ⊢;rw [show (⟨[x0]⟩:Array Operand)=#[x0] from rfl,show (⟨[t0]⟩:Array TypeId)=#[t0] from rfl] at *;rw [hh] at h ⊢
  cases hp:peek env x0 with
  | none=>simp [hp,rdQ] at h
  | some p =>
   cases hl:kO cx.P H t0 p with
   | none=>simp [hp,hl,rdQ] at h
   | some u=>simpa [hp,hl,zkF hl,rdQ] using h
end Go.Vm
namespace Go.Vm
open Go
variable {cx:Cx} {takes:List Tmp} {P:Program} {gl:Nat->Nat->Option V} {dst:Option Tmp} {type:TypeId} {pos:String} {after:Array Edge} {guard:Option (Nat×Bool)} {env:List V} {H:Hp} {lk:List (Nat×Nat)} {df:List (V×List V)}
def zoV (P:Program) (t:TypeId) (env:List V) (H:Hp) (lk:List (Nat×Nat)) (df:List (V×List V)) (y x:Option V):Option (OR×St):=do
 let .slice e <- P.underlying t|none
 let n <- qc P e
 let i <- P.info? e
 let z <- i.zero
 let ys <- vr P H e (<- y)
 if !Nat.beq z.cells.size n || Nat.beq n 0 then none else
 match <- x with
 | .snil=>match ys with
  | []=>some (.val .snil,⟨env,H,lk,df⟩)
  | _=>if kh ys.length i.bytes then some (.val (.ulr H.blks.length 0 ys.length),⟨env,H.push (.ul 0 n (flatV ys) e),lk,df⟩) else none
 | .ulr b u len=>match H.get b with
  | some (.ul ver sz cs e') =>
   if Nat.beq e e' && Nat.beq n sz && Nat.beq ver u && kh (len+ys.length) i.bytes then
    some (.val (.ulr b (ver+1) (len+ys.length)),⟨env,(H.set b (.ul (ver+1) sz (cs++flatV ys) e)).edge b (.tup ys),lk,df⟩)
   else none
  | _=>none
 | _=>none
theorem znz {t e n:Nat} {i:TypeInfo} {z:Value} (h1:P.underlying t=some (.slice e)) (h2:qc P e=some n) (h3:P.info? e=some i) (h4:i.zero=some z) (h5:z.cells.size=n) (h6:n≠0) {xs:List V} {o:Own} {x:Option V} :
  zoV P t env H lk df (some (.sl n xs o)) x=match x with
   | some .snil=>(match xs with
    | []=>some (.val .snil,⟨env,H,lk,df⟩)
    | _=>if kh xs.length i.bytes then some (.val (.ulr H.blks.length 0 xs.length),⟨env,H.push (.ul 0 n (flatV xs) e),lk,df⟩) else none)
   | some (.ulr b u len)=>(match H.get b with
    | some (.ul ver sz cs e')=>if (e=e'/\n=sz/\ver=u/\kh (len+xs.length) i.bytes=true) then
      some (.val (.ulr b (ver+1) (len+xs.length)),⟨env,(H.set b (.ul (ver+1) sz (cs++flatV xs) e)).edge b (.tup xs),lk,df⟩) else none
    | _=>none)
   | _=>none:=by
 have h7:(!Nat.beq z.cells.size n || Nat.beq n 0)=false:=by
  rw [h5];cases n with
  | zero=>exact absurd rfl h6
  | succ n=>simp [Nat.beq]
 simp only [zoV,h1,h2,h3,h4,vr,Option.bind_eq_bind,zAB,h7,if_true,zAD,if_false];cases x with
 | none=>rfl
 | some v =>
  cases v<;>try rfl
  rename_i b u len;simp only [zAB];cases H.get b with
  | none=>rfl
  | some y =>
   cases y<;>try rfl
   rename_i ver sz cs e';simp only [zAF,Nat.beq_eq,and_assoc]
def qQ (P:Program) (t:TypeId) (H:Hp) (lk:List (Nat×Nat)) (df:List (V×List V)) (x:Option (V×List V)):Option V->Option (OR×St)
 | some (.ptr b off)=>match qc P t with
  | some n=>zco n H lk df (some (.ptr b off)) x
  | none=>none
 | some (.ulp b u k)=>match x,qc P t,H.get b with
  | some (x,env),some n,some (.ul ver sz cs e)=>if ver=u/\okC (clr x)=true/\(clr x).cells.length=n/\k+n<=cs.length then
    some (.skip,⟨env,(H.set b (.ul ver sz (storeCells cs k (clr x).cells) e)).edge b (clr x),lk,df⟩) else none
  | _,_,_=>none
 | _=>none
theorem zw {t:TypeId} {a x:Operand}:cx.op takes ⟨dst,.store t a x,type,pos,after,guard⟩ env H lk df=qQ cx.P t H lk df (take env x) (peek env a):=by
 cases ha:peek env a with
 | none=>simp [Cx.op,ha,qQ]
 | some p =>
  cases p<;>try (simp [Cx.op,ha,qQ];done)
  ·rename_i b off;cases hn:qc cx.P t with
   | none =>
    simp only [Cx.op,ha,hn,qQ];cases take env x<;>rfl
   | some n =>
    rw [zhc hn (fun _ _ _=>by rw [ha];simp)]
    simp only [qQ,hn,ha]
  ·rename_i b u k;simp only [Cx.op,ha,qQ,zO,fL_eq,q7];cases take env x with
   | none=>rfl
   | some q =>
    obtain ⟨x,env'⟩:=q;cases qc cx.P t with
    | none=>rfl
    | some n =>
     cases H.get b with
     | none=>rfl
     | some y =>
      cases y<;>try rfl
      simp only [zAF,Nat.beq_eq,Nat.ble_eq,and_assoc]
def zeF (P:Program) (t:TypeId) (env:List V) (H:Hp) (lk:List (Nat×Nat)) (df:List (V×List V)):Option V->Option (OR×St)
 | some (.ptr b off)=>match jG P t with
  | some false=>match H.get b with
   | some (.cells cs ty)=>match nth cs off with
    | some (.sl sz xs (.yes e))=>some (.val (.sl sz xs (.yes e)),⟨env,(H.set b (.cells (cs.set off (.sl sz xs .lock)) ty)).edge b .nilp,(b,off)::lk,df⟩)
    | some .snil=>some (.val .snil,⟨env,H,lk,df⟩)
    | some (.ulr c u n)=>some (.val (.ulr c u n),⟨env,H,lk,df⟩)
    | _=>none
   | _=>none
  | _=>none
 | _=>none
theorem zaM {d:Tmp} {t:TypeId} {a:Operand} (h:takes.any (Nat.beq d)=true):cx.op takes ⟨some d,.load t a,type,pos,after,guard⟩ env H lk df=zeF cx.P t env H lk df (peek env a):=by
 simp only [Cx.op,h,fSet_eq,q7];unfold zeF;cases ha:peek env a with
 | none=>cases jG cx.P t with
  | none=>rfl
  | some b=>cases b<;>rfl
 | some p =>
  cases p<;>cases jG cx.P t<;>(try rfl)<;>rename_i g<;>cases g<;>rfl
def zec (t:TypeId) (env:List V) (H:Hp) (lk:List (Nat×Nat)) (df:List (V×List V)):Option V->Option (OR×St)
 | some z=>if okC z=true then some (.val (.ptr H.blks.length 0),⟨env,H.push (.cells z.cells t),lk,df⟩) else none
 | none=>none
theorem z9 {t:TypeId}:cx.op takes ⟨dst,.alloc t,type,pos,after,guard⟩ env H lk df=zec t env H lk df (qi cx.P t):=by
 simp only [Cx.op,zec];cases qi cx.P t with
 | none=>rfl
 | some z=>cases hz:okC z<;>simp [zO,qy,hz]
theorem wU {t:TypeId} {z:V} (h:okC z=true):zec t env H lk df (some z)=some (.val (.ptr H.blks.length 0),⟨env,H.push (.cells z.cells t),lk,df⟩):=by simp [zec,h]
theorem zpA {d t:Nat} (h:d≠t):[t].any (Nat.beq d)=false:=by
 cases hb:Nat.beq d t with
 | false=>simp [hb]
 | true=>exact absurd (zAQ hb) h
theorem zed {t d:Tmp} {x:Operand} (h:d≠t):cx.op [t] ⟨some d,.move x,type,pos,after,guard⟩ env H lk df=rdQ env H lk df (peek env x):=zfX (zpA h)
theorem zhA {t d:Tmp} {ty:TypeId} {a:Operand} (h:d≠t):cx.op [t] ⟨some d,.load ty a,type,pos,after,guard⟩ env H lk df=rdQ env H lk df (((peek env a).bind (zJ cx.P H cx.gl ty)).map clr):=zbJ (zpA h)
theorem zkG {d:Tmp} {t:TypeId} {a:Operand}:cx.op [d] ⟨some d,.load t a,type,pos,after,guard⟩ env H lk df=zeF cx.P t env H lk df (peek env a):=zaM (by simp)
theorem kr {d:Tmp} {x:Operand}:cx.op [d] ⟨some d,.move x,type,pos,after,guard⟩ env H lk df=tkQ H lk df (take env x):=zhb (by simp)
def zkH (P:Program) (t:TypeId):Option V->Option V
 | some v=>match P.underlying t with
  | some (.slice e)=>match qc P e,qi P e with
   | some n,some z=>if n≠0/\n<=16777216/\z.cells.length=n/\okC z=true/\okC v=true/\v.cells.length=n then some (.sl n [v] (.yes e)) else none
   | _,_=>none
  | _=>none
 | none=>none
theorem zaN {t:TypeId} {x:Operand}:cx.op takes ⟨dst,.buildSlice t 1 #[(0,x)],type,pos,after,guard⟩ env H lk df=rdQ env H lk df (zkH cx.P t (peek env x)):=by
 simp only [Cx.op];refine wq ?_;simp only [qj,zkH];cases h1:cx.P.underlying t with
 | none=>cases peek env x<;>rfl
 | some d =>
  cases d<;>(try (cases peek env x<;>rfl))
  rename_i e;cases h2:qc cx.P e with
  | none=>cases peek env x<;>simp [h2]
  | some n =>
   cases h3:qi cx.P e with
   | none=>cases peek env x<;>simp [h2,h3]
   | some z =>
    simp only [h2,h3,Option.bind_eq_bind,zAB];cases hx:peek env x with
    | none=>simp [zbs,hx]
    | some v =>
     simp only [zbs,hx,Option.bind_eq_bind,zAB,zO,fSet_eq,Nat.one_mul]
     by_cases c0:n=0
     ·subst c0;simp [Nat.beq]
     ·have c0':Nat.beq n 0=false:=by cases n with
       | zero=>exact absurd rfl c0
       | succ n=>rfl
      by_cases c1:n<=16777216
      ·have c1':Nat.blt 16777216 n=false:=by
        cases hb:Nat.blt 16777216 n with
        | false=>rfl
        | true=>have:=zAk hb;omega
       by_cases c2:z.cells.length=n
       ·cases c3:okC z with
        | false=>simp [c0',c1',c2]
        | true =>
         cases c4:okC v with
         | false=>simp [c0',c1',c2]
         | true =>
          by_cases c5:v.cells.length=n
          ·simp [c0',c2,c5,c0,c1,Nat.blt];omega
          ·simp [c0',c1',c2,c5]
       ·simp [c0',c1',c2]
      ·have c1':Nat.blt 16777216 n=true:=zBp (by omega)
       simp [c0',c1',c1]
theorem znA {P:Program} {t e n:Nat} {z v:V} (h1:P.underlying t=some (.slice e)) (h2:qc P e=some n) (h3:qi P e=some z) (h4:(n≠0/\n<=16777216/\z.cells.length=n/\okC z=true)) (h5:okC v=true) (h6:v.cells.length=n):zkH P t (some v)=some (.sl n [v] (.yes e)):=by
 obtain ⟨a,b,c,d⟩:=h4;simp [zkH,h1,h2,h3,a,b,c,d,h5,h6]
end Go.Vm
namespace Go.Vm
open Go
variable {cx:Cx} {all:Array Oper} {takes:List Tmp}
def zb4 (c:Cfg) (s:St):Prop :=
 (c.H=s.H/\c.lk=s.lk/\c.df=s.defers)\/∃ b off cs ty sz xs e,c.H.get b=some (.cells cs ty)/\nth cs off=some (.sl sz xs (.yes e))/\s.H=(c.H.set b (.cells (cs.set off (.sl sz xs .lock)) ty)).edge b .nilp/\s.lk=(b,off)::c.lk/\s.defers=c.df
theorem zjw {o:Oper} (h:jP takes o=true) {env:List V} {H:Hp} {lk:List (Nat×Nat)} {df:List (V×List V)} {v:V} {D:Nat} {s1:St} (hop:cx.op takes o env H lk df=some (.val v,s1)):zb4 ⟨D,H,lk,df⟩ s1:=by
 obtain ⟨dst,op,type,pos,after,guard⟩:=o;unfold jP at h;split at h<;>try (cases h;done)
 rename_i t a hop';simp only at hop';subst hop';cases dst with
 | none=>cases h
 | some d =>
  simp only at h;rw [zaM h] at hop;unfold zeF at hop;split at hop<;>try (cases hop;done)
  split at hop<;>try (cases hop;done)
  split at hop<;>try (cases hop;done)
  rename_i cs ty hb;split at hop<;>try (cases hop;done)
  ·rename_i sz xs e hn;cases hop;exact .inr ⟨_,_,cs,ty,sz,xs,e,hb,hn,rfl,rfl,rfl⟩
  ·cases hop;exact .inl ⟨rfl,rfl,rfl⟩
  ·cases hop;exact .inl ⟨rfl,rfl,rfl⟩
theorem zkI {P:Program} {c:Cfg} {s:St} (h:zb4 c s) {t:TypeId} {p:V} {v:Int} (hl:kO P s.H t p=some v):kO P c.H t p=some v:=by
 rcases h with ⟨h,_⟩|⟨b,off,cs,ty,sz,xs,e,hb,hn,hs,_⟩
 ·rw [h];exact hl
 ·unfold kO at hl ⊢;split at hl<;>try (simp only [*];done)
  rename_i m hu;split at hl<;>try (cases hl;done)
  rename_i es hm;rw [hs,zeb,zdk] at hm;split at hm<;>try (cases hm;done)
  rename_i y hy;split at hm
  ·cases hm
  ·cases hm;simp only [hy];exact hl
theorem ziy {P:Program} {gl:Nat->Nat->Option V} {c:Cfg} {s:St} (h:zb4 c s) {t:TypeId} {p u:V} (hk:jG P t=some false\/∀ b off,p=.ptr b off->s.lk.all (fun q=>!(Nat.beq q.1 b))=true) (hl:zJ P s.H gl t p=some u):∃ u',zJ P c.H gl t p=some u'/\clr u'=clr u:=by
 rcases h with ⟨h,_⟩|⟨b,off,cs,ty,sz,xs,e,hb,hn,hs,hlk,_⟩
 ·rw [h];exact ⟨u,hl,rfl⟩
 ·cases p<;>(try (exact ⟨u,hl,rfl⟩))
  ·rename_i b' off';simp only [zJ,hs,zeb,zdk] at hl ⊢
   by_cases hbb:b'=b
   ·subst hbb;rcases hk with hk|hk
    ·simp only [hb,if_true,Option.bind_eq_bind,zAB,jU,hk] at hl ⊢;rw [zq,List.getElem?_set'] at hl
     by_cases ho:off=off'
     ·subst ho;rw [zq] at hn;simp only [if_true,hn,zAC,Function.const,Option.map_eq_map] at hl;cases hl;exact ⟨.sl sz xs (.yes e),by simp [zq,hn],rfl⟩
     ·rw [if_neg ho] at hl;exact ⟨u,by rw [zq];exact hl,rfl⟩
    ·have:=hk b' off' rfl;rw [hlk] at this;simp at this
   ·cases hg:c.H.get b' with
    | none=>simp [hg] at hl
    | some y=>simp only [hg,if_neg hbb] at hl;exact ⟨u,by simpa [hg] using hl,rfl⟩
  ·rename_i b' u' k;simp only [zJ,hs,zeb,zdk] at hl ⊢
   by_cases hbb:b'=b
   ·subst hbb;simp [hb] at hl
   ·cases hg:c.H.get b' with
    | none=>simp [hg] at hl
    | some y=>simp only [hg,if_neg hbb] at hl;exact ⟨u,by simpa [hg] using hl,rfl⟩
theorem zfh {o:Oper} (hld:zcy takes o=true) {env:List V} {v:V} {c:Cfg} {s s1:St} (hL:zb4 c s) (hk:kZ cx o env s.lk=true) (hop:cx.op takes o env s.H s.lk s.defers=some (.val v,s1)):cx.valC takes o env v c=true:=by
 obtain ⟨dst,op,type,pos,after,guard⟩:=o;unfold zcy at hld;split at hld<;>try (cases hld;done)
 ·rename_i t a hop';simp only at hop';subst hop';cases dst with
  | none=>simp at hld
  | some d =>
   have ht:takes.any (Nat.beq d)=false:=by simpa using hld
   simp only [Cx.valC,Cx.runC,zbJ ht] at hop ⊢;cases hp:peek env a with
   | none=>simp [hp,rdQ] at hop
   | some p =>
    cases hl:zJ cx.P s.H cx.gl t p with
    | none=>simp [hp,hl,rdQ] at hop
    | some u =>
     obtain ⟨u',h1,h2⟩:=ziy hL (by
      simp only [kZ] at hk;split at hk
      ·rename_i h;exact .inl h
      ·refine .inr fun b off e=>?_;rw [hp,e] at hk
       exact hk) hl
     simp only [hp,hl,rdQ,zAB,zAC,zAA,zAH,OR.val.injEq] at hop;simp only [zAB,h1,zAC,rdQ,h2,hop.1,V.same_refl]
 ·rename_i x0 t0 hop';simp only at hop';subst hop';have hh:∀ H' lk' df',cx.op takes ⟨dst,.call ⟨.builtin .len,#[x0],#[t0]⟩,type,pos,after,guard⟩ env H' lk' df'=rdQ env H' lk' df' (((peek env x0).bind (kO cx.P H' t0)).map (.int .i64)):=fun H' lk' df'=>kF;rw [show (⟨[x0]⟩:Array Operand)=#[x0] from rfl,show (⟨[t0]⟩:Array TypeId)=#[t0] from rfl,hh] at hop;simp only [Cx.valC,Cx.runC]
  rw [show (⟨[x0]⟩:Array Operand)=#[x0] from rfl,show (⟨[t0]⟩:Array TypeId)=#[t0] from rfl,hh];cases hp:peek env x0 with
  | none=>simp [hp,rdQ] at hop
  | some p =>
   cases hl:kO cx.P s.H t0 p with
   | none=>simp [hp,hl,rdQ] at hop
   | some u =>
    simp only [hp,hl,rdQ,zAB,zAC,zAA,zAH,OR.val.injEq] at hop;simp only [zAB,zkI hL hl,zAC,rdQ,hop.1,V.same_refl]
structure SqI (cx:Cx) (takes:List Tmp) (i:Nat) (rs:List Rec) (ts:List SR) (c0:Cfg) (rest:List Cfg) (s:St):Prop where
 pr:Prs cx takes rs ts
 lt:∀ q∈rs,q.idx<i
 cD:∀ b,bit c0.D b=true ↔ ∃ q∈rs,q.hp=true/\q.idx=b
 c0:c0.H=s.H/\c0.lk=s.lk/\c0.df=s.defers
 rD:∀ c∈rest,∀ b,bit c.D b=true->∃ q∈rs,q.idx=b
 rest:∀ c∈rest,(∃ q∈rs,q.hp=true/\jP takes q.o=false/\bit c.D q.idx=false)\/((∃ q∈rs,q.hp=true/\jP takes q.o=true/\bit c.D q.idx=false)/\zb4 c s)
 vals:∀ q∈rs,q.hp=false->q.free=false->(∃ c∈rs,c.hp=true/\bit c.m q.idx=true)\/(∀ D,cx.valC takes q.o q.env q.v ⟨D,s.H,s.lk,s.defers⟩=true)
theorem zjx {rs:List Rec} {c0 c1:Cfg} {rest:List Cfg} {r:Rec} {k:List Cfg->Option (Ex×St)}
  (hsub:r.hp=true->∀ c∈rest,j8 (Nat.land r.m (chgM rs)) c.D=false)
  (hval:r.hp=false->r.free=false->∀ c∈rest,j8 (Nat.land r.m (chgM rs)) c.D=false\/cx.valC takes r.o r.env r.v c=true)
  (hc1:∀ b,(∃ q∈rs,q.hp=true/\q.idx=b)->bit c1.D b=true)
  (hlook:r.hp=true->∀ q∈rs,q.hp=false->q.free=false->bit r.m q.idx=true\/(∃ c∈rs,c.hp=true/\bit c.m q.idx=true)\/cx.valC takes q.o q.env q.v c1=true) :
  cx.cfgsK takes rs r c0 c1 rest k=k (bif r.hp then c1::c0::rest else c0::rest):=by
 unfold Cx.cfgsK;cases hh:r.hp with
 | false =>
  have:(r.free || jS (fun c=>match j8 (Nat.land r.m (chgM rs)) c.D with|true=>cx.valC takes r.o r.env r.v c|false=>true) rest)=true:=by
   cases hf:r.free with
   | true=>rfl
   | false =>
    simp only [zBL];exact zgj fun c hc=>by
     rcases hval hh hf c hc with h|h
     ·simp only [h]
     ·split
      ·exact h
      ·rfl
  show (match r.free || jS (fun c=>match j8 (Nat.land r.m (chgM rs)) c.D with|true=>cx.valC takes r.o r.env r.v c|false=>true) rest with|true=>k (c0::rest)|false=>none)=k (c0::rest)
  rw [this]
 | true =>
  simp only [zBm];have hrun:∀ l:List Cfg,(∀ c∈l,j8 (Nat.land r.m (chgM rs)) c.D=false)->cx.runAll takes r.o r.env r.v (Nat.land r.m (chgM rs)) (Nat.pow 2 r.idx) l=some []:=by
   intro l
   induction l with
   | nil=>intro _;rfl
   | cons c l ih=>intro h;simp only [Cx.runAll,h c (zAL ..)];exact ih fun c hc=>h c (zAE _ hc)
  rw [hrun rest (hsub hh)];have hnew:cx.newOk takes rs (chgM rs) r (c1::c0::rest) c1=true:=by
   unfold Cx.newOk;refine zgj fun q hq=>?_;split
   ·rfl
   ·cases hqh:q.hp with
    | true =>
     simp only;rw [hc1 q.idx ⟨q,hq,hqh,rfl⟩]
    | false =>
     simp only;cases hqf:q.free with
     | true=>rfl
     | false =>
      rcases hlook hh q hq hqh hqf with h|⟨c,hc,h1,h2⟩|h
      ·simp [h]
      ·have:q5 c1.D q rs=true:=by
        have hx:∀ l:List Rec,c∈l->q5 c1.D q l=true:=by
         intro l
         induction l with
         | nil=>intro h;simp at h
         | cons d l ih =>
          intro h;simp only [q5,zAZ,zAF];rcases zAO.1 h with rfl|h
          ·exact .inl ⟨⟨h1,hc1 _ ⟨c,hc,h1,rfl⟩⟩,h2⟩
          ·exact .inr (ih h)
        exact hx rs hc
       simp [this]
      ·simp [h]
  have hnew':cx.newOk takes rs (chgM rs) r ([c1]++c0::rest) c1=true:=hnew;simp only [jS,hnew'];rfl
theorem zhB {o:Oper} (h:wY o=true) {env:List V} {H:Hp} {lk:List (Nat×Nat)} {df:List (V×List V)} {v:V} {s1:St} (hop:cx.op takes o env H lk df=some (.val v,s1)):∃ x,s1=⟨env,H.push x,lk,df⟩:=by
 obtain ⟨dst,op,type,pos,after,guard⟩:=o;unfold wY at h;split at h<;>try (cases h;done)
 rename_i t hop';simp only at hop';subst hop';simp only [Cx.op] at hop;split at hop<;>try (cases hop;done)
 split at hop<;>try (cases hop;done)
 simp only [zO,qy,zAA,zAH] at hop;exact ⟨_,hop.2.symm⟩
theorem zc {n id:Nat} {Q:Ex->St->Prop} {k:List It} {ops:Array Oper} {env:List V} {H:Hp} {lk:List (Nat×Nat)} {df:List (V×List V)} {tk:List Tmp} (ht:wx ops=tk)
  (h:go cx n Q (.os ops tk ops.toList::k) .normal ⟨env,H,[],df⟩):go cx n Q (.c (.region id ops false)::k) .normal ⟨env,H,lk,df⟩:=by
 subst ht;exact go_region.2 h
end Go.Vm
