/- Sx: lists that are built or made longer; interfaces; globals; Sx: calls; Sx: an operation, whichever; a region in the order of the text; and what follows from it. Conditions: none but those that each theorem names. -/
import Derived.Test.YthohlnmcjkjeiaaGreatDoorVmE
namespace Go.Vm.Sx
set_option linter.unusedSectionVars false
open Go Go.Vm
variable {P:Program} {gl:Gl} {ph:PH} {N:Nat} {r:Nat×List V} {ρ ρ':List V} {pa pa':List Nat} {σ:Sg} {s:St} {n0:Nat} {B:List Blk} {env:List V} {H:Hp} {lk:List (Nat×Nat)} {df:List (V×List V)} {takes:List Tmp} {k:KT} {t:Tree}
variable [NoU gl]
variable {dst:Option Tmp} {type:TypeId} {pos:String} {after:Array Edge} {guard:Option (Nat×Bool)}
theorem zoU {tt:TypeId} {x:Operand} (h:xOp P takes σ ⟨dst,.makeInterface tt x,type,pos,after,guard⟩ k=some t) (hr:Rel n0 B ρ pa σ ⟨env,H,lk,df⟩) (hq:evT ph gl N t ρ=some r) :
  Step P gl ph N r n0 B k takes ⟨dst,.makeInterface tt x,type,pos,after,guard⟩ σ ρ pa ⟨env,H,lk,df⟩:=by
 simp only [xOp] at h;split at h
 ·rename_i v hv;split at h
  ·cases h
  ·rename_i hc;simp only [zAe,zAn,not_or,Bool.not_eq_true,zBY] at hc;obtain ⟨t1,h1,h2⟩:=zbz h hq;obtain ⟨d1,d2⟩:=vf (pa:=pa) hr.here.ks hr.top hc.2;simp only [evVE,d2 []] at h2;refine zG h1 h2 (zAq _ _) (hr.push1 (v:=.ifc tt (evSC ρ pa v)) (ck:=.ifc) rfl d1) (v:=.ifc tt (evSC ρ pa v)) (fun n=>?_) fun ρ'' pa'' e1 e2 v' hv'=>by cases hv';simp only [evSC,evC];exact wy e1 hr.kl.symm
   simp only [Cx.op,zD,jD hr.here hv,hc.1,Option.bind_eq_bind,zAT,zAH,if_false]
 ·cases h
theorem zoV {tt:TypeId} {g:Nat} (hgl:∀ g off v,gl g off=some v->v.top=0) (h:xOp P takes σ ⟨dst,.load tt (.global g),type,pos,after,guard⟩ k=some t) (hr:Rel n0 B ρ pa σ ⟨env,H,lk,df⟩) (hq:evT ph gl N t ρ=some r) (htk:zO takes dst=false) :
  Step P gl ph N r n0 B k takes ⟨dst,.load tt (.global g),type,pos,after,guard⟩ σ ρ pa ⟨env,H,lk,df⟩:=by
 simp only [xOp,htk] at h;split at h
 ·rename_i ha;split at h
  ·rename_i t1 ht;cases h;simp only [evT] at hq;split at hq
   ·rename_i v hv;have hr2:=hr.push1 (v:=v) (ck:=.raw) rfl (hgl _ _ _ hv);have hat:at' (ρ++[v]) σ.ks.length=v:=by rw [<- hr.kl];exact yA
    simp only [yO,ha] at ht;split at ht
    ·rename_i ck hck;split at ht
     ·rename_i t' ht';cases ht;simp only [evT,cond_eq_ite] at hq;split at hq
      ·rename_i hk;have hr3:=hr2.kind (i:=σ.ks.length) (by simp) hk
       rw [hat] at hk;refine zG ht' hq (zAq _ _) hr3 (v:=clr v) (fun n=>?_) fun ρ'' pa'' e1 e2 v' hv'=>?_
       ·rw [xS htk];simp only [peek,zAT,zn,ha,hv,Option.bind_eq_bind,zAa,zAH,if_false,rdQ]
       ·cases hv';rw [jC];simp only [evSC,evC];rw [wy e1 hr.kl.symm]
      ·cases hq
     ·cases ht
    ·cases ht
   ·cases hq
  ·cases h
 ·cases h
theorem zdi {x y:TL}:evL ρ (zlg x y)=evL ρ x++evL ρ y:=by
 unfold zlg;split<;>simp [evL]
theorem zkk {l:TL} (h:isSnoc l=true):evL ρ l≠[]:=by
 cases l<;>first|(cases h;done)|(simp only [evL];exact fun h=>by simp at h)
theorem append_ok {tt:TypeId} {x y:Operand} {ts:Array TypeId} (hts:ts=#[tt,tt]) (h:zgs P σ tt x y k=some t) (hr:Rel n0 B ρ pa σ ⟨env,H,lk,df⟩) (hq:evT ph gl N t ρ=some r) :
  Step P gl ph N r n0 B k takes ⟨dst,.call ⟨.builtin .append,#[x,y],ts⟩,type,pos,after,guard⟩ σ ρ pa ⟨env,H,lk,df⟩:=by
 subst hts;unfold zgs at h;split at h
 ·rename_i e hu;split at h
  ·rename_i n ti yc hn hi hyc;split at h
   ·rename_i z l hz hl;split at h
    ·cases h
    ·rename_i hzn;simp only [zAe,zAn,not_or,zBY,Bool.not_eq_true] at hzn;have hn0:n≠0:=fun e=>by rw [e] at hzn;simp at hzn
     obtain ⟨e',sc,env',v,h1,h2,h3,h4⟩:=zbB h hr;have hey:∀ ρ'' pa'',ρ <+: ρ''->pa <+: pa''->∃ yv,peek env y=some yv/\jv P H e yv=some (evL ρ'' l):=fun ρ'' pa'' e1 e2=>by
      have hp:=hr.ext ρ'' pa'' e1 e2;refine ⟨_,zX hp hyc,?_⟩;rcases xQ (pa:=pa'') hp.ks hl with ⟨f1,f2⟩|⟨o,f1⟩
      ·rw [f1,f2];rfl
      ·rw [f1];simp [jv,hn]
     have hst:∀ ρ'' pa'',ρ <+: ρ''->pa <+: pa''->evL ρ'' l=evL ρ l:=fun ρ'' pa'' e1 e2=>by
      obtain ⟨yv,g1,g2⟩:=hey ρ'' pa'' e1 e2;obtain ⟨yw,g3,g4⟩:=hey ρ pa (zAI _) (zAI _);rw [g1] at g3;cases g3;rw [g2] at g4;exact zAr g4
     obtain ⟨yv,hy1,hy2⟩:=hey ρ pa (zAI _) (zAI _);have hbn:Nat.beq n 0=false:=hzn.2;have key:∀ u,(∀ z',z=z'->zV P H tt v yv=some u)->∀ n',Cx.op ⟨P,gl,zk P gl n',gl.uq⟩ takes ⟨dst,.call ⟨.builtin .append,#[x,y],#[tt,tt]⟩,type,pos,after,guard⟩ env H lk df=some (.val u,⟨env',H,lk,df⟩):=fun u hu' n'=>by
      rw [vd (zcP (NoU.out (gl:=gl)) _),hy1,h2];simp only [zeU,zAT,hu' z rfl]
     have app:∀ w,v=.snil->(match evL ρ l with|[]=>some V.snil|ys=>if qG ys.length ti.bytes && !Nat.beq n 0 then some (V.sl n ys (.yes e)) else none)=some w->zV P H tt v yv=some w:=fun w hv hw=>by
      subst hv;simp only [zV,hu,hn,hi,hz,Option.bind_eq_bind,zAT,hzn.1,zAg,zAH,if_false,hy2];exact hw
     have app2:∀ xs,v=.sl n xs (.yes e)->qG (xs.length+(evL ρ l).length) ti.bytes=true->zV P H tt v yv=some (.sl n (xs++evL ρ l) (.yes e)):=fun xs hv hw=>by
      subst hv;simp only [zV,hu,hn,hi,hz,Option.bind_eq_bind,zAT,hzn.1,zAg,zAH,if_false,hy2,zAu,hbn,hw,zAm,zBL,if_true]
     have hltop:=vX hr.top l;have h40:=h4 ρ pa (zAI _) (zAI _);split at h1
     ·
      simp only [evSC,evC] at h40;split at h1
      ·rename_i hs;obtain ⟨t1,g1,g2,g3⟩:=jm h1 hq;simp only [evB] at g3;refine zG g1 g2 (zAI _) h3 (v:=.sl n (evL ρ l) (.yes e)) (key _ fun _ _=>app _ h40.symm ?_) fun ρ'' pa'' e1 e2 v' hv'=>by cases hv';simp only [evSC,evC];rw [hst ρ'' pa'' e1 e2]
       split
       ·rename_i h0;exact absurd h0 (zkk hs)
       ·simp [g3,hbn]
      ·obtain ⟨t0,g1,g2,g3⟩:=jm h1 hq;obtain ⟨t1,g4,g5⟩:=zbz g1 g2;simp only [evB] at g3;simp only [evVE,evC,zgr] at g5;have hk:kOk (.sl n) (match evL ρ l with|[]=>V.snil|ys=>.sl n ys (.yes e))=true:=by split<;>simp [kOk,locked]
       have ht:(match evL ρ l with|[]=>V.snil|ys=>.sl n ys (.yes e)).top=0:=by split<;>first|rfl|exact hltop
       refine zG g4 g5 (zAq _ _) (h3.push1 hk ht) (key _ fun _ _=>app _ h40.symm ?_) fun ρ'' pa'' e1 e2 v' hv'=>by cases hv';simp only [evSC,evC];exact wy e1 hr.kl.symm
       cases hL:evL ρ l with
       | nil=>rfl
       | cons a b=>rw [hL] at g3;simp only [g3,hbn,zAm,zBL,if_true]
     ·rename_i sz xs e2;split at h1
      ·rename_i hc;simp only [zAC] at hc;obtain rfl:=qJ hc.1;obtain rfl:=qJ hc.2;obtain ⟨t1,g1,g2,g3⟩:=jm h1 hq;simp only [evB,zdi,zAi] at g3;simp only [evSC,evC] at h40;refine zG g1 g2 (zAI _) h3 (v:=.sl n (evL ρ xs++evL ρ l) (.yes e)) (key _ fun _ _=>app2 _ h40.symm g3) fun ρ'' pa'' e1 e2 v' hv'=>?_;cases hv';have:=h4 ρ'' pa'' e1 e2;rw [<- h40] at this
       simp only [evSC,evC,V.sl.injEq,true_and,zBn] at this;simp only [evSC,evC,zdi,hst ρ'' pa'' e1 e2,this]
      ·cases h1
     ·rename_i j;split at h1
      ·rename_i sz hkj;split at h1
       ·rename_i hc;have:=qJ hc;subst this;obtain ⟨t0,g1,g2,g3⟩:=jm h1 hq;obtain ⟨t1,g4,g5,g6⟩:=jm g1 g2;simp only [evB,zdi,evL,zAi] at g6;simp only [evB] at g3;simp only [evSC,evC] at h40;have hkk:=h3.here.ks _ _ hkj;have hv:(v=.snil/\at' ρ j=.snil)\/∃ xs,v=.sl n xs (.yes e)/\at' ρ j=.sl n xs (.yes e):=by
         rw [h40] at g3 hkk ⊢;cases v<;>simp only [zoG,zAH] at g3
         ·exact .inl ⟨rfl,rfl⟩
         ·rename_i s' xs o;cases o<;>simp only [zAH] at g3;have:=qJ g3;subst this;simp only [kOk,zAC] at hkk;have:=qJ hkk.1;subst this;exact .inr ⟨xs,rfl,rfl⟩
        have hat:∀ ρ'' pa'',ρ <+: ρ''->pa <+: pa''->at' ρ'' j=at' ρ j:=fun ρ'' pa'' e1 e2=>by
         have:=h4 ρ'' pa'' e1 e2;simp only [evSC,evC] at this;rw [this,h40]
        split at g4
        ·rename_i hs;refine zG g4 g5 (zAI _) h3 (v:=.sl n (Sx.vL (at' ρ j)++evL ρ l) (.yes e)) (key _ fun _ _=>?_) fun ρ'' pa'' e1 e2 v' hv'=>by cases hv';simp only [evSC,evC,zdi,evL,hst ρ'' pa'' e1 e2,hat ρ'' pa'' e1 e2]
         rcases hv with ⟨f1,f2⟩|⟨xs,f1,f2⟩
         ·refine app _ f1 ?_;rw [f2] at g6 ⊢;simp only [Sx.vL,List.length_nil,zA0,zA7] at g6 ⊢;split
          ·rename_i h0;exact absurd h0 (zkk hs)
          ·simp [g6,hbn]
         ·rw [f2] at g6 ⊢;exact app2 _ f1 g6
        ·obtain ⟨t2,g7,g8⟩:=zbz g4 g5;simp only [evVE,evC] at g8;have hval:zV P H tt v yv=some (zgr (at' ρ j) n e (evL ρ l)):=by
          rcases hv with ⟨f1,f2⟩|⟨xs,f1,f2⟩
          ·refine app _ f1 ?_;rw [f2] at g6 ⊢;simp only [Sx.vL,List.length_nil,zA0] at g6;simp only [zgr];cases hL:evL ρ l with
           | nil=>rfl
           | cons a b=>rw [hL] at g6;simp only [g6,hbn,zAm,zBL,if_true]
          ·rw [f2] at g6 ⊢;exact app2 _ f1 g6
         have hk:kOk (.sl n) (zgr (at' ρ j) n e (evL ρ l))=true:=by
          rcases hv with ⟨f1,f2⟩|⟨xs,f1,f2⟩<;>rw [f2]<;>simp only [zgr]
          ·split<;>simp [kOk,locked]
          ·simp [kOk,locked]
         have ht:(zgr (at' ρ j) n e (evL ρ l)).top=0:=by
          have ha:=yS hr.top j;rcases hv with ⟨f1,f2⟩|⟨xs,f1,f2⟩<;>rw [f2] at ha ⊢<;>simp only [zgr]
          ·split<;>first|rfl|exact hltop
          ·simp only [V.top] at ha ⊢;rw [jl,ha,hltop];rfl
         exact zG g7 g8 (zAq _ _) (h3.push1 hk ht) (key _ fun _ _=>hval) fun ρ'' pa'' e1 e2 v' hv'=>by cases hv';simp only [evSC,evC];exact wy e1 hr.kl.symm
       ·cases h1
      ·cases h1
     ·cases h1
   ·cases h
  ·cases h
 ·cases h
theorem zm6 {n:Nat} {kk:Sg->TL->Option Tree}:∀ {parts:List (Nat×Operand)} {j:Nat} {l:TL} {σ:Sg} {ρ:List V} {t:Tree} {len:Nat} {rest:List V},zoJ σ n kk j l parts=some t->Rel n0 B ρ pa σ ⟨env,H,lk,df⟩->evT ph gl N t ρ=some r->(evL ρ l).length=j->(∀ ρ'',ρ <+: ρ''->evL ρ'' l=evL ρ l)->rest.length=parts.length->j+parts.length=len ->
  ∃ ks' l' ρ' t',kk { σ with ks:=ks' } l'=some t'/\evT ph gl N t' ρ'=some r/\ρ <+: ρ'/\Rel n0 B ρ' pa { σ with ks:=ks' } ⟨env,H,lk,df⟩/\(∀ ρ'',ρ' <+: ρ''->evL ρ'' l'=evL ρ' l')/\za9 n len env (evL ρ l++rest) parts=some (evL ρ' l')
 | [],j,l,σ,ρ,t,len,rest,h,hr,hq,hj,hl,hrest,hlen=>by
  obtain rfl:rest=[]:=zBS.1 hrest;exact ⟨σ.ks,l,ρ,t,h,hq,zAI _,hr,hl,by simp [za9]⟩
 | (i,x)::ps,j,l,σ,ρ,t,len,rest,h,hr,hq,hj,hl,hrest,hlen=>by
  simp only [zoJ] at h;split at h
  ·rename_i v hv;split at h
   ·rename_i hc;simp only [zAC] at hc;obtain ⟨⟨⟨c1,c2⟩,c3⟩,c4⟩:=hc;have:=qJ c1;subst this;obtain ⟨t1,h1,h2⟩:=zbz h hq;obtain ⟨d1,d2⟩:=vf (pa:=pa) hr.here.ks hr.top c3;obtain ⟨k1,k2,_⟩:=zdf (pa:=pa) hr.here.ks c2;simp only [evVE,d2 []] at h2;have hr2:=hr.push1 (v:=evSC ρ pa v) (ck:=.raw) rfl d1
    have hat:∀ ρ'',ρ++[evSC ρ pa v] <+: ρ''->evL ρ'' (.snoc l σ.ks.length)=evL ρ l++[evSC ρ pa v]:=fun ρ'' e=>by
     simp only [evL];rw [hl ρ'' (zcr e),wy e hr.kl.symm]
    match rest,hrest with
    | w::rest,hrest =>
    simp only [zAj] at hlen hrest;obtain ⟨ks',l',ρ',t',g1,g2,g3,g4,g5,g6⟩:=zm6 (rest:=rest) (len:=len) h1 hr2 h2 (by rw [hat _ (zAI _)];simp [hj]) (fun ρ'' e=>by rw [hat ρ'' e,hat _ (zAI _)]) (by omega) (by omega)
    refine ⟨ks',l',ρ',t',g1,g2,zcr g3,g4,g5,?_⟩;rw [hat _ (zAI _)] at g6;have hlt:Nat.blt i len=true:=by simp only [zBq];omega
    have hcl:Nat.beq (evSC ρ pa v).cells.length n=true:=by rw [k2,zJ];exact c4
    simp only [za9,jD hr.here hv,Option.bind_eq_bind,zAT,k1,hcl,hlt,zBL,if_true,zI,fSet_eq];rw [<- g6]
    congr 1
    rw [zA5 _ _ (by omega),hj]
    simp
   ·cases h
  ·cases h
theorem zlq {tt:TypeId} {len:Nat} {parts:Array (Nat×Operand)} (h:xOp P takes σ ⟨dst,.buildSlice tt len parts,type,pos,after,guard⟩ k=some t) (hr:Rel n0 B ρ pa σ ⟨env,H,lk,df⟩) (hq:evT ph gl N t ρ=some r) :
  Step P gl ph N r n0 B k takes ⟨dst,.buildSlice tt len parts,type,pos,after,guard⟩ σ ρ pa ⟨env,H,lk,df⟩:=by
 simp only [xOp] at h;split at h
 ·rename_i e hu;split at h
  ·rename_i n z hn hz;split at h
   ·cases h
   ·rename_i hc;simp only [zAe,zAn,not_or,zBY,Bool.not_eq_true] at hc;obtain ⟨⟨⟨⟨c1,c2⟩,c3⟩,c4⟩,c5⟩:=hc;obtain ⟨ks',l',ρ',t',g1,g2,g3,g4,g5,g6⟩:=zm6 (len:=len) (rest:=List.replicate len z) h hr hq rfl (fun _ _=>rfl) (by simp [qJ c5]) (by simp only [zA0];exact qJ c5)
    refine zG g1 g2 g3 g4 (v:=.sl n (evL ρ' l') (.yes e)) (fun n'=>?_) fun ρ'' pa'' e1 e2 v' hv'=>by cases hv';simp only [evSC,evC];rw [g5 ρ'' e1]
    simp only [evL,zA7] at g6;simp only [Cx.op,zD,hu,hn,hz,Option.bind_eq_bind,zAT,c1,c2,c3,c4,zAg,Bool.or_self,zAH,if_false,g6]
  ·cases h
 ·cases h
end Go.Vm.Sx
namespace Go.Vm.Sx
set_option linter.unusedSectionVars false
open Go Go.Vm
variable {P:Program} {gl:Gl} {ph:PH} {N:Nat} {r:Nat×List V} {ρ ρ':List V} {pa pa':List Nat} {σ:Sg} {s:St} {n0:Nat} {B:List Blk} {env:List V} {H:Hp} {lk:List (Nat×Nat)} {df:List (V×List V)} {takes:List Tmp} {k:KT} {t:Tree}
variable [NoU gl]
variable {dst:Option Tmp} {type:TypeId} {pos:String} {after:Array Edge} {guard:Option (Nat×Bool)}
def wz (θ:List Nat):AV->V
 | .d x=>x
 | .p j off=>.ptr (pd θ j) off
def ye (H:Hp):List Nat->List (List V×TypeId)->Prop
 | [],[]=>True
 | b::θ,(cs,t)::r=>H.get b=some (.cells cs t)/\ye H θ r
 | _,_=>False
def yV (H:Hp):List Nat->List (List V×TypeId)->List (List V)->Hp
 | b::θ,(_,t)::r,o::out=>yV (H.set b (.cells o t)) θ r out
 | _,_,_=>H
def szOk:List (List V×TypeId)->List (List V)->Prop
 | [],[]=>True
 | (cs,_)::r,l::ls=>cs.length=l.length/\szOk r ls
 | _,_=>False
def Ev (P:Program) (gl:Gl) (f:FuncId) (avs:List AV) (fp:List (List V×TypeId)) (v:V) (out:List (List V)):Prop :=
 v.top=0/\tops (joinL out)=0/\szOk fp out/\∀ (θ:List Nat) (H:Hp),θ.Nodup->ye H θ fp->∃ k,∀ n,k<=n->zk P gl n f (avs.map (wz θ)) H=some (.ret v,yV H θ fp out)
def zm7 (P:Program) (gl:Gl) (ph:PH):Prop:=∀ f avs fp v out,ph f avs fp=some (v,out)->Ev P gl f avs fp v out
theorem za0 {a:Nat}:∀ {ns:List Nat} {j:Nat},zdS a ns=some j->nth ns j=some a
 | b::r,j,h=>by
  simp only [zdS] at h;split at h
  ·rename_i hb;cases h;rw [qJ hb];rfl
  ·split at h
   ·rename_i i hi;cases h;exact za0 (ns:=r) hi
   ·cases h
theorem za1 {a:Nat}:∀ {ns:List Nat},zdS a ns=none->a ∉ ns
 | [],_=>by simp
 | b::r,h=>by
  simp only [zdS] at h;split at h
  ·cases h
  ·rename_i hb;split at h
   ·cases h
   ·rename_i hi;intro hm;rcases zAK.1 hm with rfl|hm
    ·simp at hb
    ·exact za1 hi hm
theorem pks_ok (hr:Rel n0 B ρ pa σ ⟨env,H,lk,df⟩):∀ {args:List Operand} {ns ns':List Nat} {vs:List AS},pks σ ns args=some (vs,ns')->ns.Nodup ->
  ∃ vals,peeks env args=some vals/\vals.map clr=(evAs ρ vs).map (wz (ns'.map (pd pa)))/\ns <+: ns'/\ns'.Nodup
 | [],ns,ns',vs,h,hn=>by cases h;exact ⟨[],rfl,rfl,zAI _,hn⟩
 | x::xs,ns,ns',vs,h,hn=>by
  simp only [pks] at h;split at h
  ·rename_i a off hx;have e0:=jD hr.here hx;simp only [evSC,evC] at e0;have pt:∀ (ns':List Nat) (j:Nat),nth ns' j=some a->wz (ns'.map (pd pa)) (.p j off)=.ptr (pd pa a) off:=fun ns' j hj=>by
    simp only [wz,pd,nth_map,hj,zAa]
   split at h
   ·rename_i j hj;split at h
    ·rename_i vs' ns1 hxs;cases h;obtain ⟨vals,h1,h2,h3,h4⟩:=pks_ok hr hxs hn;refine ⟨.ptr (pd pa a) off::vals,by simp only [peeks,e0,zI,h1],?_,h3,h4⟩
     obtain ⟨y,rfl⟩:=h3;simp only [zAz,evAs,evA,clr,h2];rw [pt _ j (nth_app (za0 hj))]
    ·cases h
   ·rename_i hj;split at h
    ·rename_i vs' ns1 hxs;cases h
     obtain ⟨vals,h1,h2,h3,h4⟩:=pks_ok hr hxs (by
      rw [List.nodup_append]
      exact ⟨hn,by simp,fun b hb c hc=>by simp at hc;subst hc;intro e;subst e;exact za1 hj hb⟩)
     refine ⟨.ptr (pd pa a) off::vals,by simp only [peeks,e0,zI,h1],?_,pre_nat h3,h4⟩
     obtain ⟨y,rfl⟩:=h3;simp only [zAz,evAs,evA,clr,h2];rw [pt _ ns.length (nth_app (by simp [zd]))]
    ·cases h
  ·rename_i v hv hx;split at h
   ·rename_i vs' ns1 hd hxs;cases h;obtain ⟨vals,h1,h2,h3,h4⟩:=pks_ok hr hxs hn;have e0:=jD hr.here hx;refine ⟨evSC ρ pa v::vals,by simp only [peeks,e0,zI,h1],?_,h3,h4⟩
    simp only [zAz,evAs,evA,wz,h2];rw [(vf (pa:=pa) hr.here.ks hr.top hd).2 [],peek_clr e0]
   ·cases h
  ·cases h
 where
 pre_nat {ns ns1:List Nat} {a:Nat} (h:ns++[a] <+: ns1):ns <+: ns1:=(zAq _ _).trans h
 peek_clr {x:Operand} {v:V} (h:peek env x=some v):clr v=v:=by
  cases x with
  | tmp t =>
   simp only [peek] at h;split at h
   ·cases h;exact clr_clr _
   ·cases h
  | const u =>
   simp only [peek] at h;cases v<;>first|rfl|skip
   exfalso;unfold ofVal at h;split at h
   all_goals first|(cases h;done)|skip
   simp only [zAG] at h;obtain ⟨l,_,h⟩:=h;split at h<;>cases h
  | global g=>cases h;rfl
  | func f=>cases h;rfl
def zcS (σ:Sg):List Nat->List (List C×TypeId)->Prop
 | [],[]=>True
 | a::ns,x::r=>qy a σ.blks=some x/\kY σ.ks x.1=true/\zcS σ ns r
 | _,_=>False
theorem lentB_ok:∀ {ns:List Nat} {l:List (List C×TypeId)},zfg σ ns=some l->zcS σ ns l
 | [],l,h=>by cases h;trivial
 | a::ns,l,h=>by
  simp only [zfg] at h;split at h
  ·rename_i cs t l' h1 h2;split at h
   ·rename_i hd;cases h;exact ⟨h1,hd,lentB_ok h2⟩
   ·cases h
  ·cases h
theorem zd3 (hr:Rel n0 B ρ pa σ ⟨env,H,lk,df⟩):∀ {ns:List Nat} {l:List (List C×TypeId)},zcS σ ns l->ye H (ns.map (pd pa)) (evLent ρ l)
 | [],[],_=>trivial
 | a::ns,(cs,t)::r,h=>by
  refine ⟨?_,zd3 hr h.2.2⟩;have:=hr.here.blks _ _ _ h.1;rw [(ko (pa:=pa) hr.here.ks hr.top h.2.1).2.2 []];exact this
 | [],_::_,h=>h.elim
 | _::_,[],h=>h.elim
theorem zd4 (hr:Rel n0 B ρ pa σ s):∀ {ns:List Nat} {l:List (List C×TypeId)},zcS σ ns l->∀ a∈ns,a<σ.na
 | a::ns,_::r,h,b,hb=>by
  rcases zAK.1 hb with rfl|hb
  ·exact hr.bn _ _ h.1
  ·exact zd4 hr h.2.2 b hb
theorem zh4 (hr:Rel n0 B ρ pa σ s) {ns:List Nat} (hn:ns.Nodup) (hl:∀ a∈ns,a<σ.na):(ns.map (pd pa)).Nodup:=by
 induction ns with
 | nil=>simp
 | cons a ns ih =>
  simp only [zAz,List.nodup_cons] at hn ⊢;refine ⟨fun h=>?_,ih hn.2 fun b hb=>hl b (zAE _ hb)⟩;obtain ⟨b,hb,he⟩:=zAo.1 h;have:=hr.inj b a (hl b (zAE _ hb)) (hl a zAL) he;subst this;exact hn.1 hb
theorem zqr {ks:List CK} {c:C} (h:xN ks c=true):ckC ks c≠.raw:=by
 cases c with
 | k v=>cases v<;>simp [ckC]
 | v i cl =>
  simp only [xN] at h;simp only [ckC];cases hn:nth ks i with
  | none=>rw [hn] at h;cases h
  | some k=>rw [hn] at h;cases k<;>first|(cases h;done)|(simp)
 | p a off=>cases h
 | lkd i=>cases h
 | _=>simp [ckC]
theorem ckLent_ne:∀ {l:List (List C×TypeId)} {ns:List Nat},zcS σ ns l->∀ k∈wD σ.ks l,k≠.raw
 | [],_,_,k,hk=>by simp [wD] at hk
 | (cs,t)::r,[],h,_,_=>h.elim
 | (cs,t)::r,a::ns,h,k,hk=>by
  simp only [wD,zA3,zAo] at hk;rcases hk with ⟨c,hc,rfl⟩|hk
  ·have hd:=h.2.1;simp only at hd;clear h
   induction cs with
   | nil=>simp at hc
   | cons x xs ih =>
    simp only [kY,zAC] at hd;rcases zAK.1 hc with rfl|hc
    ·exact zqr hd.1
    ·exact ih hc hd.2
  ·exact ckLent_ne (ns:=ns) h.2.2 k hk
theorem ks_unl:∀ {cks:List CK} {x:List V},ksOk cks x=true->(∀ k∈cks,k≠.raw)->∀ v∈x,locked v=false
 | [],[],_,_,v,hv=>by simp at hv
 | c::cs,w::ws,h,hn,v,hv=>by
  simp only [ksOk,zAC] at h;rcases zAK.1 hv with rfl|hv
  ·exact (vW h.1 (hn c zAL)).2
  ·exact ks_unl h.2 (fun k hk=>hn k (zAE _ hk)) v hv
 | [],_::_,h,_,_,_=>by cases h
 | _::_,[],h,_,_,_=>by cases h
theorem zlr {H:Hp} {b:Nat}:H.edge b .nilp=H:=by simp [Hp.edge,V.top]
theorem back_ok:∀ {ns:List Nat} {l:List (List C×TypeId)} {out:List (List V)} {i:Nat} {σ:Sg} {H:Hp} {x y:List V},Rel n0 B ρ pa σ ⟨env,H,lk,df⟩->(∀ p∈List.zip ns l,qy p.1 σ.blks=some p.2)->ns.length=l.length->ns.Nodup->sizesOk l out=true->(∀ v∈joinL out,locked v=false)->ρ=x++joinL out++y->x.length=i->tops ρ=0 ->
  Rel n0 B ρ pa { σ with blks:=backB ns l i σ.blks } ⟨env,yV H (ns.map (pd pa)) (evLent ρ l) out,lk,df⟩
 | [],[],[],i,σ,H,x,y,hr,_,_,_,_,_,_,_,_=>hr
 | a::ns,(cs,t)::r,o::out,i,σ,H,x,y,hr,hz,hlen,hn,hs,hu,hx,hi,htop=>by
  simp only [sizesOk,zAC] at hs;have hol:=qJ hs.1;have hfa:qy a σ.blks=some (cs,t):=hz (a,(cs,t)) (by simp)
  simp only [joinL] at hx hu;have hout:∀ ρ'' pa'',ρ <+: ρ''->pa <+: pa''->evCs ρ'' pa'' (lits (cs.map fun _=>CK.raw) i)=o:=by
   rintro ρ'' pa'' ⟨z,rfl⟩ _;have:=zbA (pa:=pa'') (x:=x) (z:=o) (ks:=cs.map fun _=>CK.raw) (y:=joinL out++y++z) (i:=i) (by simp [hol]) hi
   rw [hx];simpa only [zAc] using this
  have hw:=hr.write (v:=.nilp) (lk2:=σ.lk) (lk':=lk) hfa hout (.inr rfl) (fun b o hb=>hr.ln b o hb) (fun b o _ _ hb=>hb) (fun x hx=>hx) (fun off c hb hc hlk=>by
   rw [zd] at hc
   rw [hu c (zAx _ (zAb hc))] at hlk;cases hlk)
  rw [zlr] at hw;simp only [List.nodup_cons] at hn
  have:=back_ok (ns:=ns) (l:=r) (out:=out) (i:=i+cs.length) (x:=x++o) (y:=y) hw (fun p hp=>by
    simp only [yT];have hne:a≠p.1:=fun e=>hn.1 (by rw [e];exact (List.of_mem_zip hp).1)
    simp only [hne,if_false]
    exact hz p (by simp [hp])) (by simpa using hlen) hn.2 hs.2 (fun v hv=>hu v (zA9 _ hv)) (by rw [hx];simp) (by simp [hi,hol]) htop
  simpa [backB,yV,evLent] using this
 | [],_::_,_,_,_,_,_,_,_,_,h,_,_,_,_,_,_=>by simp at h
 | _::_,[],_,_,_,_,_,_,_,_,h,_,_,_,_,_,_=>by simp at h
 | [],[],_::_,_,_,_,_,_,_,_,_,_,h,_,_,_,_=>by cases h
 | _::_,_::_,[],_,_,_,_,_,_,_,_,_,h,_,_,_,_=>by cases h
theorem lents_zip:∀ {ns:List Nat} {l:List (List C×TypeId)},zcS σ ns l->ns.length=l.length/\∀ p∈List.zip ns l,qy p.1 σ.blks=some p.2
 | [],[],_=>⟨rfl,fun p hp=>by simp at hp⟩
 | a::ns,x::r,h=>by
  obtain ⟨h1,h2⟩:=lents_zip h.2.2;refine ⟨by simp [h1],fun p hp=>?_⟩
  simp only [List.zip_cons_cons,zAK] at hp;rcases hp with rfl|hp
  ·exact h.1
  ·exact h2 p hp
 | [],_::_,h=>h.elim
 | _::_,[],h=>h.elim
theorem zcs {kk:Sg->List SC->Option Tree}:∀ {ts:List TypeId} {σ:Sg} {ρ:List V} {i:Nat} {acc:List SC} {t:Tree},zdT P kk σ ts i acc=some t->Rel n0 B ρ pa σ s->i+ts.length<=σ.ks.length->evT ph gl N t ρ=some r ->
  ∃ ks' ys ρ' t',kk { σ with ks:=ks' } (acc++ys)=some t'/\evT ph gl N t' ρ'=some r/\ρ <+: ρ'/\Rel n0 B ρ' pa { σ with ks:=ks' } s/\∀ ρ'' pa'',ρ' <+: ρ''->evSCs ρ'' pa'' ys=(List.range' i ts.length).map (at' ρ)
 | [],σ,ρ,i,acc,t,h,hr,hi,hq=>⟨σ.ks,[],ρ,t,by rw [zBB];exact h,hq,zAI _,hr,fun _ _ _=>rfl⟩
 | ty::ts,σ,ρ,i,acc,t,h,hr,hi,hq=>by
  simp only [zAj] at hi;have hil:i<ρ.length:=by rw [hr.kl];omega
  have rng:∀ (ρ':List V),ρ <+: ρ'->(List.range' (i+1) ts.length).map (at' ρ')=(List.range' (i+1) ts.length).map (at' ρ):=fun ρ' e=>by
   apply List.map_congr_left;intro j hj;simp only [List.mem_range'_1] at hj;exact wk e (by rw [hr.kl];omega)
  simp only [zdT] at h;split at h
  ·split at h
   ·rename_i ks hl;split at h
    ·rename_i t1 ht;cases h;simp only [evT] at hq;split at hq
     ·rename_i cs hcs;rw [cond_eq_ite] at hq;split at hq
      ·rename_i hk;have htop:tops cs=0:=by have:=yS hr.top i;rw [hcs] at this;exact this
       have hlen:=ksOk_len hk;have hr2:=hr.push hk htop;obtain ⟨ks',ys,ρ',t',g1,g2,g3,g4,g5⟩:=zcs ht hr2 (by simp;omega) hq
       refine ⟨ks',.agg (lits ks σ.ks.length)::ys,ρ',t',by simpa using g1,g2,zcr g3,g4,fun ρ'' pa'' e=>?_⟩
       simp only [evSCs,g5 ρ'' pa'' e,zAj,List.range'_succ,zAz];rw [rng _ (zAq _ _),hcs]
       congr 1
       obtain ⟨z,rfl⟩:=g3.trans e;simp only [evSC];rw [zbA hlen hr.kl]
      ·cases hq
     ·cases hq
    ·cases h
   ·cases h
  ·obtain ⟨ks',ys,ρ',t',g1,g2,g3,g4,g5⟩:=zcs h hr (by omega) hq
   refine ⟨ks',.one (.v i false)::ys,ρ',t',by simpa using g1,g2,g3,g4,fun ρ'' pa'' e=>?_⟩
   simp only [evSCs,g5 ρ'' pa'' e,zAj,List.range'_succ,zAz,evSC,evC];rw [wk (g3.trans e) hil]
  ·cases h
theorem kTup_len:∀ {ts:List TypeId} {ks:List CK},zoK P ts=some ks->ks.length=ts.length
 | [],ks,h=>by cases h;rfl
 | t::ts,ks,h=>by
  simp only [zoK] at h;split at h
  ·rename_i r hr;cases h;simp [kTup_len hr]
  ·rename_i r hr;split at h
   ·cases h;simp [kTup_len hr]
   ·cases h
  ·cases h
theorem zls {f:FuncId} {args:Array Operand} {ts:Array TypeId} {b:Nat} (h:qY takes σ ⟨dst,.call ⟨.value (.func f),args,ts⟩,type,pos,after,guard⟩=some (.wr b)):False:=by
 simp only [qY] at h;split at h<;>cases h
theorem zfm {o:Oper} {ns:List Nat} {lent:List (List C×TypeId)} {v:V} {out:List (List V)} {t0:Tree} {tys:List TypeId} (hno:∀ b,qY takes σ o=some (.wr b)->False) (hL:zcS σ ns lent) (p4:ns.Nodup) (e1:v.top=0) (e2:tops (joinL out)=0)
  (hc:sizesOk lent out=true/\ksOk (wD σ.ks lent) (joinL out)=true) (hr:Rel n0 B ρ pa σ ⟨env,H,lk,df⟩)
  (ht0:zj8 P { σ with ks:=σ.ks++(CK.raw::wD σ.ks lent),blks:=backB ns lent (σ.ks.length+1) σ.blks } σ.ks.length k tys=some t0) (hq:evT ph gl N t0 (ρ++(v::joinL out))=some r)
  (hrun:∃ k0,∀ n,k0<=n->Cx.op ⟨P,gl,zk P gl n,gl.uq⟩ takes o env H lk df=some (.val v,⟨env,yV H (ns.map (pd pa)) (evLent ρ lent) out,lk,df⟩)) :
  Step P gl ph N r n0 B k takes o σ ρ pa ⟨env,H,lk,df⟩:=by
 obtain ⟨z1,z2⟩:=lents_zip hL;have hkl:ksOk (CK.raw::wD σ.ks lent) (v::joinL out)=true:=by simp [ksOk,kOk,hc.2]
 have hr1:=hr.push hkl (by simp only [tops,e1,e2];rfl)
 have hr2:=back_ok (ns:=ns) (l:=lent) (out:=out) (i:=σ.ks.length+1) (x:=ρ++[v]) (y:=[]) hr1 z2 z1 p4 hc.1 (ks_unl hc.2 (ckLent_ne hL)) (by simp) (by simp [hr.kl]) hr1.top
 have hE:evLent (ρ++v::joinL out) lent=evLent ρ lent:=by
  have key:∀ {ns:List Nat} {l:List (List C×TypeId)},zcS σ ns l->evLent (ρ++v::joinL out) l=evLent ρ l:=by
   intro ns l
   induction l generalizing ns with
   | nil=>intro _;rfl
   | cons x l ih =>
    obtain ⟨cs,ty⟩:=x;intro hh;cases ns with
    | nil=>exact hh.elim
    | cons a ns =>
     simp only [evLent,ih hh.2.2];have a1:=hr.here.blks _ _ _ hh.1;have a2:=(hr.ext (ρ++v::joinL out) pa (zAq _ _) (zAI _)).blks _ _ _ hh.1;rw [a1] at a2;simp only [zAA,Blk.cells.injEq,zBn] at a2;have b1:=(ko (pa:=pa) hr.here.ks hr.top hh.2.1).2.2 [];have b2:=(ko (σ:={ σ with ks:=σ.ks }) (pa:=pa) (ρ:=ρ++v::joinL out) (hr.ext (ρ++v::joinL out) pa (zAq _ _) (zAI _)).ks hr1.top hh.2.1).2.2 []
     rw [b1,b2,a2]
  exact key hL
 rw [hE] at hr2;have hat:at' (ρ++v::joinL out) σ.ks.length=v:=by rw [<- hr.kl,yb];simp
 have hpre:ρ <+: ρ++v::joinL out:=zAq _ _;have hlt:σ.ks.length<(ρ++v::joinL out).length:=by rw [<- hr.kl];simp
 unfold zj8 at ht0;split at ht0
 ·refine ⟨_,_,_,pa,t0,.val v,_,v,ht0,hq,hpre,zAI _,hr2,hrun,.inl rfl,fun ρ'' pa'' f1 f2 v' hv'=>?_,fun b hb=>(hno b hb).elim⟩;cases hv';simp only [evSC,evC];rw [wk f1 hlt,hat]
 ·obtain ⟨ks',sc,ρ',t',g1,g2,g3,g4,g5,g6⟩:=zar ht0 hr2 (by simp) hq
  refine ⟨_,_,ρ',pa,t',.val v,_,v,g1,g2,hpre.trans g3,zAI _,g4,hrun,.inl rfl,fun ρ'' pa'' f1 f2 v' hv'=>?_,fun b hb=>(hno b hb).elim⟩;cases hv';rw [g5 ρ'' pa'' f1,hat]
 ·split at ht0
  ·rename_i ks hks;split at ht0
   ·rename_i t1 ht1;cases ht0;simp only [evT] at hq;split at hq
    ·rename_i cs hcs;rw [hat] at hcs;rw [cond_eq_ite] at hq;split at hq
     ·rename_i hk;have htop:tops cs=0:=by rw [hcs] at e1;exact e1
      have hr3:=hr2.push hk htop;have hkl2:cs.length=tys.length:=by rw [ksOk_len hk,kTup_len hks]
      obtain ⟨ks',ys,ρ',t',g1,g2,g3,g4,g5⟩:=zcs ht1 hr3 (by simp [kTup_len hks];omega) hq
      refine ⟨_,_,ρ',pa,t',.val v,_,v,g1,g2,(hpre.trans (zAq _ _)).trans g3,zAI _,g4,hrun,.inl rfl,fun ρ'' pa'' f1 f2 v' hv'=>?_,fun b hb=>(hno b hb).elim⟩;cases hv';simp only [zA7,g5 ρ'' pa'' f1,hcs]
      congr 1
      rw [<- hkl2];have hx:(ρ++v::joinL out).length=(σ.ks++CK.raw::wD σ.ks lent).length:=hr2.kl;rw [hcs] at hx;apply zBP;intro j
      by_cases hj:j<cs.length
      ·simp only [zAY,List.getElem?_range' hj,zAa,yb,Nat.one_mul];rw [<- hx,zAP (Nat.le_add_right _ _)];simp [hj]
      ·rw [zAk (by simp;omega),zAk (by omega)]
     ·cases hq
    ·cases hq
   ·cases ht0
  ·cases ht0
theorem zoW {f:FuncId} {args:Array Operand} {ts:Array TypeId} (hph:zm7 P gl ph) (h:zj9 P σ f args.toList k=some t) (hr:Rel n0 B ρ pa σ ⟨env,H,lk,df⟩) (hq:evT ph gl N t ρ=some r) :
  Step P gl ph N r n0 B k takes ⟨dst,.call ⟨.value (.func f),args,ts⟩,type,pos,after,guard⟩ σ ρ pa ⟨env,H,lk,df⟩:=by
 unfold zj9 at h;split at h
 ·rename_i fn vs ns hfn hpk;split at h
  ·rename_i body lent hbody hlent;obtain ⟨vals,p1,p2,_,p4⟩:=pks_ok hr hpk (by simp)
   have hL:=lentB_ok hlent;split at h
   ·rename_i t0 ht0;cases h;simp only [evT] at hq;split at hq
    ·rename_i v out hv;rw [cond_eq_ite] at hq;split at hq
     ·rename_i hc;simp only [zAC] at hc;obtain ⟨e1,e2,e3,e4⟩:=hph _ _ _ _ _ hv;obtain ⟨k0,e4⟩:=e4 (ns.map (pd pa)) H (zh4 hr p4 (zd4 hr hL)) (zd3 hr hL);refine zfm (fun b=>zls) hL p4 e1 e2 hc hr ht0 hq ⟨k0,fun n hn=>?_⟩;have:=e4 n hn;rw [<- p2] at this;rw [zc9,p1,yN,zw hfn hbody this,zv]
     ·cases hq
    ·cases hq
   ·cases h
  ·cases h
 ·cases h
def SvEv (ρ:List V) (pa:List Nat):List SV->List V->Prop
 | [],[]=>True
 | sv::svs,w::ws=>qp ρ pa sv=some w/\clr w=w/\SvEv ρ pa svs ws
 | _,_=>False
theorem SvEv.app:∀ {a:List SV} {x:List V} {b:List SV} {y:List V},SvEv ρ pa a x->SvEv ρ pa b y->SvEv ρ pa (a++b) (x++y)
 | [],[],_,_,_,h=>h
 | _::_,_::_,_,_,h1,h=>⟨h1.1,h1.2.1,h1.2.2.app h⟩
 | [],_::_,_,_,h,_=>h.elim
 | _::_,[],_,_,h,_=>h.elim
theorem zh5 (hr:Rel n0 B ρ pa σ ⟨env,H,lk,df⟩):∀ {xs:List Operand} {svs:List SV},zj7 σ xs=some svs->∃ ws,peeks env xs=some ws/\SvEv ρ pa svs ws
 | [],svs,h=>by cases h;exact ⟨[],rfl,trivial⟩
 | x::xs,svs,h=>by
  simp only [zj7] at h;split at h
  ·rename_i sv vs h1 h2;cases h;obtain ⟨w,e1,e2⟩:=kj hr.here h1;obtain ⟨ws,e3,e4⟩:=zh5 hr h2;exact ⟨w::ws,by simp only [peeks,e1,zI,e3],e2,pks_ok.peek_clr e1,e4⟩
  ·cases h
theorem capsEv:∀ {cs:List C},allP cs=true->SvEv ρ pa (cs.map fun c=>.val (.one c)) (evCs ρ pa cs)
 | [],_=>trivial
 | c::cs,h=>by
  cases c<;>simp only [allP,zAH] at h;exact ⟨rfl,rfl,capsEv h⟩
theorem zdj (hr:Rel n0 B ρ pa σ ⟨env,H,lk,df⟩):∀ {svs:List SV} {ws:List V} {ns ns':List Nat} {vs:List AS},zlh σ ns svs=some (vs,ns')->SvEv ρ pa svs ws->ns.Nodup ->
  ws.map clr=(evAs ρ vs).map (wz (ns'.map (pd pa)))/\ns <+: ns'/\ns'.Nodup
 | [],[],ns,ns',vs,h,_,hn=>by cases h;exact ⟨rfl,zAI _,hn⟩
 | x::xs,w::ws,ns,ns',vs,h,hw,hn=>by
  obtain ⟨e0,hcl,hw⟩:=hw;simp only [zlh] at h;split at h
  ·rename_i a off;simp only [qp,evSC,evC,zAA] at e0;subst e0;have pt:∀ (ns':List Nat) (j:Nat),nth ns' j=some a->wz (ns'.map (pd pa)) (.p j off)=.ptr (pd pa a) off:=fun ns' j hj=>by
    simp only [wz,pd,nth_map,hj,zAa]
   split at h
   ·rename_i j hj;split at h
    ·rename_i vs' ns1 hxs;cases h;obtain ⟨h2,h3,h4⟩:=zdj hr hxs hw hn;refine ⟨?_,h3,h4⟩;obtain ⟨y,rfl⟩:=h3;simp only [zAz,evAs,evA,clr,h2];rw [pt _ j (nth_app (za0 hj))]
    ·cases h
   ·rename_i hj;split at h
    ·rename_i vs' ns1 hxs;cases h
     obtain ⟨h2,h3,h4⟩:=zdj hr hxs hw (by
      rw [List.nodup_append]
      exact ⟨hn,by simp,fun b hb c hc=>by simp at hc;subst hc;intro e;subst e;exact za1 hj hb⟩)
     refine ⟨?_,pks_ok.pre_nat h3,h4⟩;obtain ⟨y,rfl⟩:=h3;simp only [zAz,evAs,evA,clr,h2];rw [pt _ ns.length (nth_app (by simp [zd]))]
    ·cases h
  ·rename_i v hv;split at h
   ·rename_i vs' ns1 hd hxs;cases h;obtain ⟨h2,h3,h4⟩:=zdj hr hxs hw hn;simp only [qp,zAA] at e0;subst e0;refine ⟨?_,h3,h4⟩;simp only [zAz,evAs,evA,wz,h2];rw [(vf (pa:=pa) hr.here.ks hr.top hd).2 [],hcl]
   ·cases h
  ·cases h
 | [],_::_,_,_,_,_,h,_=>h.elim
 | _::_,[],_,_,_,_,h,_=>h.elim
theorem zjg {x:Tmp} {args:Array Operand} {ts:Array TypeId} {b:Nat} (h:qY takes σ ⟨dst,.call ⟨.value (.tmp x),args,ts⟩,type,pos,after,guard⟩=some (.wr b)):False:=by
 simp only [qY] at h;cases h
theorem zm8 {x:Tmp} {args:Array Operand} {ts:Array TypeId} (hph:zm7 P gl ph) (h:zjb P σ (.tmp x) args.toList k=some t) (hr:Rel n0 B ρ pa σ ⟨env,H,lk,df⟩) (hq:evT ph gl N t ρ=some r) :
  Step P gl ph N r n0 B k takes ⟨dst,.call ⟨.value (.tmp x),args,ts⟩,type,pos,after,guard⟩ σ ρ pa ⟨env,H,lk,df⟩:=by
 unfold zjb at h;split at h
 ·rename_i f cs svs hfv hsvs;obtain ⟨fv,f1,f2⟩:=kj hr.here hfv;simp only [qp,zAA] at f2;subst f2;obtain ⟨ws,w1,w2⟩:=zh5 hr hsvs;split at h
  ·cases h
  rename_i hall;simp only [zAn,zBY] at hall;split at h
  ·rename_i fn vs ns hfn hpk;split at h
   ·rename_i body lent hbody hlent;obtain ⟨p2,_,p4⟩:=zdj hr hpk (w2.app (capsEv hall)) (by simp)
    have hL:=lentB_ok hlent;split at h
    ·rename_i t0 ht0;cases h;simp only [evT] at hq;split at hq
     ·rename_i v out hv;rw [cond_eq_ite] at hq;split at hq
      ·rename_i hc;simp only [zAC] at hc;obtain ⟨e1,e2,e3,e4⟩:=hph _ _ _ _ _ hv;obtain ⟨k0,e4⟩:=e4 (ns.map (pd pa)) H (zh4 hr p4 (zd4 hr hL)) (zd3 hr hL);refine zfm (fun b=>zjg) hL p4 e1 e2 hc hr ht0 hq ⟨k0,fun n hn=>?_⟩;have:=e4 n hn;rw [<- p2] at this;simp only [Cx.op,f1,w1,Cx.callV,fL_eq,zA7];rw [zw hfn hbody this]
      ·cases hq
     ·cases hq
    ·cases h
   ·cases h
  ·cases h
 ·cases h
theorem zgB (hr:PRel ρ pa σ env H):∀ {xs:List Operand} {cs:List C},zmK σ xs=some cs->peeks env xs=some (evCs ρ pa cs)
 | [],cs,h=>by cases h;rfl
 | x::xs,cs,h=>by
  simp only [zmK] at h;split at h
  ·rename_i a off cs' h1 h2;cases h;have e1:=zX hr h1;simp only [peeks,e1,zI,zgB hr h2,evCs]
  ·cases h
theorem zh6 {f:Fn} {first cap:Array Operand} {cs:List C} (hf:first.toList=[]) (hcs:zmK σ cap.toList=some cs) (h:k σ (.fn f cs)=some t) (hr:Rel n0 B ρ pa σ ⟨env,H,lk,df⟩) (hq:evT ph gl N t ρ=some r) :
  Step P gl ph N r n0 B k takes ⟨dst,.makeFunc f first cap,type,pos,after,guard⟩ σ ρ pa ⟨env,H,lk,df⟩:=by
 have e1:=zgB hr.here hcs;refine ⟨σ,.fn f cs,ρ,pa,t,.val (.fn f [] (evCs ρ pa cs)),⟨env,H,lk,df⟩,.fn f [] (evCs ρ pa cs),h,hq,zAI _,zAI _,hr,⟨0,fun n _=>?_⟩,.inl rfl,fun ρ'' pa'' g1 g2 v' hv'=>?_,fun b hb=>?_⟩
 ·simp [Cx.op,zD,hf,e1,peeks]
 ·have e2:=zgB (hr.ext ρ'' pa'' g1 g2) hcs;rw [e1] at e2;simp only [qp,zAA] at hv';rw [<- hv',zAr e2]
 ·simp only [qY] at hb;cases hb
end Go.Vm.Sx
namespace Go.Vm.Sx
set_option linter.unusedSectionVars false
open Go Go.Vm
variable {P:Program} {gl:Gl} {ph:PH} {N:Nat} {r:Nat×List V} {ρ ρ':List V} {pa pa':List Nat} {σ:Sg} {s:St} {n0:Nat} {B:List Blk} {env:List V} {H:Hp} {lk:List (Nat×Nat)} {df:List (V×List V)} {takes:List Tmp} {k:KT} {t:Tree}
variable [NoU gl]
structure Env (P:Program) (gl:Gl) (ph:PH):Prop where
 top:∀ g off v,gl g off=some v->v.top=0
 calls:zm7 P gl ph
theorem zgC (hr:PRel ρ pa σ env H) {x:Operand} {f:Fn} {cs:List C} (h:zqk σ x=some (f,cs)):take env x=some (.fn f [] (evCs ρ pa cs),env):=by
 cases x with
 | tmp tt =>
  simp only [zqk] at h;split at h
  ·rename_i f' cs' hs;cases h;obtain ⟨_,v,h1,h2⟩:=zbv hr hs;cases h2;simp only [take,h1,clr]
  ·cases h
 | _=>cases h
theorem zm9 (he:Env P gl ph) {o:Oper} (h:xOp P takes σ o k=some t) (hr:Rel n0 B ρ pa σ ⟨env,H,lk,df⟩) (hq:evT ph gl N t ρ=some r) (hpl:zlj takes o=true) :
  Step P gl ph N r n0 B k takes o σ ρ pa ⟨env,H,lk,df⟩:=by
 obtain ⟨dst,op,type,pos,after,guard⟩:=o;have pure:wJ P σ op k=some t->zO takes dst=false->Step P gl ph N r n0 B k takes ⟨dst,op,type,pos,after,guard⟩ σ ρ pa ⟨env,H,lk,df⟩:=fun h ht=>yB (o:=⟨dst,op,type,pos,after,guard⟩) h hr hq ht;have tk:(∀ x,op≠.move x)->(∀ x,op≠.assign x)->(∀ t a,op≠.load t a)->(∀ c,op≠.call c)->zO takes dst=false:=fun h1 h2 h3 h4=>by
  simp only [zlj] at hpl;cases hh:zO takes dst with
  | false=>rfl
  | true =>
   rw [hh] at hpl;cases op<;>first|(cases hpl;done)|exact absurd rfl (h1 _)|exact absurd rfl (h2 _)|exact absurd rfl (h3 _ _)
 cases op
 case move x =>
  cases ht:zO takes dst with
  | true =>
   simp only [xOp,ht] at h;cases dst with
   | none=>cases ht
   | some d=>exact take_ok h hr hq fun cx=>zhQ ht
  | false =>
   simp only [xOp,ht] at h;exact pure h ht
 case assign x =>
  simp only [xOp] at h;split at h
  ·rename_i f cs hf;refine zG h hq (zAI _) hr (v:=.fn f [] (evCs ρ pa cs)) (fun n=>?_) (fun ρ'' pa'' e1 e2 v' hv'=>?_)
   ·rw [zap,zgC hr.here hf];rfl
   ·cases hv';have:=zgC (hr.ext ρ'' pa'' e1 e2) hf;rw [zgC hr.here hf] at this;simp only [zAA,zAD,zBn] at this;exact this.symm
  ·exact take_ok h hr hq fun cx=>zap
 case pick c a b=>exact zoR h hr hq (tk (by intros;simp) (by intros;simp) (by intros;simp) (by intros;simp))
 case load tt a =>
  cases ht:zO takes dst with
  | true =>
   cases dst with
   | none=>cases ht
   | some d=>exact zm2 h hr hq ht
  | false =>
   cases a with
   | global g=>exact zoV he.top h hr hq ht
   | _=>simp only [xOp,ht] at h;exact pure h ht
 case alloc tt=>exact alloc_ok h hr hq
 case box tt x=>exact box_ok h hr hq
 case store tt a x=>exact store_ok h hr hq
 case binOp op tt x y u=>exact zqp h hr hq (tk (by intros;simp) (by intros;simp) (by intros;simp) (by intros;simp))
 case convert a b x=>exact zoS h hr hq (tk (by intros;simp) (by intros;simp) (by intros;simp) (by intros;simp))
 case indexAddr tt x ix=>exact zm3 h hr hq (tk (by intros;simp) (by intros;simp) (by intros;simp) (by intros;simp))
 case index tt x ix=>exact zm4 h hr hq (tk (by intros;simp) (by intros;simp) (by intros;simp) (by intros;simp))
 case slice tt x lo hi mx=>exact zm5 h hr hq
 case buildSlice tt len ps=>exact zlq h hr hq
 case makeInterface tt x=>exact zoU h hr hq
 case call c =>
  obtain ⟨callee,args,ats⟩:=c;simp only [xOp] at h;split at h
  ·rename_i x y tt u h1 h2;split at h
   ·rename_i hb;obtain rfl:=qJ hb;obtain rfl:args=#[x,y]:=by apply Array.toList_inj.1;simpa using h1
    exact append_ok (by apply Array.toList_inj.1;simpa using h2) h hr hq
   ·cases h
  ·rename_i hne;refine pure h ?_;simp only [zlj] at hpl;cases hh:zO takes dst with
   | false=>rfl
   | true =>
    rw [hh] at hpl;simp only at hpl;split at hpl
    ·rename_i k1 k2 k3;exact (hne _ _ _ _ k2 k3 (by injection k1)).elim
    ·cases hpl
  ·exact zoW he.calls h hr hq
  ·exact zm8 he.calls h hr hq
  ·cases h
 case makeFunc f first cap =>
  simp only [xOp] at h;split at h
  ·rename_i cs hf hcs;exact zh6 hf hcs h hr hq
  ·cases h
 all_goals exact pure (by simpa only [xOp] using h) (tk (by intros;simp) (by intros;simp) (by intros;simp) (by intros;simp))
theorem zkl {cx:Cx} {all:Array Oper} {o:Oper} {os:List Oper} {x:OR} {v:V} {s':St} (hw:zq all o env=some true) (ho:cx.op takes o env H lk df=some (x,s')) (hx:zoQ x v) :
  cx.ops all takes (o::os) ⟨env,H,lk,df⟩=cx.ops all takes os ⟨putA s'.env o.dst v,s'.H,s'.lk,s'.defers⟩:=by
 simp only [Cx.ops,hw,ho];rcases hx with rfl|⟨rfl,rfl⟩<;>simp only [zS]
def zlt (ρ:List V) (pa:List Nat) (w:Option Bool):Gd->Prop
 | .yes=>w=some true
 | .no=>w=some false
 | .sym c=>∃ b,w=some b/\∀ ρ'' pa'',ρ <+: ρ''->pa <+: pa''->evB ρ'' c=b
theorem zkm {g:Gd} {tt:TB} {b:Bool} (h:zoL σ.as tt=some g) (hr:Rel n0 B ρ pa σ s) (hb:∀ ρ'' pa'',ρ <+: ρ''->pa <+: pa''->evB ρ'' tt=b):zlt ρ pa (some b) g:=by
 have h0:=hb ρ pa (zAI _) (zAI _);unfold zoL at h;split at h
 ·rename_i hk;cases h;simp only [zlt,<- h0,qW hr.here.as hk]
 ·rename_i hk;cases h;simp only [zlt,<- h0,qW hr.here.as hk]
 ·cases h;exact ⟨_,rfl,hb⟩
theorem guard_ok {all:Array Oper} {o:Oper} {g:Gd} (h:zgt σ all o=some g) (hr:Rel n0 B ρ pa σ ⟨env,H,lk,df⟩):zlt ρ pa (zq all o env) g:=by
 unfold zgt at h;unfold zq;split at h
 ·rename_i hg;cases h;simp only [hg,zlt]
 ·rename_i j want hg;simp only [hg];split at h
  ·cases h
  ·rename_i d hd;simp only [hd];split at h
   ·rename_i l hs;cases h;have:=hr.here.env _ _ _ hs rfl;simp only [evSC,evC] at this;simp only [this,zlt]
   ·rename_i c hn hs;split at h
    ·rename_i tt ht;have hv:∀ ρ'' pa'',ρ <+: ρ''->pa <+: pa''->nth env d=some (.bool (evB ρ'' tt)):=fun ρ'' pa'' e1 e2=>by
      have:=(hr.ext ρ'' pa'' e1 e2).env _ _ _ hs rfl;simp only [evSC] at this;rw [yd (pa:=pa'') (hr.ext ρ'' pa'' e1 e2).ks ht] at this;exact this
     have h0:=hv ρ pa (zAI _) (zAI _);have hst:∀ ρ'' pa'',ρ <+: ρ''->pa <+: pa''->evB ρ'' tt=evB ρ tt:=fun ρ'' pa'' e1 e2=>by
      have:=(hv ρ'' pa'' e1 e2).symm.trans h0;simpa using this
     have hw:∀ ρ'' pa'',ρ <+: ρ''->pa <+: pa''->evB ρ'' (zfh want tt)=(evB ρ tt == want):=fun ρ'' pa'' e1 e2=>by
      have:=hst ρ'' pa'' e1 e2;cases want<;>simp [zfh,qK,this]
     simp only [h0];exact zkm h hr hw
    ·cases h
   ·rename_i g c hs;split at h
    ·rename_i tt ht;have hv:∀ ρ'' pa'',ρ <+: ρ''->pa <+: pa''->nth env d=some (bif evB ρ'' g then .bool (evB ρ'' tt) else .tup []):=fun ρ'' pa'' e1 e2=>by
      have:=(hr.ext ρ'' pa'' e1 e2).env _ _ _ hs rfl;simp only [evSC] at this;rw [yd (pa:=pa'') (hr.ext ρ'' pa'' e1 e2).ks ht] at this;exact this
     have h0:=hv ρ pa (zAI _) (zAI _);have hst:∀ ρ'' pa'',ρ <+: ρ''->pa <+: pa''->evB ρ'' g=evB ρ g/\(evB ρ g=true->evB ρ'' tt=evB ρ tt):=fun ρ'' pa'' e1 e2=>by
      have:=(hv ρ'' pa'' e1 e2).symm.trans h0;cases h1:evB ρ'' g<;>cases h2:evB ρ g<;>rw [h1,h2] at this<;>simp at this ⊢;exact this
     have hw:∀ ρ'' pa'',ρ <+: ρ''->pa <+: pa''->evB ρ'' (xL g (zfh want tt))=(evB ρ g && (evB ρ tt == want)):=fun ρ'' pa'' e1 e2=>by
      have h1:=(hst ρ'' pa'' e1 e2).1;have h2:=(hst ρ'' pa'' e1 e2).2;rw [vC,h1];cases hg:evB ρ g with
      | false=>rfl
      | true=>have:=h2 hg;cases want<;>simp [zfh,qK,this]
     have hwant:(match (some (bif evB ρ g then V.bool (evB ρ tt) else .tup []):Option V) with|some (.bool b)=>some (b == want)|some (.tup _)=>some false|_=>none)=some (evB ρ g && (evB ρ tt == want)):=by
      cases evB ρ g<;>rfl
     simp only [h0];have:=zkm h hr hw;rw [<- hwant] at this;exact this
    ·cases h
   ·cases h
theorem zbE (he:Env P gl ph) {all:Array Oper} {kk:Sg->Option Tree}:∀ {os:List Oper} {σ:Sg} {ρ:List V} {pa:List Nat} {s:St} {t:Tree},zeW P all takes kk os σ=some t->Rel n0 B ρ pa σ s->evT ph gl N t ρ=some r ->
  ∃ σ' ρ' pa' t' s',kk σ'=some t'/\evT ph gl N t' ρ'=some r/\ρ <+: ρ'/\pa <+: pa'/\Rel n0 B ρ' pa' σ' s'/\∃ k0,∀ n,k0<=n->Cx.ops ⟨P,gl,zk P gl n,gl.uq⟩ all takes os s=some (.normal,s')
 | [],σ,ρ,pa,s,t,h,hr,hq=>⟨σ,ρ,pa,t,s,h,hq,zAI _,zAI _,hr,0,fun n _=>rfl⟩
 | o::os,σ,ρ,pa,⟨env,H,lk,df⟩,t,h,hr,hq=>by
  have run:∀ {σ0:Sg} {ρ0:List V} {t0:Tree},zlj takes o=true->zq all o env=some true->Rel n0 B ρ0 pa σ0 ⟨env,H,lk,df⟩->ρ <+: ρ0->xOp P takes σ0 o (fun σ v=>zeW P all takes kk os (putS σ o.dst v))=some t0->evT ph gl N t0 ρ0=some r ->
    ∃ σ' ρ' pa' t' s',kk σ'=some t'/\evT ph gl N t' ρ'=some r/\ρ <+: ρ'/\pa <+: pa'/\Rel n0 B ρ' pa' σ' s'/\∃ k0,∀ n,k0<=n->Cx.ops ⟨P,gl,zk P gl n,gl.uq⟩ all takes (o::os) ⟨env,H,lk,df⟩=some (.normal,s'):=by
   intro σ0 ρ0 t0 htk hw hr0 hpre h0 hq0;obtain ⟨σ1,sv,ρ1,pa1,t1,x,s1,v,g1,g2,g3,g4,g5,⟨k1,g6⟩,g7,g8,_⟩:=zm9 he h0 hr0 hq0 htk;obtain ⟨env1,H1,lk1,df1⟩:=s1;have g5':=g5.putS (d:=o.dst) (sv:=sv) (v:=v) g8;obtain ⟨σ',ρ',pa',t',s',f1,f2,f3,f4,f5,k2,f6⟩:=zbE he g1 g5' g2;refine ⟨σ',ρ',pa',t',s',f1,f2,(hpre.trans g3).trans f3,g4.trans f4,f5,max k1 k2,fun n hn=>?_⟩;rw [zkl hw (g6 n (by omega)) g7]
   exact f6 n (by omega)
  have skip:∀ {σ0:Sg} {ρ0:List V} {t0:Tree},zq all o env=some false->Rel n0 B ρ0 pa σ0 ⟨env,H,lk,df⟩->ρ <+: ρ0->zeW P all takes kk os (putS σ0 o.dst tup0)=some t0->evT ph gl N t0 ρ0=some r ->
    ∃ σ' ρ' pa' t' s',kk σ'=some t'/\evT ph gl N t' ρ'=some r/\ρ <+: ρ'/\pa <+: pa'/\Rel n0 B ρ' pa' σ' s'/\∃ k0,∀ n,k0<=n->Cx.ops ⟨P,gl,zk P gl n,gl.uq⟩ all takes (o::os) ⟨env,H,lk,df⟩=some (.normal,s'):=by
   intro σ0 ρ0 t0 hw hr0 hpre h0 hq0;have g5':=hr0.putS (d:=o.dst) (sv:=tup0) (v:=.tup []) (fun _ _ _ _ v' hv'=>by cases hv';rfl)
   obtain ⟨σ',ρ',pa',t',s',f1,f2,f3,f4,f5,k2,f6⟩:=zbE he h0 g5' hq0;refine ⟨σ',ρ',pa',t',s',f1,f2,hpre.trans f3,f4,f5,k2,fun n hn=>?_⟩;simp only [Cx.ops,hw,zS];exact f6 n hn
  simp only [zeW] at h;split at h
  ·cases h
  ·rename_i htk;simp only [zAn,zBY] at htk;split at h
   ·cases h
   ·rename_i hg;exact skip (guard_ok hg hr) hr (zAI _) h hq
   ·rename_i hg;exact run htk (guard_ok hg hr) hr (zAI _) h hq
   ·rename_i c hg;obtain ⟨b,hw,hb⟩:=guard_ok hg hr;split at h
    ·rename_i x hd hx;cases b with
     | true =>
      have hr1:=hr.cond (c:=c) hb;have hdst:zO takes o.dst=false:=by
       cases hdd:o.dst with
       | none=>rfl
       | some d=>rw [hdd] at hd;simpa using hd
      obtain ⟨v,e1,e2⟩:=zbw (gl:=gl) (lk:=lk) (df:=df) (takes:=takes) hr1.here hdst hx;have e3:∀ ρ'' pa'',ρ <+: ρ''->pa <+: pa''->evSC ρ'' pa'' x=v:=fun ρ'' pa'' f1 f2=>by
       obtain ⟨w,e4,e5⟩:=zbw (gl:=gl) (lk:=lk) (df:=df) (takes:=takes) (hr1.ext ρ'' pa'' f1 f2) hdst hx;have:=(e1 (zk P gl 0) gl.uq).symm.trans (e4 (zk P gl 0) gl.uq);simp only [zAA,zAD,OR.val.injEq] at this;cases e5;exact this.1.symm
      have g5':=hr.putS (d:=o.dst) (sv:=.gd c x) (v:=v) (fun ρ'' pa'' f1 f2 v' hv'=>by
       simp only [qp,hb ρ'' pa'' f1 f2,cond_true,zAA] at hv'
       rw [<- hv',e3 ρ'' pa'' f1 f2])
      obtain ⟨σ',ρ',pa',t',s',f1,f2,f3,f4,f5,k2,f6⟩:=zbE he h g5' hq;refine ⟨σ',ρ',pa',t',s',f1,f2,f3,f4,f5,k2,fun n hn=>?_⟩;rw [zkl hw (e1 _ _) (.inl rfl)];exact f6 n hn
     | false =>
      have g5':=hr.putS (d:=o.dst) (sv:=.gd c x) (v:=.tup []) (fun ρ'' pa'' f1 f2 v' hv'=>by
       simp only [qp,hb ρ'' pa'' f1 f2,cond_false,zAA] at hv'
       exact hv'.symm)
      obtain ⟨σ',ρ',pa',t',s',f1,f2,f3,f4,f5,k2,f6⟩:=zbE he h g5' hq;refine ⟨σ',ρ',pa',t',s',f1,f2,f3,f4,f5,k2,fun n hn=>?_⟩;simp only [Cx.ops,hw,zS];exact f6 n hn
    ·obtain ⟨ta,tb,h1,h2,h3⟩:=zbC h hq;have h0:=hb ρ pa (zAI _) (zAI _);rcases h3 with ⟨h3,h4⟩|⟨h3,h4⟩
     ·rw [h0] at h3;subst h3;exact run htk hw (hr.cond hb) (zAI _) h1 h4
     ·rw [h0] at h3;subst h3;exact skip hw (hr.cond (c:=mkNot c) fun ρ'' pa'' f1 f2=>by rw [qK,hb ρ'' pa'' f1 f2];rfl) (zAI _) h2 h4
end Go.Vm.Sx
namespace Go.Vm.Sx
set_option linter.unusedSectionVars false
open Go Go.Vm
variable {P:Program} {gl:Gl} {ph:PH} {N:Nat} {r:Nat×List V} {ρ ρ':List V} {pa pa':List Nat} {σ σ' σJ:Sg} {s:St} {n0:Nat} {B:List Blk} {env:List V} {H:Hp} {lk:List (Nat×Nat)} {df:List (V×List V)} {takes:List Tmp} {k:KT} {t:Tree}
variable [NoU gl]
theorem zoX {ck:CK} {v:V} (h:kOk ck v=true):kOk ck (clr v)=true:=by
 cases v with
 | sl sz xs o =>
  cases ck<;>simp only [kOk,zAH,zAC] at h<;>simp [kOk,clr,oneV,locked];exact qJ h.1
 | _=>exact h
theorem zna (hk:∀ i k,nth σ.ks i=some k->kOk k (at' ρ i)=true) {ck:CK} {c:C} (h:zdW σ.ks ck c=true):kOk ck (evC ρ pa c)=true:=by
 cases c with
 | k v=>exact h
 | v i cl =>
  simp only [zdW] at h;split at h
  ·rename_i k' hn;have:=zc2 h;subst this;cases cl
   ·exact hk _ _ hn
   ·exact zoX (hk _ _ hn)
  ·cases h
 | i k t =>
  simp only [zdW] at h;split at h
  ·have:=zc2 h;subst this;simp [kOk,evC]
  ·cases h
 | b t=>simp only [zdW] at h;split at h<;>first|rfl|cases h
 | s t=>simp only [zdW] at h;split at h<;>first|rfl|cases h
 | sl sz t o =>
  simp only [zdW] at h;split at h
  ·simp only [zAC] at h;simp only [kOk,evC,h.1,zBD,zAn];cases o<;>first|rfl|(simp at h)
  ·cases h
 | p a off=>cases h
 | lkd i=>cases h
structure FitOk (kJ:List CK) (nxt:Nat) (x:List V):Prop where
 top:tops x=0
 ks:∀ j,j<x.length->∃ ck v,nth kJ (nxt+j)=some ck/\nth x j=some v/\kOk ck v=true
theorem FitOk.nil {kJ:List CK} {nxt:Nat}:FitOk kJ nxt []:=⟨rfl,fun j h=>by simp at h⟩
theorem FitOk.app {kJ:List CK} {nxt:Nat} {x y:List V} (h1:FitOk kJ nxt x) (h2:FitOk kJ (nxt+x.length) y):FitOk kJ nxt (x++y):=by
 refine ⟨by rw [jl,h1.top,h2.top];rfl,fun j hj=>?_⟩
 by_cases h:j<x.length
 ·obtain ⟨ck,v,a,b,c⟩:=h1.ks j h;exact ⟨ck,v,a,nth_app b,c⟩
 ·obtain ⟨ck,v,a,b,c⟩:=h2.ks (j - x.length) (by simp at hj;omega)
  refine ⟨ck,v,by rw [show nxt+j=nxt+x.length+(j - x.length) by omega];exact a,?_,c⟩
  rw [zd] at b ⊢;rw [zAP (by omega)];exact b
variable {na base:Nat} {kJ:List CK}
theorem zkn (hp:PRel ρ' pa' σ' env H) (ht:tops ρ'=0) (h1:ρ <+: ρ') (hb:ρ.length=base) (h2:pa <+: pa') (hna:pa.length=na) {nxt:Nat} {cJ c:C} {x:List C} (h:zoM na base nxt kJ σ'.ks cJ c=some x) :
  FitOk kJ nxt (evCs ρ' [] x)/\∀ pre post pa'',base+pre.length=nxt->pa <+: pa''->evC (ρ++pre++evCs ρ' [] x++post) pa'' cJ=evC ρ' pa' c:=by
 subst hb hna;have keep:∀ {cJ:C},smC cJ c=true->ltC ρ.length cJ=true->(∀ a off,cJ=.p a off->a<pa.length)->∀ y pa'',pa <+: pa''->evC (ρ++y) pa'' cJ=evC ρ' pa' c:=by
  intro cJ hs hl hpp y pa'' hpa;obtain ⟨z,rfl⟩:=h1;rw [zmR y hl,<- zqm _ _ hs,zmR z hl];cases cJ with
  | p a off =>
   have:=hpp a off rfl;simp only [evC];rw [qj hpa this,qj h2 this]
  | v i cl=>cases cl<;>rfl
  | _=>rfl
 unfold zoM at h;split at h
 ·rename_i j;split at h
  ·rename_i hj;split at h
   ·rename_i hs;cases h;refine ⟨FitOk.nil,fun pre post pa'' _ hpa=>?_⟩;rw [zAc,zAc];exact keep hs hj (fun _ _ e=>by cases e) _ pa'' hpa
   ·cases h
  ·split at h
   ·rename_i ck hck;split at h
    ·rename_i hc;simp only [zAC] at hc;cases h;obtain ⟨⟨c1,c2⟩,c3⟩:=hc;obtain ⟨d1,d2,d3⟩:=xU (pa:=pa') hp.ks ht c3;refine ⟨⟨by simp only [evCs,tops,d3 [],d1];rfl,fun i hi=>?_⟩,fun pre post pa'' hpre _=>?_⟩
     ·simp only [evCs,List.length_singleton] at hi;obtain rfl:i=0:=by omega
      exact ⟨ck,evC ρ' [] c,by rw [zBf,<- qJ c1];exact hck,rfl,by rw [d3 []];exact zna hp.ks c2⟩
     ·have hjn:=qJ c1;subst hjn;simp only [evCs];rw [d3 []];show at' _ j=_;rw [yb,zAc,zAc,zAP (by omega),zAP (by omega)]
      have:j - ρ.length - pre.length=0:=by omega
      rw [this];rfl
    ·cases h
   ·cases h
 ·rename_i a off;split at h
  ·rename_i hs;simp only [zAC] at hs;cases h;refine ⟨FitOk.nil,fun pre post pa'' _ hpa=>?_⟩;rw [zAc,zAc];exact keep hs.1 rfl (fun _ _ e=>by cases e;exact zaB hs.2) _ pa'' hpa
  ·cases h
 ·rename_i hn1 hn2;split at h
  ·rename_i hs;simp only [zAC] at hs;cases h;refine ⟨FitOk.nil,fun pre post pa'' _ hpa=>?_⟩;rw [zAc,zAc];exact keep hs.1 hs.2 (fun _ _ e=>absurd e (hn2 _ _)) _ pa'' hpa
  ·cases h
theorem xX (hp:PRel ρ' pa' σ' env H) (ht:tops ρ'=0) (h1:ρ <+: ρ') (hb:ρ.length=base) (h2:pa <+: pa') (hna:pa.length=na):∀ {csJ cs:List C} {nxt:Nat} {x:List C},zdX na base nxt kJ σ'.ks csJ cs=some x ->
  FitOk kJ nxt (evCs ρ' [] x)/\∀ pre post pa'',base+pre.length=nxt->pa <+: pa''->evCs (ρ++pre++evCs ρ' [] x++post) pa'' csJ=evCs ρ' pa' cs
 | [],[],nxt,x,h=>by cases h;exact ⟨FitOk.nil,fun _ _ _ _ _=>rfl⟩
 | a::as,b::bs,nxt,x,h=>by
  simp only [zdX] at h;split at h
  ·rename_i x1 hx1;split at h
   ·rename_i x2 hx2;cases h;obtain ⟨a1,a2⟩:=zkn hp ht h1 hb h2 hna hx1;obtain ⟨b1,b2⟩:=xX hp ht h1 hb h2 hna hx2;have hx:evCs ρ' [] (x1++x2)=evCs ρ' [] x1++evCs ρ' [] x2:=by simp [zF]
    rw [hx];refine ⟨a1.app (by rw [zJ];exact b1),fun pre post pa'' hpre hpa=>?_⟩
    simp only [evCs];have e1:=a2 pre (evCs ρ' [] x2++post) pa'' hpre hpa;have e2:=b2 (pre++evCs ρ' [] x1) post pa'' (by simp [zJ];omega) hpa
    simp only [zAc] at e1 e2 ⊢;rw [e1,e2]
   ·cases h
  ·cases h
 | [],_::_,_,_,h=>by cases h
 | _::_,[],_,_,h=>by cases h
theorem zh7 (hp:PRel ρ' pa' σ' env H) (ht:tops ρ'=0) (h1:ρ <+: ρ') (hb:ρ.length=base) (h2:pa <+: pa') (hna:pa.length=na) {nxt:Nat} {cJ c:SC} {x:List C} (h:zkb na base nxt kJ σ'.ks cJ c=some x) :
  FitOk kJ nxt (evCs ρ' [] x)/\∀ pre post pa'',base+pre.length=nxt->pa <+: pa''->evSC (ρ++pre++evCs ρ' [] x++post) pa'' cJ=evSC ρ' pa' c:=by
 cases cJ<;>cases c<;>simp only [zkb,reduceCtorEq] at h
 ·exact zkn hp ht h1 hb h2 hna h
 ·obtain ⟨a,b⟩:=xX hp ht h1 hb h2 hna h;exact ⟨a,fun pre post pa'' e1 e2=>by simp only [evSC];rw [b pre post pa'' e1 e2]⟩
theorem zfn (hp:PRel ρ' pa' σ' env H) (ht:tops ρ'=0) (h1:ρ <+: ρ') (hb:ρ.length=base) (h2:pa <+: pa') (hna:pa.length=na):∀ {csJ cs:List SC} {nxt:Nat} {x:List C},zgv na base nxt kJ σ'.ks csJ cs=some x ->
  FitOk kJ nxt (evCs ρ' [] x)/\∀ pre post pa'',base+pre.length=nxt->pa <+: pa''->evSCs (ρ++pre++evCs ρ' [] x++post) pa'' csJ=evSCs ρ' pa' cs
 | [],[],nxt,x,h=>by cases h;exact ⟨FitOk.nil,fun _ _ _ _ _=>rfl⟩
 | a::as,b::bs,nxt,x,h=>by
  simp only [zgv] at h;split at h
  ·rename_i x1 hx1;split at h
   ·rename_i x2 hx2;cases h;obtain ⟨a1,a2⟩:=zh7 hp ht h1 hb h2 hna hx1;obtain ⟨b1,b2⟩:=zfn hp ht h1 hb h2 hna hx2;have hx:evCs ρ' [] (x1++x2)=evCs ρ' [] x1++evCs ρ' [] x2:=by simp [zF]
    rw [hx];refine ⟨a1.app (by rw [zJ];exact b1),fun pre post pa'' hpre hpa=>?_⟩
    simp only [evSCs];have e1:=a2 pre (evCs ρ' [] x2++post) pa'' hpre hpa;have e2:=b2 (pre++evCs ρ' [] x1) post pa'' (by simp [zJ];omega) hpa
    simp only [zAc] at e1 e2 ⊢;rw [e1,e2]
   ·cases h
  ·cases h
 | [],_::_,_,_,h=>by cases h
 | _::_,[],_,_,h=>by cases h
theorem znb (hp:PRel ρ' pa' σ' env H) (ht:tops ρ'=0) (h1:ρ <+: ρ') (hb:ρ.length=base) (h2:pa <+: pa') (hna:pa.length=na) {nxt:Nat} {cJ c:SV} {x:List C} (h:zfj na base nxt kJ σ'.ks cJ c=some x) :
  FitOk kJ nxt (evCs ρ' [] x)/\∀ pre post pa'' v,base+pre.length=nxt->pa <+: pa''->qp (ρ++pre++evCs ρ' [] x++post) pa'' cJ=some v->qp ρ' pa' c=some v:=by
 cases cJ with
 | unk=>cases h;exact ⟨FitOk.nil,fun _ _ _ _ _ _ h=>by cases h⟩
 | val a =>
  cases c<;>simp only [zfj,reduceCtorEq] at h;obtain ⟨e1,e2⟩:=zh7 hp ht h1 hb h2 hna h;exact ⟨e1,fun pre post pa'' v f1 f2 f3=>by cases f3;simp only [qp];rw [e2 pre post pa'' f1 f2]⟩
 | vp a =>
  cases c<;>simp only [zfj,reduceCtorEq] at h;obtain ⟨e1,e2⟩:=xX hp ht h1 hb h2 hna h;exact ⟨e1,fun pre post pa'' v f1 f2 f3=>by cases f3;simp only [qp];rw [e2 pre post pa'' f1 f2]⟩
 | tup a =>
  cases c<;>simp only [zfj,reduceCtorEq] at h;obtain ⟨e1,e2⟩:=zfn hp ht h1 hb h2 hna h;exact ⟨e1,fun pre post pa'' v f1 f2 f3=>by cases f3;simp only [qp];rw [e2 pre post pa'' f1 f2]⟩
 | gd g a=>cases c<;>cases h
 | fn f a =>
  cases c<;>simp only [zfj,reduceCtorEq] at h;split at h
  ·rename_i hf;subst hf;obtain ⟨e1,e2⟩:=xX hp ht h1 hb h2 hna h;exact ⟨e1,fun pre post pa'' v f1 f2 f3=>by cases f3;simp only [qp];rw [e2 pre post pa'' f1 f2]⟩
  ·cases h
theorem zfo (hp:PRel ρ' pa' σ' env H) (ht:tops ρ'=0) (h1:ρ <+: ρ') (hb:ρ.length=base) (h2:pa <+: pa') (hna:pa.length=na):∀ {eJ e:List SV} {nxt:Nat} {x:List C},zgw na base nxt kJ σ'.ks eJ e=some x ->
  eJ.length=e.length/\FitOk kJ nxt (evCs ρ' [] x)/\∀ pre post pa'',base+pre.length=nxt->pa <+: pa''->∀ i sv v,nth eJ i=some sv->qp (ρ++pre++evCs ρ' [] x++post) pa'' sv=some v->∃ sv',nth e i=some sv'/\qp ρ' pa' sv'=some v
 | [],[],nxt,x,h=>by cases h;exact ⟨rfl,FitOk.nil,fun _ _ _ _ _ i sv v h=>by simp [nth] at h⟩
 | a::as,b::bs,nxt,x,h=>by
  simp only [zgw] at h;split at h
  ·rename_i x1 hx1;split at h
   ·rename_i x2 hx2;cases h;obtain ⟨a1,a2⟩:=znb hp ht h1 hb h2 hna hx1;obtain ⟨b0,b1,b2⟩:=zfo hp ht h1 hb h2 hna hx2;have hx:evCs ρ' [] (x1++x2)=evCs ρ' [] x1++evCs ρ' [] x2:=by simp [zF]
    rw [hx];refine ⟨by simp [b0],a1.app (by rw [zJ];exact b1),fun pre post pa'' hpre hpa i sv v hi hv=>?_⟩
    have e1:=a2 pre (evCs ρ' [] x2++post) pa'';have e2:=b2 (pre++evCs ρ' [] x1) post pa'' (by simp [zJ];omega) hpa
    simp only [zAc] at e1 e2 hv;cases i with
    | zero=>cases hi;exact ⟨b,rfl,e1 v hpre hpa hv⟩
    | succ i=>exact e2 i sv v hi hv
   ·cases h
  ·cases h
 | [],_::_,_,_,h=>by cases h
 | _::_,[],_,_,h=>by cases h
theorem zd5 (hp:PRel ρ' pa' σ' env H) (ht:tops ρ'=0) (h1:ρ <+: ρ') (hb:ρ.length=base) (h2:pa <+: pa') (hna:pa.length=na):∀ {bJ:List (Nat×List C×TypeId)} {nxt:Nat} {x:List C},zde na base nxt kJ σ'.ks σ'.blks bJ=some x ->
  FitOk kJ nxt (evCs ρ' [] x)/\(∀ a y,qy a bJ=some y->a<na)/\∀ pre post pa'',base+pre.length=nxt->pa <+: pa''->∀ a cs ty,qy a bJ=some (cs,ty)->∃ cs',qy a σ'.blks=some (cs',ty)/\evCs (ρ++pre++evCs ρ' [] x++post) pa'' cs=evCs ρ' pa' cs'
 | [],nxt,x,h=>by cases h;exact ⟨FitOk.nil,fun a y h=>by simp [qy] at h,fun _ _ _ _ _ a cs ty h=>by simp [qy] at h⟩
 | (a,cs,t)::r,nxt,x,h=>by
  simp only [zde] at h;split at h
  ·rename_i cs' t' hf;split at h
   ·rename_i hc;simp only [zAC] at hc;obtain rfl:=qJ hc.1;split at h
    ·rename_i x1 hx1;split at h
     ·rename_i x2 hx2;cases h;obtain ⟨a1,a2⟩:=xX hp ht h1 hb h2 hna hx1;obtain ⟨b1,b0,b2⟩:=zd5 hp ht h1 hb h2 hna hx2;have hx:evCs ρ' [] (x1++x2)=evCs ρ' [] x1++evCs ρ' [] x2:=by simp [zF]
      rw [hx];refine ⟨a1.app (by rw [zJ];exact b1),fun b y hb=>?_,fun pre post pa'' hpre hpa b ds ty hb=>?_⟩
      ·rw [jY] at hb;split at hb
       ·rename_i e;subst e;exact zaB hc.2
       ·exact b0 b y hb
      ·have e1:=a2 pre (evCs ρ' [] x2++post) pa'' hpre hpa;have e2:=b2 (pre++evCs ρ' [] x1) post pa'' (by simp [zJ];omega) hpa
       simp only [zAc] at e1 e2 ⊢;rw [jY] at hb;split at hb
       ·rename_i e;subst e;cases hb;exact ⟨cs',hf,e1⟩
       ·exact e2 b ds ty hb
     ·cases h
    ·cases h
   ·cases h
  ·cases h
theorem preK_ok:∀ {a b:List CK},preK a b=true->a <+: b
 | [],b,_=>List.nil_prefix
 | x::xs,[],h=>by cases h
 | x::xs,y::ys,h=>by
  simp only [preK] at h;split at h
  ·rename_i e;subst e;exact List.cons_prefix_cons.2 ⟨rfl,preK_ok h⟩
  ·cases h
theorem zjh {x:List C} (hr0:Rel n0 B ρ pa σ s) (hJ:okJ σ σJ=true) {s':St} (hr:Rel n0 B ρ' pa' σ' s') (h1:ρ <+: ρ') (h2:pa <+: pa') (h:fit σ.ks.length σJ σ'=some x) :
  Rel n0 B (ρ++evCs ρ' [] x) pa σJ s':=by
 simp only [okJ,zAC] at hJ;obtain ⟨⟨⟨⟨j1,j2⟩,j3⟩,j4⟩,j5⟩:=hJ;have hpk:=preK_ok j1;have hna:=qJ j4;have hnf:=qJ j5;have has:σJ.as=[]:=by simpa using j2
 have hlk:σJ.lk=[]:=by simpa using j3
 unfold fit at h;split at h
 ·rename_i x1 hx1;split at h
  ·rename_i x2 hx2;split at h
   ·rename_i hc;simp only [zAC] at hc;obtain ⟨⟨c1,c2⟩,c3⟩:=hc;cases h;have hlen:ρ.length=σ.ks.length:=hr0.kl;have hpl:pa.length=σJ.na:=by rw [hr0.na,hna]
    obtain ⟨a0,a1,a2⟩:=zfo hr.here hr.top h1 hlen h2 hpl hx1;obtain ⟨b1,b0,b2⟩:=zd5 hr.here hr.top h1 hlen h2 hpl hx2;have hx:evCs ρ' [] (x1++x2)=evCs ρ' [] x1++evCs ρ' [] x2:=by simp [zF]
    have hFit:=a1.app (by rw [zJ];exact b1)
    rw [hx];have hpd:∀ a,a<σJ.na->pd pa' a=pd pa a:=fun a ha=>qj h2 (by rw [hpl];exact ha)
    have hna':σJ.na<=σ'.na:=zql c2;have hnf':=qJ c3;have hkl:(ρ++(evCs ρ' [] x1++evCs ρ' [] x2)).length=σJ.ks.length:=by
     rw [<- qJ c1];simp [zJ,hlen]
    refine ⟨fun ρ'' pa'' e1 e2=>⟨fun i sv v hi hv=>?_,fun a cs ty hf=>?_,fun i k hi=>?_,by rw [has];exact fun t ht=>by simp at ht⟩,by rw [a0];exact hr.len,hpl,?_,?_,?_,hkl,by rw [jl,hr0.top,hFit.top];rfl,hr.edg,?_,hr.blen,hr.df,fun a off hl=>by rw [hlk] at hl;simp [wK,ya] at hl,b0,fun a off hl=>by rw [hlk] at hl;simp [wK,ya] at hl,by rw [<- hna,<- hnf];exact hr0.nf⟩
    ·obtain ⟨z,rfl⟩:=e1;obtain ⟨sv',f1,f2⟩:=a2 [] (evCs ρ' [] x2++z) pa'' (by simp) e2 i sv v hi (by simpa using hv)
     exact hr.here.env i sv' v f1 f2
    ·obtain ⟨z,rfl⟩:=e1;obtain ⟨cs',f1,f2⟩:=b2 (evCs ρ' [] x1) z pa'' (by simp [zJ]) e2 a cs ty hf
     simp only [zAc] at f2 ⊢;rw [f2];have:=hr.here.blks a cs' ty f1;rw [qj e2 (by rw [hpl];exact b0 _ _ hf),<- hpd a (b0 _ _ hf)]
     exact this
    ·have hil:i<σJ.ks.length:=zje hi;rw [wk e1 (by rw [hkl];exact hil)]
     by_cases hb:i<σ.ks.length
     ·rw [jH (by rw [hlen];exact hb)]
      obtain ⟨z,hz⟩:=hpk;rw [<- hz,zd,zAR hb,<- zd] at hi;exact hr0.here.ks i k hi
     ·obtain ⟨ck,v,f1,f2,f3⟩:=hFit.ks (i - σ.ks.length) (by rw [<- hkl] at hil;simp only [zAi] at hil ⊢;omega)
      rw [show σ.ks.length+(i - σ.ks.length)=i by omega,hi] at f1
      cases f1;rw [yb,zAP (by omega),hlen,<- zd,f2]
      exact f3
    ·intro a a' ha ha' he;rw [<- hpd a ha,<- hpd a' ha'] at he;exact hr.inj a a' (by omega) (by omega) he
    ·intro a h3 h4;rw [<- hpd a h4];exact hr.lo a (by omega) (by omega)
    ·intro a h4;rw [<- hpd a h4];exact hr.hi a (by omega)
    ·intro b hb hn;refine hr.base b hb fun a ha=>?_;rw [hpd a (by have:=hr0.nf;omega)]
     exact hn a (by omega)
   ·cases h
  ·cases h
 ·cases h
end Go.Vm.Sx
namespace Go.Vm.Sx
open Go Go.Vm
variable {cx:Cx} {all:Array Oper} {takes:List Tmp} {df:List (V×List V)}
abbrev Stg:=Hp×List (Nat×Nat)
def stg (D:Nat):List Nat->List Stg->Option Stg
 | i::rl,h::hs=>match bit D i with
  | true=>some h
  | false=>stg D rl hs
 | [],h::_=>some h
 | _,[]=>none
def zY (rs:List Rec) (D:Nat):Prop:=(∀ b,bit D b=true->bit (chgM rs) b=true)/\∀ q∈rs,q.hp=true->bit D q.idx=true->∀ b,bit q.m b=true->bit (chgM rs) b=true->bit D b=true
def yf (cx:Cx) (takes:List Tmp) (df:List (V×List V)) (q:Rec) (S:Stg):Prop:=∃ c2,cx.runC takes q.o q.env ⟨0,S.1,S.2,df⟩ 0=some (q.v,c2)
inductive Chain (cx:Cx) (takes:List Tmp) (df:List (V×List V)) (rs:List Rec):List Nat->List Stg->Prop where
 |nil (h:Stg):Chain cx takes df rs [] [h]
 |cons {rl:List Nat} {h h':Stg} {hs:List Stg} (q:Rec):q∈rs->q.hp=true->(∀ j∈rl,bit q.m j=true/\bit (chgM rs) j=true)->(∀ D D',cx.runC takes q.o q.env ⟨D',h'.1,h'.2,df⟩ D=some (q.v,⟨D,h.1,h.2,df⟩))->Chain cx takes df rs rl (h'::hs)->Chain cx takes df rs (q.idx::rl) (h::h'::hs)
structure DInv (cx:Cx) (takes:List Tmp) (df:List (V×List V)) (i:Nat) (rs:List Rec) (rl:List Nat) (hs:List Stg) (c0:Cfg) (cs:List Cfg):Prop where
 idx:∀ q∈rs,q.idx<i
 msk:∀ q∈rs,∀ b,bit q.m b=true->b<q.idx
 uniq:∀ q∈rs,∀ p∈rs,q.idx=p.idx->q=p
 cfg:∀ c∈c0::cs,stg c.D rl hs=some (c.H,c.lk)/\c.df=df
 clo:∀ c∈c0::cs,zY rs c.D
 c0D:c0.D=chgM rs
 comp:∀ D,zY rs D->∃ c∈c0::cs,c.D=D
 calls:∀ q∈rs,q.hp=true->q.idx ∉ rl->∀ S∈hs,∀ D D',cx.runC takes q.o q.env ⟨D',S.1,S.2,df⟩ D=some (q.v,⟨D,S.1,S.2,df⟩)
 rlt:∀ j∈rl,j<i
 chain:Chain cx takes df rs rl hs
 rds:∀ q∈rs,q.hp=false->q.free=false->∀ D S,zY rs D->qO (Nat.land q.m (chgM rs)) D=true->stg D rl hs=some S->z4 D q rs=true\/yf cx takes df q S
theorem runC_D {o:Oper} {env:List V} {c:Cfg} {D:Nat} {v:V} {H':Hp} {lk':List (Nat×Nat)} {df':List (V×List V)} (h:cx.runC takes o env c D=some (v,⟨D,H',lk',df'⟩)) (D':Nat) (c':Cfg) (h1:c'.H=c.H) (h2:c'.lk=c.lk) (h3:c'.df=c.df):cx.runC takes o env c' D'=some (v,⟨D',H',lk',df'⟩):=by
 unfold Cx.runC at h ⊢;rw [h1,h2,h3];split at h<;>first|(cases h;done)|skip
 all_goals
  rename_i hop;simp only [zAA,zAD,Cfg.mk.injEq,true_and] at h;obtain ⟨rfl,rfl,rfl,rfl⟩:=h;simp only []
theorem zfp {q:Rec} {c:Cfg} (h:yf cx takes df q (c.H,c.lk)) (hd:c.df=df):cx.valC takes q.o q.env q.v c=true:=by
 obtain ⟨c2,h⟩:=h;have:cx.runC takes q.o q.env c 0=some (q.v,c2):=by
  rw [<- h];unfold Cx.runC;simp only [hd]
 simp only [Cx.valC,this,V.same_refl]
theorem zd6 {D:Nat}:∀ {l:List Cfg},(∃ c∈l,c.D=D)->∃ c,wN D l=some c/\c∈l/\c.D=D
 | [],h=>by obtain ⟨c,hc,_⟩:=h;simp at hc
 | c::l,h=>by
  simp only [wN]
  by_cases hD:c.D=D
  ·exact ⟨c,by simp [hD],zAL,hD⟩
  ·have hb:Nat.beq c.D D=false:=by cases hh:Nat.beq c.D D with|false=>rfl|true=>exact absurd (zAJ hh) hD
   obtain ⟨x,hx,hxD⟩:=h;rcases zAK.1 hx with rfl|hx
   ·exact absurd hxD hD
   ·obtain ⟨y,h1,h2,h3⟩:=zd6 ⟨x,hx,hxD⟩;exact ⟨y,by simp [hb,h1],zAE _ h2,h3⟩
theorem zgD (b:Blk):sameBlk b b=true:=by
 cases b with
 | cells cs t=>simp [sameBlk,sames_refl]
 | map es =>
  simp only [sameBlk]
  induction es with
  | nil=>rfl
  | cons x xs ih=>obtain ⟨a,b⟩:=x;simp [sameP,V.same_refl,ih]
 | iter s i=>simp [sameBlk,eqL_refl]
 | ul v z cs e=>simp [sameBlk,sames_refl]
theorem sameBs_refl:∀ (l:List Blk),sameBs l l=true
 | []=>rfl
 | b::l=>by simp [sameBs,zgD,sameBs_refl l]
theorem sameNN_refl:∀ (l:List (Nat×Nat)),sameNN l l=true
 | []=>rfl
 | (a,b)::l=>by simp [sameNN,sameNN_refl l]
theorem sameDf_refl:∀ (l:List (V×List V)),sameDf l l=true
 | []=>rfl
 | (a,b)::l=>by simp [sameDf,V.same_refl,sames_refl,sameDf_refl l]
theorem sameCfg_of {a b:Cfg} (h1:a.H=b.H) (h2:a.lk=b.lk) (h3:a.df=b.df):wM a b=true:=by
 simp [wM,h1,h2,h3,sameNN_refl,sameDf_refl,sameBs_refl]
theorem zct {D:Nat} {q d:Rec}:∀ {rs:List Rec},d∈rs->d.hp=true->bit D d.idx=true->bit d.m q.idx=true->z4 D q rs=true
 | e::rs,h,h1,h2,h3=>by
  simp only [z4,zAe,zAC];rcases zAK.1 h with rfl|h
  ·exact .inl ⟨⟨h1,h2⟩,h3⟩
  ·exact .inr (zct h h1 h2 h3)
theorem chgM_cons {r:Rec} {rs:List Rec} {b:Nat}:bit (chgM (r::rs)) b=true ↔ (r.hp=true/\r.idx=b)\/bit (chgM rs) b=true:=by
 rw [bit_chgM,bit_chgM];constructor
 ·rintro ⟨q,hq,h1,h2⟩;rcases zAK.1 hq with rfl|hq
  ·exact .inl ⟨h1,h2⟩
  ·exact .inr ⟨q,hq,h1,h2⟩
 ·rintro (⟨h1,h2⟩|⟨q,hq,h1,h2⟩)
  ·exact ⟨r,zAL,h1,h2⟩
  ·exact ⟨q,zAE _ hq,h1,h2⟩
section
variable {i:Nat} {rs:List Rec} {rl:List Nat} {hs:List Stg} {c0:Cfg} {cs:List Cfg} {r:Rec}
theorem kE (hp:r.hp=false) {D:Nat}:zY (r::rs) D ↔ zY rs D:=by
 have hc:∀ b,bit (chgM (r::rs)) b=true ↔ bit (chgM rs) b=true:=fun b=>by rw [chgM_cons];simp [hp]
 unfold zY;constructor
 ·rintro ⟨h1,h2⟩;exact ⟨fun b hb=>(hc b).1 (h1 b hb),fun q hq hqh hqD b hb hbc=>h2 q (zAE _ hq) hqh hqD b hb ((hc b).2 hbc)⟩
 ·rintro ⟨h1,h2⟩;refine ⟨fun b hb=>(hc b).2 (h1 b hb),fun q hq hqh hqD b hb hbc=>?_⟩;rcases zAK.1 hq with rfl|hq
  ·rw [hp] at hqh;cases hqh
  ·exact h2 q hq hqh hqD b hb ((hc b).1 hbc)
theorem za2 (hp:r.hp=false):chgM (r::rs)=chgM rs:=by simp only [chgM,hp]
theorem za3 {rs':List Rec} (hsub:∀ q∈rs,q∈rs') (hchg:∀ b,bit (chgM rs) b=true->bit (chgM rs') b=true) {rl:List Nat} {hs:List Stg} (h:Chain cx takes df rs rl hs):Chain cx takes df rs' rl hs:=by
 induction h with
 | nil h=>exact .nil h
 | cons q h1 h2 h3 h4 _ ih=>exact .cons q (hsub q h1) h2 (fun j hj=>⟨(h3 j hj).1,hchg j (h3 j hj).2⟩) h4 ih
theorem DInv.quiet (h:DInv cx takes df i rs rl hs c0 cs) (hi:r.idx=i) (hm:∀ b,bit r.m b=true->b<i) (hp:r.hp=false)
  (hv:r.free=true\/∀ D S,zY rs D->qO (Nat.land r.m (chgM rs)) D=true->stg D rl hs=some S->yf cx takes df r S) {c1:Cfg} :
  (∀ k,cx.cfgsK takes rs r c0 c1 cs k=k (c0::cs))/\DInv cx takes df (i+1) (r::rs) rl hs c0 cs:=by
 constructor
 ·intro k;unfold Cx.cfgsK;simp only [hp];split
  ·rfl
  ·rename_i hf;exfalso;rcases hv with hv|hv
   ·simp [hv] at hf
   ·have hall:qu (fun c=>match qO (Nat.land r.m (chgM rs)) c.D with|true=>cx.valC takes r.o r.env r.v c|false=>true) cs=true:=by
     refine vy fun c hc=>?_;split
     ·rename_i hs';have hcc:=zAE c0 hc;exact zfp (hv c.D _ (h.clo c hcc) hs' (h.cfg c hcc).1) (h.cfg c hcc).2
     ·rfl
    have hf2:=(zBb.1 hf).2;exact Bool.noConfusion (hf2.symm.trans hall)
 ·have hcm:chgM (r::rs)=chgM rs:=za2 hp;refine ⟨fun q hq=>?_,fun q hq b hb=>?_,fun q hq p hp' he=>?_,h.cfg,fun c hc=>(kE hp).2 (h.clo c hc),by rw [hcm];exact h.c0D,fun D hD=>h.comp D ((kE hp).1 hD),fun q hq h1 h2=>?_,fun q hq=>?_,za3 (fun q hq=>zAE _ hq) (fun b hb=>by rw [hcm];exact hb) h.chain,fun q hq h1 h2 D S hD hsub hS=>?_⟩
  ·rcases zAK.1 hq with rfl|hq
   ·omega
   ·have:=h.idx q hq;omega
  ·rcases zAK.1 hq with rfl|hq
   ·have:=hm b hb;omega
   ·exact h.msk q hq b hb
  ·rcases zAK.1 hq with e1|g1<;>rcases zAK.1 hp' with e2|g2
   ·rw [e1,e2]
   ·have:=h.idx p g2;rw [e1] at he;omega
   ·have:=h.idx q g1;rw [e2] at he;omega
   ·exact h.uniq q g1 p g2 he
  ·rcases zAK.1 hq with rfl|hq
   ·rw [hp] at h1;cases h1
   ·exact h.calls q hq h1 h2
  ·have:=h.rlt q hq;omega
  ·rw [hcm] at hsub;rw [kE hp] at hD;have hforced:∀ q,z4 D q (r::rs)=z4 D q rs:=fun q=>by simp [z4,hp]
   rw [hforced];rcases zAK.1 hq with rfl|hq
   ·rcases hv with hv|hv
    ·rw [hv] at h2;cases h2
    ·exact .inr (hv D S hD hsub hS)
   ·exact h.rds q hq h1 h2 D S hD hsub hS
theorem zbF {D:Nat} (hrl:i ∉ rl):stg (Nat.lor D (Nat.pow 2 i)) rl hs=stg D rl hs:=by
 induction rl generalizing hs with
 | nil=>cases hs<;>rfl
 | cons j rl ih =>
  simp only [zAK,not_or] at hrl;cases hs with
  | nil=>rfl
  | cons a hs =>
   have:bit (Nat.lor D (Nat.pow 2 i)) j=bit D j:=by rw [qa,qg];simp [hrl.1]
   simp only [stg,this,ih hrl.2]
theorem zgE {D:Nat} {S:Stg}:∀ {rl:List Nat} {hs:List Stg},stg D rl hs=some S->S∈hs
 | [],[],h=>by cases h
 | [],a::hs,h=>by simp only [stg,zAA] at h;subst h;exact zAL
 | j::rl,[],h=>by cases h
 | j::rl,a::hs,h=>by
  simp only [stg] at h;split at h
  ·cases h;exact zAL
  ·exact zAE _ (zgE h)
theorem zbG {D:Nat} {rl:List Nat} {a:Stg} {hs:List Stg} (h:∀ j∈rl,bit D j=true):stg D rl (a::hs)=some a:=by
 cases rl with
 | nil=>rfl
 | cons j rl=>simp only [stg,h j zAL]
theorem zji {q:Rec} (hu:∀ q∈rs,∀ p∈rs,q.idx=p.idx->q=p) (hq:q∈rs) (_hqh:q.hp=true) {D:Nat} (hD:zY rs D) (hqD:bit D q.idx=false) (hsub:∀ b,bit q.m b=true->bit (chgM rs) b=true->bit D b=true) :
  ∀ {rl:List Nat} {hs:List Stg},Chain cx takes df rs rl hs->rl.Nodup->q.idx∈rl->∃ S S',stg D rl hs=some S/\stg (Nat.lor D (Nat.pow 2 q.idx)) rl hs=some S'/\∀ D1 D2,cx.runC takes q.o q.env ⟨D1,S.1,S.2,df⟩ D2=some (q.v,⟨D2,S'.1,S'.2,df⟩):=by
 intro rl hs hc
 induction hc with
 | nil h=>intro _ h;simp at h
 | @cons rl h h' hs p h1 h2 h3 h4 _ ih =>
  intro hnd hm;have hb:∀ b,bit (Nat.lor D (Nat.pow 2 q.idx)) b=(bit D b || decide (q.idx=b)):=fun b=>by rw [qa,qg]
  simp only [List.nodup_cons] at hnd
  by_cases he:q.idx=p.idx
  ·obtain rfl:=hu q hq p h1 he;refine ⟨h',h,?_,?_,fun D1 D2=>h4 D2 D1⟩
   ·simp only [stg,hqD];exact zbG fun j hj=>hsub j (h3 j hj).1 (h3 j hj).2
   ·simp only [stg,hb];simp
  ·have hm':q.idx∈rl:=by simpa [he] using hm
   have hpD:bit D p.idx=false:=by
    cases hh:bit D p.idx with
    | false=>rfl
    | true =>
     have:=hD.2 p h1 h2 hh q.idx (h3 _ hm').1 (h3 _ hm').2;rw [this] at hqD;cases hqD
   obtain ⟨S,S',g1,g2,g3⟩:=ih hnd.2 hm';refine ⟨S,S',?_,?_,g3⟩
   ·simp only [stg,hpD];exact g1
   ·simp only [stg,hb,hpD,he,decide_false,zBg];exact g2
theorem DInv.chg (h:DInv cx takes df i rs rl hs c0 cs) (hi:r.idx=i) (hm:∀ b,bit r.m b=true->b<i) (hp:r.hp=true) {rl':List Nat} {hs':List Stg} {c1:Cfg} (hc1:c1.D=Nat.lor c0.D (Nat.pow 2 i))
  (hr:∀ c∈c0::cs,qO (Nat.land r.m (chgM rs)) c.D=true->∃ H' lk',(∀ D',cx.runC takes r.o r.env c D'=some (r.v,⟨D',H',lk',df⟩))/\stg (Nat.lor c.D (Nat.pow 2 i)) rl' hs'=some (H',lk'))
  (h1c:stg c1.D rl' hs'=some (c1.H,c1.lk)/\c1.df=df)
  (hst:∀ D,bit D i=false->stg D rl' hs'=stg D rl hs)
  (hkind:(rl'=rl/\hs'=hs)\/∃ S',rl'=i::rl/\hs'=S'::hs)
  (hcalls:∀ q∈r::rs,q.hp=true->q.idx ∉ rl'->∀ S∈hs',∀ D D',cx.runC takes q.o q.env ⟨D',S.1,S.2,df⟩ D=some (q.v,⟨D,S.1,S.2,df⟩))
  (hchain:Chain cx takes df (r::rs) rl' hs') (hnd:rl'.Nodup)
  (hrds:rl'=i::rl->∀ q∈rs,q.hp=false->q.free=false->∀ D S,zY (r::rs) D->bit D i=true->qO (Nat.land q.m (chgM rs)) D=true->stg D rl' hs'=some S->z4 D q (r::rs)=true\/yf cx takes df q S) :
  ∃ cs',(∀ k,cx.cfgsK takes rs r c0 c1 cs k=k cs')/\∃ cs2,cs'=c1::cs2/\DInv cx takes df (i+1) (r::rs) rl' hs' c1 cs2:=by
 have hidx:∀ q∈rs,q.idx<i:=h.idx;have hrl:∀ j∈rl',j=i\/j∈rl:=fun j hj=>by
  rcases hkind with ⟨e,_⟩|⟨_,e,_⟩
  ·rw [e] at hj;exact .inr hj
  ·rw [e] at hj;exact zAK.1 hj
 have hrl2:∀ j∈rl,j∈rl':=fun j hj=>by
  rcases hkind with ⟨e,_⟩|⟨_,e,_⟩
  ·rw [e];exact hj
  ·rw [e];exact zAE _ hj
 have huniq:∀ q∈r::rs,∀ p∈r::rs,q.idx=p.idx->q=p:=fun q hq p hp' he=>by
  rcases zAK.1 hq with e1|g1<;>rcases zAK.1 hp' with e2|g2
  ·rw [e1,e2]
  ·have:=hidx p g2;rw [e1] at he;omega
  ·have:=hidx q g1;rw [e2] at he;omega
  ·exact h.uniq q g1 p g2 he
 have hchgi:bit (chgM rs) i=false:=by
  cases hb:bit (chgM rs) i with
  | false=>rfl
  | true=>obtain ⟨q,hq,_,he⟩:=bit_chgM.1 hb;have:=hidx q hq;omega
 have hcD:∀ c∈c0::cs,bit c.D i=false:=fun c hc=>by
  cases hb:bit c.D i with
  | false=>rfl
  | true=>rw [(h.clo c hc).1 i hb] at hchgi;cases hchgi
 have clo1:∀ D,zY rs D->zY (r::rs) D:=fun D hD=>by
  refine ⟨fun b hb=>chgM_cons.2 (.inr (hD.1 b hb)),fun q hq hqh hqD b hb hbc=>?_⟩;rcases zAK.1 hq with rfl|hq
  ·rw [hi] at hqD;rw [hD.1 i hqD] at hchgi;cases hchgi
  ·refine hD.2 q hq hqh hqD b hb ?_;rcases chgM_cons.1 hbc with ⟨_,he⟩|hbc
   ·have:=h.msk q hq b hb;have:=hidx q hq;omega
   ·exact hbc
 have clo2:∀ D,zY rs D->qO (Nat.land r.m (chgM rs)) D=true->zY (r::rs) (Nat.lor D (Nat.pow 2 i)):=fun D hD hsub=>by
  refine ⟨fun b hb=>?_,fun q hq hqh hqD b hb hbc=>?_⟩
  ·rw [qa,zAe,qg,decide_eq_true_eq] at hb;rcases hb with hb|rfl
   ·exact chgM_cons.2 (.inr (hD.1 b hb))
   ·exact chgM_cons.2 (.inl ⟨hp,hi⟩)
  ·rw [qa,zAe]
   left
   rcases zAK.1 hq with rfl|hq
   ·rcases chgM_cons.1 hbc with ⟨_,he⟩|hbc
    ·have:=hm b hb;omega
    ·exact subM_spec.1 hsub b (by rw [z6,hb,hbc];rfl)
   ·have hbi:b<i:=by have:=h.msk q hq b hb;have:=hidx q hq;omega
    rw [qa,zAe,qg,decide_eq_true_eq] at hqD;rcases hqD with hqD|he
    ·refine hD.2 q hq hqh hqD b hb ?_;rcases chgM_cons.1 hbc with ⟨_,he⟩|hbc
     ·omega
     ·exact hbc
    ·have:=hidx q hq;omega
 have clo3:∀ D,zY (r::rs) D->bit D i=false->zY rs D:=fun D hD hDi=>by
  refine ⟨fun b hb=>?_,fun q hq hqh hqD b hb hbc=>hD.2 q (zAE _ hq) hqh hqD b hb (chgM_cons.2 (.inr hbc))⟩;rcases chgM_cons.1 (hD.1 b hb) with ⟨_,he⟩|hbc
  ·rw [hi] at he;subst he;rw [hb] at hDi;cases hDi
  ·exact hbc
 have clo4:∀ D,zY (r::rs) D->bit D i=true->∃ D0,zY rs D0/\qO (Nat.land r.m (chgM rs)) D0=true/\D=Nat.lor D0 (Nat.pow 2 i)/\∀ b,bit D0 b=true ↔ (bit D b=true/\b≠i):=fun D hD hDi=>by
  have hb0:∀ b,bit (Nat.xor D (Nat.pow 2 i)) b=true ↔ (bit D b=true/\b≠i):=fun b=>by
   have:bit (Nat.xor D (Nat.pow 2 i)) b=(bit D b ^^ decide (i=b)):=by
    rw [vq,vq];have:Nat.xor D (Nat.pow 2 i)=D ^^^ (2 ^ i):=rfl;rw [this,Nat.testBit_xor,zBX]
   rw [this]
   by_cases he:i=b
   ·subst he;simp [hDi]
   ·have:¬ b=i:=fun e=>he e.symm;simp [he,this]
  refine ⟨Nat.xor D (Nat.pow 2 i),⟨fun b hb=>?_,fun q hq hqh hqD b hb hbc=>?_⟩,subM_spec.2 fun b hb=>?_,jA fun b=>?_,hb0⟩
  ·obtain ⟨h1,h2⟩:=(hb0 b).1 hb;rcases chgM_cons.1 (hD.1 b h1) with ⟨_,he⟩|hbc
   ·rw [hi] at he;exact absurd he.symm h2
   ·exact hbc
  ·obtain ⟨h1,h2⟩:=(hb0 _).1 hqD;refine (hb0 b).2 ⟨hD.2 q (zAE _ hq) hqh h1 b hb (chgM_cons.2 (.inr hbc)),?_⟩;have:=h.msk q hq b hb;have:=hidx q hq;omega
  ·rw [z6,zAC] at hb;refine (hb0 b).2 ⟨hD.2 r zAL hp (by rw [hi];exact hDi) b hb.1 (chgM_cons.2 (.inr hb.2)),?_⟩
   have:=hm b hb.1;omega
  ·have hb:=hb0 b;rw [qa,qg]
   by_cases he:i=b
   ·subst he;simp [hDi]
   ·have hne:b≠i:=fun e=>he e.symm;have hiff:bit (Nat.xor D (Nat.pow 2 i)) b=true ↔ bit D b=true:=⟨fun h=>(hb.1 h).1,fun h=>hb.2 ⟨h,hne⟩⟩;rw [zBU.2 hiff];simp [he]
 have hrds':∀ q∈rs,q.hp=false->q.free=false->∀ D S,zY (r::rs) D->bit D i=true->qO (Nat.land q.m (chgM rs)) D=true->stg D rl' hs'=some S->z4 D q (r::rs)=true\/yf cx takes df q S:=by
  intro q hq g1 g2 D S hD hDi hsub hS;rcases hkind with ⟨ea,eb⟩|⟨_,e,_⟩
  ·obtain ⟨D0,k1,k2,k3,k4⟩:=clo4 D hD hDi;subst ea eb;have hni:i ∉ rl':=fun hh=>by have:=h.rlt i hh;omega
   rw [k3,zbF hni] at hS;have hsub0:qO (Nat.land q.m (chgM rs)) D0=true:=subM_spec.2 fun b hb=>by
    refine (k4 b).2 ⟨subM_spec.1 hsub b hb,?_⟩;rw [z6,zAC] at hb;have:=h.msk q hq b hb.1;have:=hidx q hq;omega
   rcases h.rds q hq g1 g2 D0 S k1 hsub0 hS with g|g
   ·left
    have hmono:∀ l:List Rec,z4 D0 q l=true->z4 D q l=true:=by
     intro l
     induction l with
     | nil=>intro h;cases h
     | cons x l ih =>
      simp only [z4,zAe,zAC];rintro (⟨⟨a1,a2⟩,a3⟩|a)
      ·exact .inl ⟨⟨a1,((k4 _).1 a2).1⟩,a3⟩
      ·exact .inr (ih a)
    simp only [z4,hmono rs g,zBl]
   ·exact .inr g
  ·exact hrds e q hq g1 g2 D S hD hDi hsub hS
 have hra:∀ l:List Cfg,(∀ c∈l,c∈c0::cs)->∃ l',cx.runAll takes r.o r.env r.v (Nat.land r.m (chgM rs)) (Nat.pow 2 i) l=some l'/\(∀ c'∈l',∃ c∈l,qO (Nat.land r.m (chgM rs)) c.D=true/\c'.D=Nat.lor c.D (Nat.pow 2 i)/\stg c'.D rl' hs'=some (c'.H,c'.lk)/\c'.df=df)/\(∀ c∈l,qO (Nat.land r.m (chgM rs)) c.D=true->∃ c'∈l',c'.D=Nat.lor c.D (Nat.pow 2 i)):=by
  intro l
  induction l with
  | nil=>intro _;exact ⟨[],rfl,fun c hc=>by simp at hc,fun c hc=>by simp at hc⟩
  | cons c l ih =>
   intro hl;obtain ⟨l',e1,e2,e3⟩:=ih fun x hx=>hl x (zAE _ hx);cases hsub:qO (Nat.land r.m (chgM rs)) c.D with
   | false =>
    refine ⟨l',by simp only [Cx.runAll,hsub,e1],fun c' hc'=>?_,fun x hx hxs=>?_⟩
    ·obtain ⟨x,hx,g⟩:=e2 c' hc';exact ⟨x,zAE _ hx,g⟩
    ·rcases zAK.1 hx with rfl|hx
     ·rw [hsub] at hxs;cases hxs
     ·exact e3 x hx hxs
   | true =>
    obtain ⟨H',lk',g1,g2⟩:=hr c (hl c zAL) hsub;refine ⟨⟨Nat.lor c.D (Nat.pow 2 i),H',lk',df⟩::l',by simp only [Cx.runAll,hsub,g1,V.same_refl,e1],fun c' hc'=>?_,fun x hx hxs=>?_⟩
    ·rcases zAK.1 hc' with rfl|hc'
     ·exact ⟨c,zAL,hsub,rfl,g2,rfl⟩
     ·obtain ⟨x,hx,g⟩:=e2 c' hc';exact ⟨x,zAE _ hx,g⟩
    ·rcases zAK.1 hx with rfl|hx
     ·exact ⟨_,zAL,rfl⟩
     ·obtain ⟨c',g1,g2⟩:=e3 x hx hxs;exact ⟨c',zAE _ g1,g2⟩
 obtain ⟨l,e1,e2,e3⟩:=hra cs fun c hc=>zAE _ hc;have hm0:qO (Nat.land r.m (chgM rs)) c0.D=true:=subM_spec.2 fun b hb=>by rw [z6,zAC] at hb;rw [h.c0D];exact hb.2
 have hcfg:∀ c∈c1::l++c0::cs,stg c.D rl' hs'=some (c.H,c.lk)/\c.df=df:=fun c hc=>by
  simp only [zA6,zAK,zA3] at hc;rcases hc with rfl|hc|hc
  ·exact h1c
  ·obtain ⟨x,_,_,_,g1,g2⟩:=e2 c hc;exact ⟨g1,g2⟩
  ·have hc':c∈c0::cs:=by simpa using hc
   rw [hst c.D (hcD c hc')];exact h.cfg c hc'
 have hclo:∀ c∈c1::l++c0::cs,zY (r::rs) c.D:=fun c hc=>by
  simp only [zA6,zAK,zA3] at hc;rcases hc with rfl|hc|hc
  ·rw [hc1];exact clo2 _ (h.clo c0 zAL) hm0
  ·obtain ⟨x,hx,hxs,hxD,_⟩:=e2 c hc;rw [hxD];exact clo2 _ (h.clo x (zAE _ hx)) hxs
  ·exact clo1 _ (h.clo c (by simpa using hc))
 have hcomp:∀ D,zY (r::rs) D->∃ c∈c1::l++c0::cs,c.D=D:=fun D hD=>by
  cases hDi:bit D i with
  | false =>
   obtain ⟨c,hc,hcD⟩:=h.comp D (clo3 D hD hDi);exact ⟨c,by simp only [zA6,zAK,zA3];right;right;simpa using hc,hcD⟩
  | true =>
   obtain ⟨D0,g1,g2,g3,_⟩:=clo4 D hD hDi;obtain ⟨c,hc,hcE⟩:=h.comp D0 g1;rcases zAK.1 hc with e|hc
   ·exact ⟨c1,by simp,by rw [hc1,g3,<- hcE,e]⟩
   ·obtain ⟨c',hc',hcE'⟩:=e3 c hc (by rw [hcE];exact g2)
    exact ⟨c',by simp [hc'],by rw [hcE',hcE,g3]⟩
 have hnew:qu (fun c=>cx.newOk takes rs (chgM rs) r (c1::l++c0::cs) c) (c1::l)=true:=by
  refine vy fun c hc=>vy fun q hq=>?_;have hcm:c∈c1::l++c0::cs:=by simp only [zA6,zAK,zA3] at hc ⊢;rcases hc with rfl|hc;exact .inl rfl;exact .inr (.inl hc)
  have hci:bit c.D i=true:=by
   rcases zAK.1 hc with rfl|hc
   ·rw [hc1,qa,qg];simp
   ·obtain ⟨x,_,_,hxD,_⟩:=e2 c hc;rw [hxD,qa,qg];simp
  obtain ⟨s1,s2⟩:=hcfg c hcm;split
  ·rfl
  ·rename_i hsub;split
   ·rename_i hqh;split
    ·rfl
    ·rename_i hqD;have hcl:zY (r::rs) (Nat.lor c.D (Nat.pow 2 q.idx)):=by
      have hC:=hclo c hcm;refine ⟨fun b hb=>?_,fun p hp' hph hpD b hb hbc=>?_⟩
      ·rw [qa,zAe,qg,decide_eq_true_eq] at hb;rcases hb with hb|rfl
       ·exact hC.1 b hb
       ·exact chgM_cons.2 (.inr (bit_chgM.2 ⟨q,hq,hqh,rfl⟩))
      ·rw [qa,zAe]
       left
       rw [qa,zAe,qg,decide_eq_true_eq] at hpD;rcases hpD with hpD|he
       ·exact hC.2 p hp' hph hpD b hb hbc
       ·have hpq:p=q:=by
         rcases zAK.1 hp' with rfl|hp'
         ·have:=hidx q hq;omega
         ·exact h.uniq p hp' q hq he.symm
        subst hpq;refine subM_spec.1 hsub b ?_;rw [z6,hb,zBD];rcases chgM_cons.1 hbc with ⟨_,he2⟩|hbc
        ·have:=h.msk p hq b hb;have:=hidx p hq;omega
        ·exact hbc
     obtain ⟨c3,f1,f2,f3⟩:=zd6 (hcomp _ hcl);obtain ⟨t1,t2⟩:=hcfg c3 f2;rw [f3] at t1;rw [f1]
     by_cases hqr:q.idx∈rl
     ·obtain ⟨S,S',g1,g2,g3⟩:=zji huniq (zAE _ hq) hqh (hclo c hcm) hqD (fun b hb hbc=>subM_spec.1 hsub b (by
       rw [z6,hb,zBD];rcases chgM_cons.1 hbc with ⟨_,he2⟩|hbc
       ·have:=h.msk q hq b hb;have:=hidx q hq;omega
       ·exact hbc)) hchain hnd (hrl2 _ hqr)
      rw [s1] at g1;obtain rfl:=zAr g1;rw [t1] at g2;obtain rfl:=zAr g2;have:=runC_D (g3 0 0) 0 c rfl rfl s2;simp only [this,V.same_refl,zBD];exact sameCfg_of rfl rfl t2.symm
     ·have hne:q.idx ∉ rl':=fun hh=>by
       rcases hrl _ hh with he|hh
       ·have:=hidx q hq;omega
       ·exact hqr hh
      have:=runC_D (hcalls q (zAE _ hq) hqh hne (c.H,c.lk) (zgE s1) 0 0) 0 c rfl rfl s2;simp only [this,V.same_refl,zBD];rw [zbF hne,s1] at t1;simp only [zAA,zAD] at t1;exact sameCfg_of t1.1 t1.2 t2.symm
   ·rename_i hqh;cases hf:q.free with
    | true=>simp
    | false =>
     rcases hrds' q hq hqh hf c.D _ (hclo c hcm) hci hsub s1 with g|g
     ·simp only [z4,zAe,zAC] at g;rcases g with ⟨⟨_,_⟩,g⟩|g
      ·simp [g]
      ·simp [g]
     ·rw [zfp g s2];simp
 refine ⟨c1::l++c0::cs,fun k=>?_,l++c0::cs,rfl,?_⟩
 ·unfold Cx.cfgsK;simp only [hp,hi,e1];rw [hnew]
 ·refine ⟨fun q hq=>?_,fun q hq b hb=>?_,fun q hq p hp' he=>?_,hcfg,hclo,?_,hcomp,hcalls,fun j hj=>?_,hchain,fun q hq g1 g2 D S hD hsub hS=>?_⟩
  ·rcases zAK.1 hq with rfl|hq
   ·omega
   ·have:=hidx q hq;omega
  ·rcases zAK.1 hq with rfl|hq
   ·have:=hm b hb;omega
   ·exact h.msk q hq b hb
  ·rcases zAK.1 hq with e1|g1<;>rcases zAK.1 hp' with e2|g2
   ·rw [e1,e2]
   ·have:=hidx p g2;rw [e1] at he;omega
   ·have:=hidx q g1;rw [e2] at he;omega
   ·exact h.uniq q g1 p g2 he
  ·rw [hc1,h.c0D];refine jA fun b=>?_;have:=@chgM_cons r rs b;rw [qa,qg];cases g1:bit (chgM (r::rs)) b<;>cases g2:bit (chgM rs) b<;>simp_all
  ·rcases hrl j hj with e|e
   ·omega
   ·have:=h.rlt j e;omega
  ·rcases zAK.1 hq with rfl|hq
   ·rw [hp] at g1;cases g1
   ·have hsub':qO (Nat.land q.m (chgM rs)) D=true:=subM_spec.2 fun b hb=>by
     rw [z6,zAC] at hb;exact subM_spec.1 hsub b (by rw [z6,hb.1,chgM_cons.2 (.inr hb.2)];rfl)
    cases hDi:bit D i with
    | true=>exact hrds' q hq g1 g2 D S hD hDi hsub' hS
    | false =>
     rw [hst D hDi] at hS;rcases h.rds q hq g1 g2 D S (clo3 D hD hDi) hsub' hS with g|g
     ·left;simp [z4,g]
     ·exact .inr g
end
end Go.Vm.Sx
namespace Go.Vm.Sx
set_option linter.unusedSectionVars false
open Go Go.Vm
variable {P:Program} {gl:Gl} {ph:PH} {N:Nat} {r:Nat×List V} {ρ ρ':List V} {pa pa':List Nat} {σ:Sg} {s:St} {n0:Nat} {B:List Blk} {env:List V} {H:Hp} {lk:List (Nat×Nat)} {df:List (V×List V)} {takes:List Tmp} {k:KT} {t:Tree}
variable [NoU gl]
theorem yC {dst:Option Tmp} {tt:TypeId} {a:Operand} {type:TypeId} {pos:String} {after:Array Edge} {guard:Option (Nat×Bool)} {c:Cls} (h:qY takes σ ⟨dst,.load tt a,type,pos,after,guard⟩=some c) :
  (zO takes dst=false/\(∃ g,a=.global g)/\c=.free)\/(zO takes dst=false/\∃ b off,pk σ a=some (.val (.one (.p b off)))/\c=.rd b)\/(zO takes dst=false/\∃ cs,pk σ a=some (.vp cs)/\c=.free)\/(zO takes dst=true/\∃ b off,pk σ a=some (.val (.one (.p b off)))/\c=.wr b):=by
 simp only [qY] at h;cases ht:zO takes dst with
 | false =>
  cases a with
  | global g=>simp only [ht] at h;cases h;exact .inl ⟨rfl,⟨g,rfl⟩,rfl⟩
  | _ =>
   simp only [ht] at h;split at h
   ·rename_i hh;cases hh
   ·rename_i hpk _;cases h;exact .inr (.inl ⟨rfl,_,_,hpk,rfl⟩)
   ·rename_i hpk _;cases h;exact .inr (.inr (.inl ⟨rfl,_,hpk,rfl⟩))
   ·cases h
 | true =>
  simp only [ht] at h;split at h
  ·rename_i hpk _;cases h;exact .inr (.inr (.inr ⟨rfl,_,_,hpk,rfl⟩))
  ·rename_i hh;cases hh
  ·rename_i hh;cases hh
  ·cases h
theorem zgF {o:Oper} {c:Cls} (h:qY takes σ o=some c):kS takes o=(match c with|.free=>false|.rd _=>false|.call=>true|.wr _=>true):=by
 obtain ⟨dst,op,type,pos,after,guard⟩:=o;cases op
 case load tt a =>
  have hl:kS takes ⟨dst,.load tt a,type,pos,after,guard⟩=zO takes dst:=by
   cases dst<;>rfl
  rw [hl];rcases yC h with ⟨e,_,rfl⟩|⟨e,_,_,_,rfl⟩|⟨e,_,_,rfl⟩|⟨e,_,_,_,rfl⟩<;>exact e
 all_goals simp only [qY] at h;try (cases h;done)
 case store tt a x =>
  split at h
  ·cases h;rfl
  ·cases h
 case call c =>
  obtain ⟨callee,args,ats⟩:=c;simp only at h;split at h
  ·rename_i f l h1 h2;split at h
   ·cases h;rfl
   ·cases h
  ·rename_i x h1 h2;split at h
   ·cases h;rfl
   ·cases h
  ·split at h
   ·cases h;rfl
   ·cases h
  ·cases h;rfl
  ·cases h;rfl
  ·cases h
 all_goals first|(cases h;rfl)
theorem zko {x:Operand} (hr:PRel ρ pa σ env H) (h:zgu σ x=true):∃ v,peek env x=some v/\((∃ s,v=.str s)\/v=.snil\/∃ sz xs o,v=.sl sz xs o):=by
 unfold zgu at h;split at h
 ·rename_i t hc;exact ⟨_,zX hr hc,.inl ⟨_,rfl⟩⟩
 ·rename_i sz t o hc;exact ⟨_,zX hr hc,.inr (.inr ⟨_,_,_,rfl⟩)⟩
 ·rename_i hc;exact ⟨_,zX hr hc,.inr (.inl rfl)⟩
 ·rename_i i cl hc;refine ⟨_,zX hr hc,?_⟩;split at h
  ·rename_i hk;have:=hr.ks i _ hk;cases hv:at' ρ i with
   | str s=>left;refine ⟨s,?_⟩;cases cl<;>simp only [evC,hv,clr]
   | _=>rw [hv] at this;simp [kOk] at this
  ·rename_i sz hk;have:=hr.ks i _ hk;cases hv:at' ρ i with
   | snil=>right;left;cases cl<;>simp only [evC,hv,clr]
   | sl sz' xs o=>right;right;cases cl<;>simp only [evC,hv,clr]<;>exact ⟨_,_,_,rfl⟩
   | _=>rw [hv] at this;simp [kOk] at this
  ·cases h
 ·cases h
theorem za4 {cx:Cx} (hu:∀ e,cx.uq e=false) {b:Builtin} (hb:b≠.copy) {args:Array Operand} {ats:Array TypeId} {dst:Option Tmp} {type:TypeId} {pos:String} {after:Array Edge} {guard:Option (Nat×Bool)} :
  cx.op takes ⟨dst,.call ⟨.builtin b,args,ats⟩,type,pos,after,guard⟩ env H lk df=zqd H lk df (cx.builtin b ats args env H):=by
 have plain:(match cx.builtin b ats args env H with|none=>none|some (r,env)=>some (r,(⟨env,H,lk,df⟩:St)))=zqd H lk df (cx.builtin b ats args env H):=by
  cases cx.builtin b ats args env H<;>rfl
 simp only [Cx.op];split
 ·exact absurd rfl hb
 ·rename_i x y t u h1 h2;simp only [zcP hu];exact plain
 ·exact plain
theorem zlu {o:Oper} {c:Cls} (h:qY takes σ o=some c) {v:V} {s':St} {cx:Cx} (hu:∀ e,cx.uq e=false) (hr:PRel ρ pa σ env H) (hc:c=.free) (hop:cx.op takes o env H lk df=some (.val v,s')) :
  ∀ H2 lk2 df2,∃ s2,cx.op takes o env H2 lk2 df2=some (.val v,s2):=by
 subst hc;have hn:kS takes o=false:=zgF h;cases hl:zck o with
 | false=>exact fun H2 lk2 df2=>zjW (by rw [yy hu];exact hn) (by rw [zhS hu];exact hl) hop lk2 df2
 | true =>
  intro H2 lk2 df2;obtain ⟨dst,op,type,pos,after,guard⟩:=o;cases op<;>simp only [zck,zAH] at hl
  case load tt a =>
   have ht:zO takes dst=false:=by
    have hl:kS takes ⟨dst,.load tt a,type,pos,after,guard⟩=zO takes dst:=by cases dst<;>rfl
    rw [<- hl];exact hn
   rw [xS ht] at hop ⊢;have key:(peek env a).bind (zn cx.P H2 cx.gl tt)=(peek env a).bind (zn cx.P H cx.gl tt):=by
    rcases yC h with ⟨_,⟨g,rfl⟩,_⟩|⟨_,_,_,_,e⟩|⟨_,cs,hpk,_⟩|⟨_,_,_,_,e⟩
    ·simp only [peek,zAT,zn]
    ·cases e
    ·obtain ⟨u,e1,e2⟩:=kj hr hpk;cases e2;simp only [e1,zAT,zn]
    ·cases e
   rw [key];unfold rdQ at hop ⊢;split at hop
   ·cases hop;exact ⟨_,rfl⟩
   ·cases hop
  case lookup=>simp only [qY] at h;cases h
  case call c =>
   obtain ⟨callee,args,ats⟩:=c;simp only [qY] at h;have bi:∀ b,callee=.builtin b->cx.builtin b ats args env H2=cx.builtin b ats args env H->∃ s2,cx.op takes ⟨dst,.call ⟨callee,args,ats⟩,type,pos,after,guard⟩ env H2 lk2 df2=some (.val v,s2):=fun b hb he=>by
    subst hb;have hcp:b≠.copy:=by rintro rfl;simp [kS] at hn
    rw [za4 hu hcp] at hop ⊢;rw [he];unfold zqd at hop ⊢;split at hop
    ·simp only [zAA,zAD] at hop;obtain ⟨rfl,rfl⟩:=hop;exact ⟨_,rfl⟩
    ·cases hop
   split at h
   ·split at h
    ·cases h
    ·cases h
   ·rename_i x h2;split at h
    ·rename_i hf;refine bi _ rfl ?_;obtain ⟨u,e1,e2⟩:=zko hr hf;obtain rfl:args=#[x]:=by apply Array.toList_inj.1;simpa using h2
     have hl:∀ t',qH cx.P H2 t' u=qH cx.P H t' u:=fun t'=>by
      rcases e2 with ⟨_,rfl⟩|rfl|⟨_,_,_,rfl⟩<;>unfold qH<;>split<;>simp_all
     unfold Cx.builtin;split<;>first|rfl|skip
     ·rename_i x' t' _ g1 g2;simp only [List.cons.injEq,zBn] at g1;subst g1;simp only [e1,Option.bind_eq_bind,zAT,hl]
     ·rename_i hh _ _;cases hh
    ·cases h
   ·rename_i x y h2;split at h
    ·rename_i hf;refine bi _ rfl ?_;obtain ⟨u,e1,e2⟩:=zko hr hf;obtain rfl:args=#[x,y]:=by apply Array.toList_inj.1;simpa using h2
     have ha:∀ t' w,zV cx.P H2 t' w u=zV cx.P H t' w u:=fun t' w=>by
      have he:∀ e,jv cx.P H2 e u=jv cx.P H e u:=fun e=>by
       rcases e2 with ⟨_,rfl⟩|rfl|⟨_,_,_,rfl⟩<;>rfl
      simp only [zV,he]
     unfold Cx.builtin;split<;>first|rfl|skip
     ·rename_i hh _ _;cases hh
     ·rename_i x' y' t' u' _ g1 g2;simp only [List.cons.injEq,zBn] at g1;obtain ⟨g1a,g1b⟩:=g1;subst g1a g1b;simp only [e1,Option.bind_eq_bind,zAT,ha]
    ·cases h
   ·refine bi _ rfl ?_;unfold Cx.builtin;split
    ·rename_i hh _ _;cases hh
    ·rename_i hh _ _;cases hh
    all_goals rfl
   ·refine bi _ rfl ?_;unfold Cx.builtin;split
    ·rename_i hh _ _;cases hh
    ·rename_i hh _ _;cases hh
    all_goals rfl
   ·cases h
theorem zq2 {o:Oper} {b:Nat} (h:qY takes σ o=some (.rd b)) {v:V} {s':St} {cx:Cx} (hr:PRel ρ pa σ env H) (hop:cx.op takes o env H lk df=some (.val v,s')) :
  ∀ H2 lk2 df2,H2.get (pd pa b)=H.get (pd pa b)->∃ s2,cx.op takes o env H2 lk2 df2=some (.val v,s2):=by
 intro H2 lk2 df2 hb;have hn:kS takes o=false:=zgF h;obtain ⟨dst,op,type,pos,after,guard⟩:=o;cases op
 case load tt a =>
  have ht:zO takes dst=false:=by
   have hl:kS takes ⟨dst,.load tt a,type,pos,after,guard⟩=zO takes dst:=by cases dst<;>rfl
   rw [<- hl];exact hn
  rw [xS ht] at hop ⊢;have key:(peek env a).bind (zn cx.P H2 cx.gl tt)=(peek env a).bind (zn cx.P H cx.gl tt):=by
   rcases yC h with ⟨_,_,e⟩|⟨_,b',off,hpk,e⟩|⟨_,_,_,e⟩|⟨_,_,_,_,e⟩<;>cases e
   obtain ⟨u,e1,e2⟩:=kj hr hpk;cases e2;simp only [e1,zAT,evSC,evC,zn,hb]
  rw [key];unfold rdQ at hop ⊢;split at hop
  ·cases hop;exact ⟨_,rfl⟩
  ·cases hop
 case store tt a x =>
  simp only [qY] at h;split at h<;>cases h
 case call c =>
  obtain ⟨callee,args,ats⟩:=c;simp only [qY] at h
  repeat' split at h
  all_goals cases h
 all_goals simp only [qY] at h;cases h
theorem znc (hph:zm7 P gl ph) {o:Oper} (hc:qY takes σ o=some .call) (h:xOp P takes σ o k=some t) (hr:Rel n0 B ρ pa σ ⟨env,H,lk,df⟩) (hq:evT ph gl N t ρ=some r) :
  ∃ v,∀ H2,∃ k0,∀ n,k0<=n->∀ lk2 df2,Cx.op ⟨P,gl,zk P gl n,gl.uq⟩ takes o env H2 lk2 df2=some (.val v,⟨env,H2,lk2,df2⟩):=by
 obtain ⟨dst,op,type,pos,after,guard⟩:=o;cases op
 case load tt a=>rcases yC hc with ⟨_,_,e⟩|⟨_,_,_,_,e⟩|⟨_,_,_,e⟩|⟨_,_,_,_,e⟩<;>cases e
 case store tt a x =>
  simp only [qY] at hc;split at hc<;>cases hc
 case call c =>
  obtain ⟨callee,args,ats⟩:=c;simp only [qY] at hc;split at hc
  ·rename_i f l;split at hc
   ·rename_i vs0 hpk0;simp only [xOp] at h;unfold zj9 at h;split at h
    ·rename_i fn vs ns hfn hpk;rw [hpk0] at hpk;simp only [zAA,zAD] at hpk;obtain ⟨rfl,rfl⟩:=hpk;split at h
     ·rename_i body lent hbody hlent;obtain ⟨vals,p1,p2,_,p4⟩:=pks_ok hr hpk0 (by simp)
      simp only [zfg,zAA] at hlent;subst hlent;split at h
      ·rename_i t0 ht0;cases h;simp only [evT] at hq;split at hq
       ·rename_i v out hv;obtain ⟨e1,e2,e3,e4⟩:=hph _ _ _ _ _ hv;refine ⟨v,fun H2=>?_⟩;obtain ⟨k0,e4⟩:=e4 [] H2 (by simp) trivial
        refine ⟨k0,fun n hn lk2 df2=>?_⟩;have:=e4 n hn;simp only [List.map_nil] at p2;rw [<- p2] at this;rw [zc9,p1,yN,zw hfn hbody this,zv];rfl
       ·cases hq
      ·cases h
     ·cases h
    ·cases h
   ·cases hc
  ·split at hc<;>cases hc
  ·split at hc<;>cases hc
  ·cases hc
  ·cases hc
  ·cases hc
 all_goals simp only [qY] at hc;cases hc
end Go.Vm.Sx
namespace Go.Vm.Sx
set_option linter.unusedSectionVars false
open Go Go.Vm
variable {P:Program} {gl:Gl} {ph:PH} {N:Nat} {ρ ρ':List V} {pa pa':List Nat} {σ:Sg} {s:St} {n0:Nat} {B:List Blk} {env:List V} {H:Hp} {lk:List (Nat×Nat)} {df:List (V×List V)} {takes:List Tmp} {k:KT} {t:Tree}
variable [NoU gl]
abbrev cxn (P:Program) (gl:Gl) (n:Nat):Cx:=⟨P,gl,zk P gl n,gl.uq⟩
section
variable {i:Nat} {rs:List Rec} {rl:List Nat} {hs:List Stg} {r q:Rec} {X:Option Blk} {b:Nat}
theorem zoY {D i b:Nat} (hDi:bit D i=true):bit (Nat.xor D (Nat.pow 2 i)) b=true ↔ (bit D b=true/\b≠i):=by
 have:bit (Nat.xor D (Nat.pow 2 i)) b=(bit D b ^^ decide (i=b)):=by
  rw [vq,vq];have:Nat.xor D (Nat.pow 2 i)=D ^^^ (2 ^ i):=rfl;rw [this,Nat.testBit_xor,zBX]
 rw [this]
 by_cases he:i=b
 ·subst he;simp [hDi]
 ·have:¬ b=i:=fun e=>he e.symm;simp [he,this]
theorem zkp {D:Nat} (hi:r.idx=i) (hD:zY (r::rs) D) (hDi:bit D i=false):zY rs D:=by
 refine ⟨fun b hb=>?_,fun q hq hqh hqD b hb hbc=>hD.2 q (zAE _ hq) hqh hqD b hb (chgM_cons.2 (.inr hbc))⟩;rcases chgM_cons.1 (hD.1 b hb) with ⟨_,he⟩|hbc
 ·rw [hi] at he;subst he;rw [hb] at hDi;cases hDi
 ·exact hbc
theorem znd {D:Nat} (hi:r.idx=i) (hp:r.hp=true) (hm:∀ b,bit r.m b=true->b<i) (hidx:∀ q∈rs,q.idx<i) (hmsk:∀ q∈rs,∀ b,bit q.m b=true->b<q.idx) (hD:zY (r::rs) D) (hDi:bit D i=true) :
  ∃ D0,zY rs D0/\qO (Nat.land r.m (chgM rs)) D0=true/\D=Nat.lor D0 (Nat.pow 2 i)/\∀ b,bit D0 b=true ↔ (bit D b=true/\b≠i):=by
 have hb0:∀ b,bit (Nat.xor D (Nat.pow 2 i)) b=true ↔ (bit D b=true/\b≠i):=fun b=>zoY hDi;refine ⟨Nat.xor D (Nat.pow 2 i),⟨fun b hb=>?_,fun q hq hqh hqD b hb hbc=>?_⟩,subM_spec.2 fun b hb=>?_,jA fun b=>?_,hb0⟩
 ·obtain ⟨h1,h2⟩:=(hb0 b).1 hb;rcases chgM_cons.1 (hD.1 b h1) with ⟨_,he⟩|hbc
  ·rw [hi] at he;exact absurd he.symm h2
  ·exact hbc
 ·obtain ⟨h1,h2⟩:=(hb0 _).1 hqD;refine (hb0 b).2 ⟨hD.2 q (zAE _ hq) hqh h1 b hb (chgM_cons.2 (.inr hbc)),?_⟩;have:=hmsk q hq b hb;have:=hidx q hq;omega
 ·rw [z6,zAC] at hb;refine (hb0 b).2 ⟨hD.2 r zAL hp (by rw [hi];exact hDi) b hb.1 (chgM_cons.2 (.inr hb.2)),?_⟩
  have:=hm b hb.1;omega
 ·have hb:=hb0 b;rw [qa,qg]
  by_cases he:i=b
  ·subst he;simp [hDi]
  ·have hne:b≠i:=fun e=>he e.symm;have hiff:bit (Nat.xor D (Nat.pow 2 i)) b=true ↔ bit D b=true:=⟨fun h=>(hb.1 h).1,fun h=>hb.2 ⟨h,hne⟩⟩;rw [zBU.2 hiff];simp [he]
theorem xY {D0 D:Nat} (h:∀ b,bit D0 b=true->bit D b=true):∀ {l:List Rec},z4 D0 q l=true->z4 D q l=true
 | [],h=>by cases h
 | x::l,hf=>by
  simp only [z4,zAe,zAC] at hf ⊢;rcases hf with ⟨⟨a1,a2⟩,a3⟩|a
  ·exact .inl ⟨⟨a1,h _ a2⟩,a3⟩
  ·exact .inr (xY h a)
theorem wA {D:Nat} {l:List Rec} (h:z4 D q l=true):z4 D q (r::l)=true:=by simp [z4,h]
def RdOk (rs:List Rec) (rl:List Nat) (hs:List Stg) (q:Rec) (b:Nat) (X:Option Blk):Prop :=
 ∀ D S,zY rs D->qO (Nat.land q.m (chgM rs)) D=true->stg D rl hs=some S->z4 D q rs=true\/S.1.get b=X
theorem RdOk.quiet (h:RdOk rs rl hs q b X) (hp:r.hp=false):RdOk (r::rs) rl hs q b X:=by
 intro D S hD hsub hS;rw [za2 hp] at hsub;rcases h D S ((kE hp).1 hD) hsub hS with g|g
 ·exact .inl (wA g)
 ·exact .inr g
structure Up (i:Nat) (rs:List Rec):Prop where
 lt:∀ q∈rs,q.idx<i
 msk:∀ q∈rs,∀ b,bit q.m b=true->b<q.idx
theorem Up.cons (h:Up i rs) (hi:r.idx=i) (hm:∀ b,bit r.m b=true->b<i):Up (i+1) (r::rs):=by
 refine ⟨fun q hq=>?_,fun q hq b hb=>?_⟩
 ·rcases zAK.1 hq with rfl|hq
  ·omega
  ·have:=h.lt q hq;omega
 ·rcases zAK.1 hq with rfl|hq
  ·rw [hi];exact hm b hb
  ·exact h.msk q hq b hb
theorem zgG {D:Nat} (_hq:q∈rs) (_hu:Up i rs) (h:qO (Nat.land q.m (chgM (r::rs))) D=true):qO (Nat.land q.m (chgM rs)) D=true:=by
 refine subM_spec.2 fun b hb=>subM_spec.1 h b ?_;rw [z6,zAC] at hb ⊢;exact ⟨hb.1,chgM_cons.2 (.inr hb.2)⟩
theorem zkq {D D0:Nat} (hq:q∈rs) (hu:Up i rs) (h0:∀ b,bit D0 b=true ↔ (bit D b=true/\b≠i)) (h:qO (Nat.land q.m (chgM (r::rs))) D=true):qO (Nat.land q.m (chgM rs)) D0=true:=by
 refine subM_spec.2 fun b hb=>(h0 b).2 ⟨subM_spec.1 (zgG hq hu h) b hb,?_⟩;rw [z6,zAC] at hb;have:=hu.msk q hq b hb.1;have:=hu.lt q hq;omega
theorem RdOk.call (h:RdOk rs rl hs q b X) (hq:q∈rs) (hi:r.idx=i) (hp:r.hp=true) (hm:∀ b,bit r.m b=true->b<i) (hu:Up i rs) (hni:i ∉ rl):RdOk (r::rs) rl hs q b X:=by
 intro D S hD hsub hS;cases hDi:bit D i with
 | false =>
  rcases h D S (zkp hi hD hDi) (zgG hq hu hsub) hS with g|g
  ·exact .inl (wA g)
  ·exact .inr g
 | true =>
  obtain ⟨D0,k1,k2,k3,k4⟩:=znd hi hp hm hu.lt hu.msk hD hDi;rw [k3,zbF hni] at hS;rcases h D0 S k1 (zkq hq hu k4 hsub) hS with g|g
  ·exact .inl (wA (xY (fun b hb=>((k4 b).1 hb).1) g))
  ·exact .inr g
theorem RdOk.wr {S0 S':Stg} {tl:List Stg} (h:RdOk rs rl (S0::tl) q b X) (hq:q∈rs) (hi:r.idx=i) (hp:r.hp=true) (hm:∀ b,bit r.m b=true->b<i) (hu:Up i rs) (hall:∀ j∈rl,bit r.m j=true/\bit (chgM rs) j=true)
  (hc:bit r.m q.idx=true\/S'.1.get b=S0.1.get b\/∃ e∈rs,e.hp=true/\bit e.m q.idx=true/\bit r.m e.idx=true):RdOk (r::rs) (i::rl) (S'::S0::tl) q b X:=by
 intro D S hD hsub hS;cases hDi:bit D i with
 | false =>
  simp only [stg,hDi] at hS;rcases h D S (zkp hi hD hDi) (zgG hq hu hsub) hS with g|g
  ·exact .inl (wA g)
  ·exact .inr g
 | true =>
  simp only [stg,hDi,zAA] at hS;subst hS;obtain ⟨D0,k1,k2,k3,k4⟩:=znd hi hp hm hu.lt hu.msk hD hDi;rcases hc with hc|hc|⟨e,e1,e2,e3,e4⟩
  ·exact .inl (zct zAL hp (by rw [hi];exact hDi) hc)
  ·have hS0:stg D0 rl (S0::tl)=some S0:=zbG fun j hj=>subM_spec.1 k2 j (by rw [z6,(hall j hj).1,(hall j hj).2];rfl)
   rcases h D0 S0 k1 (zkq hq hu k4 hsub) hS0 with g|g
   ·exact .inl (wA (xY (fun b hb=>((k4 b).1 hb).1) g))
   ·exact .inr (hc.trans g)
  ·left
   refine zct (zAE _ e1) e2 ?_ e3;exact ((k4 _).1 (subM_spec.1 k2 e.idx (by rw [z6,e4,bit_chgM.2 ⟨e,e1,e2,rfl⟩];rfl))).1
inductive Fr (ds:List DR) (pa:List Nat):List Nat->List Stg->Prop where
 |nil (h:Stg):Fr ds pa [] [h]
 |cons {rl:List Nat} {h h':Stg} {hs:List Stg} (d:DR) (a:Nat):d∈ds->d.cls=.wr a->a<pa.length->(∀ X,X≠pd pa a->h.1.get X=h'.1.get X)->Fr ds pa rl (h'::hs)->Fr ds pa (d.rec'.idx::rl) (h::h'::hs)
theorem Fr.mono {ds ds':List DR} (h:Fr ds pa rl hs) (hd:∀ d∈ds,d∈ds') (hp:pa <+: pa'):Fr ds' pa' rl hs:=by
 induction h with
 | nil h=>exact .nil h
 | cons d a h1 h2 h3 h4 _ ih =>
  refine .cons d a (hd d h1) h2 (zAh h3 hp.length_le) (fun X hX=>h4 X ?_) ih
  rwa [qj hp h3] at hX
theorem Fr.get {ds:List DR} (h:Fr ds pa rl hs) {D b:Nat} (hc:∀ d∈ds,∀ a,d.cls=.wr a->d.rec'.idx∈rl->a<pa.length->bit D d.rec'.idx=false->b≠pd pa a) :
  ∀ {S0 S:Stg} {tl:List Stg},hs=S0::tl->stg D rl hs=some S->S.1.get b=S0.1.get b:=by
 induction h with
 | nil h=>intro S0 S tl e hS;cases e;simp only [stg,zAA] at hS;rw [hS]
 | @cons rl h h' hs d a h1 h2 h3 h4 _ ih =>
  intro S0 S tl e hS;cases e;simp only [stg] at hS;split at hS
  ·cases hS;rfl
  ·rename_i hb;rw [ih (fun d' hd' a' ha' hj=>hc d' hd' a' ha' (zAE _ hj)) rfl hS];exact (h4 b (hc d h1 a h2 zAL h3 hb)).symm
end
inductive Prs (R:DR->Rec->Prop):List DR->List Rec->Prop where
 |nil:Prs R [] []
 |cons {d:DR} {q:Rec} {ds:List DR} {rs:List Rec}:R d q->Prs R ds rs->Prs R (d::ds) (q::rs)
theorem Prs.mono {R R':DR->Rec->Prop} {ds:List DR} {rs:List Rec} (h:Prs R ds rs) (hR:∀ d q,d∈ds->q∈rs->R d q->R' d q):Prs R' ds rs:=by
 induction h with
 | nil=>exact .nil
 | cons h1 _ ih=>exact .cons (hR _ _ zAL zAL h1) (ih fun d q hd hq=>hR d q (zAE _ hd) (zAE _ hq))
theorem Prs.left {R:DR->Rec->Prop} {ds:List DR} {rs:List Rec} (h:Prs R ds rs) {d:DR} (hd:d∈ds):∃ q∈rs,R d q:=by
 induction h with
 | nil=>simp at hd
 | cons h1 _ ih =>
  rcases zAK.1 hd with rfl|hd
  ·exact ⟨_,zAL,h1⟩
  ·obtain ⟨q,h1,h2⟩:=ih hd;exact ⟨q,zAE _ h1,h2⟩
theorem Prs.right {R:DR->Rec->Prop} {ds:List DR} {rs:List Rec} (h:Prs R ds rs) {q:Rec} (hq:q∈rs):∃ d∈ds,R d q:=by
 induction h with
 | nil=>simp at hq
 | cons h1 _ ih =>
  rcases zAK.1 hq with rfl|hq
  ·exact ⟨_,zAL,h1⟩
  ·obtain ⟨d,h1,h2⟩:=ih hq;exact ⟨d,zAE _ h1,h2⟩
structure Key (d:DR) (q:Rec):Prop where
 idx:q.idx=d.rec'.idx
 m:q.m=d.rec'.m
 tm:q.tm=d.rec'.tm
 lm:q.lm=d.rec'.lm
theorem zlv {R:DR->Rec->Prop} (hR:∀ d q,R d q->Key d q) {ds:List DR} {rs:List Rec} (h:Prs R ds rs) (j:Nat):maskAt rs j=maskAt (ds.map (·.rec')) j:=by
 induction h with
 | nil=>rfl
 | cons h1 _ ih=>have:=hR _ _ h1;simp only [zAz,maskAt,this.idx,this.m,ih]
theorem zfq {R:DR->Rec->Prop} (hR:∀ d q,R d q->Key d q) {ds:List DR} {rs:List Rec} (h:Prs R ds rs):∀ (es:List Edge),qP rs es=qP (ds.map (·.rec')) es
 | []=>rfl
 | e::es=>by simp only [qP,zlv hR h,zfq hR h es]
theorem zh8 {R:DR->Rec->Prop} (hR:∀ d q,R d q->Key d q) {ds:List DR} {rs:List Rec} (h:Prs R ds rs) {r r':Rec} (e1:r.m=r'.m) (e2:r.tm=r'.tm) (e3:r.lm=r'.lm) (hs:qu (qm r) (ds.map (·.rec'))=true):qu (qm r') rs=true:=by
 refine vy fun q hq=>?_;obtain ⟨d,hd,hR'⟩:=h.right hq;have hk:=hR _ _ hR';have:=jo hs d.rec' (zAo.2 ⟨d,hd,rfl⟩);simp only [qm] at this ⊢;rw [<- e1,<- e2,<- e3,hk.idx,hk.tm,hk.lm];exact this
structure Lk1 (P:Program) (gl:Gl) (takes:List Tmp) (pa:List Nat) (rs:List Rec) (rl:List Nat) (hs:List Stg) (d:DR) (q:Rec):Prop where
 key:Key d q
 free:d.cls=.free->q.hp=false/\(q.free=true\/∀ n S,yf (cxn P gl n) takes [] q S)
 rd:∀ b,d.cls=.rd b->q.hp=false/\b<pa.length/\∃ X,RdOk rs rl hs q (pd pa b) X/\∀ n (S:Stg),S.1.get (pd pa b)=X->yf (cxn P gl n) takes [] q S
 call:d.cls=.call->q.hp=true/\q.idx ∉ rl/\∀ S:Stg,∃ k,∀ n,k<=n->∀ D D',(cxn P gl n).runC takes q.o q.env ⟨D',S.1,S.2,[]⟩ D=some (q.v,⟨D,S.1,S.2,[]⟩)
 wr:∀ a,d.cls=.wr a->q.hp=true/\a<pa.length/\q.idx∈rl
structure Lk (P:Program) (gl:Gl) (takes:List Tmp) (pa:List Nat) (s:St) (i:Nat) (ds:List DR) (rs:List Rec) (rl:List Nat) (hs:List Stg):Prop where
 prs:Prs (Lk1 P gl takes pa rs rl hs) ds rs
 head:∃ tl,hs=(s.H,s.lk)::tl
 fr:Fr ds pa rl hs
 up:Up i rs
 nd:rl.Nodup
 rlr:∀ j∈rl,∃ q∈rs,q.idx=j/\q.hp=true
theorem Lk.rlt {i:Nat} {ds:List DR} {rs:List Rec} {rl:List Nat} {hs:List Stg} (h:Lk P gl takes pa s i ds rs rl hs):i ∉ rl:=fun hh=>by
 obtain ⟨q,h1,h2,_⟩:=h.rlr i hh;have:=h.up.lt q h1;omega
theorem zne {pa:List Nat} {rs0:List Rec} {rl:List Nat} {hs:List Stg} (S:Stg) {ds:List DR} {rs:List Rec} (h:Prs (Lk1 P gl takes pa rs0 rl hs) ds rs) :
  ∃ k,∀ n,k<=n->∀ q∈rs,q.hp=true->q.idx ∉ rl->∀ D D',(cxn P gl n).runC takes q.o q.env ⟨D',S.1,S.2,[]⟩ D=some (q.v,⟨D,S.1,S.2,[]⟩):=by
 induction h with
 | nil=>exact ⟨0,fun n _ q hq=>by simp at hq⟩
 | @cons d q ds rs h1 _ ih =>
  obtain ⟨k1,ih⟩:=ih;cases hc:d.cls with
  | call =>
   obtain ⟨_,_,h2⟩:=h1.call hc;obtain ⟨k2,h2⟩:=h2 S;refine ⟨max k1 k2,fun n hn q' hq' hp hni=>?_⟩;rcases zAK.1 hq' with rfl|hq'
   ·exact h2 n (by omega)
   ·exact ih n (by omega) q' hq' hp hni
  | free =>
   refine ⟨k1,fun n hn q' hq' hp hni=>?_⟩;rcases zAK.1 hq' with rfl|hq'
   ·rw [(h1.free hc).1] at hp;cases hp
   ·exact ih n hn q' hq' hp hni
  | rd b =>
   refine ⟨k1,fun n hn q' hq' hp hni=>?_⟩;rcases zAK.1 hq' with rfl|hq'
   ·rw [(h1.rd b hc).1] at hp;cases hp
   ·exact ih n hn q' hq' hp hni
  | wr a =>
   refine ⟨k1,fun n hn q' hq' hp hni=>?_⟩;rcases zAK.1 hq' with rfl|hq'
   ·exact absurd (h1.wr a hc).2.2 hni
   ·exact ih n hn q' hq' hp hni
end Go.Vm.Sx
namespace Go.Vm.Sx
set_option linter.unusedSectionVars false
open Go Go.Vm
variable {P:Program} {gl:Gl} {ph:PH} {N:Nat} {ρ ρ':List V} {pa pa':List Nat} {σ:Sg} {s:St} {n0:Nat} {B:List Blk} {env:List V} {H:Hp} {lk:List (Nat×Nat)} {df:List (V×List V)} {takes:List Tmp} {k:KT} {t:Tree}
variable [NoU gl]
def zoZ (o:Oper) (x:OR):Bool:=match x with|.val _=>!zck o|_=>false
theorem znf {cx:Cx} (hu:∀ e,cx.uq e=false) {all:Array Oper} {i m:Nat} {rs:List Rec} {c0:Cfg} {cs:List Cfg} {o:Oper} {os:List Oper} {x:OR} {s1:St} {v:V} (hm:qP rs o.after.toList=some m) (hw:zq all o env=some true) (hop:cx.op takes o env H lk df=some (x,s1)) (hx:zoQ x v) {r:Rec}
  (hr:r=⟨i,o,m,tmM takes o,Nat.lor (tmM takes o) (lkM all o),kS takes o,zoZ o x,env,v⟩) (hs:qu (qm r) rs=true) :
  cx.opsD all takes i rs (c0::cs) (o::os) ⟨env,H,lk,df⟩=cx.cfgsK takes rs r c0 ⟨Nat.lor c0.D (Nat.pow 2 i),s1.H,s1.lk,s1.defers⟩ cs fun cs'=>cx.opsD all takes (i+1) (r::rs) cs' os ⟨putA s1.env o.dst v,s1.H,s1.lk,s1.defers⟩:=by
 obtain ⟨env1,H1,lk1,df1⟩:=s1;subst hr;rcases hx with rfl|⟨rfl,rfl⟩
 ·simp only [zoZ] at hs ⊢;simp only [Cx.opsD,hm,zH,hw,hop,zI,zS,yy hu,zhS hu,hs]
 ·simp only [zoZ] at hs ⊢;simp only [Cx.opsD,hm,zH,hw,hop,zI,zS,yy hu,hs]
theorem zlw {cx:Cx} {all:Array Oper} {i m:Nat} {rs:List Rec} {c0:Cfg} {cs:List Cfg} {o:Oper} {os:List Oper} (hm:qP rs o.after.toList=some m) (hw:zq all o env=some false) {r:Rec}
  (hr:r=⟨i,o,m,tmM takes o,Nat.lor (tmM takes o) (lkM all o),false,true,env,.tup []⟩) (hs:qu (qm r) rs=true) :
  cx.opsD all takes i rs (c0::cs) (o::os) ⟨env,H,lk,df⟩=cx.cfgsK takes rs r c0 ⟨Nat.lor c0.D (Nat.pow 2 i),H,lk,df⟩ cs fun cs'=>cx.opsD all takes (i+1) (r::rs) cs' os ⟨putA env o.dst (.tup []),H,lk,df⟩:=by
 subst hr;simp only [Cx.opsD,hm,zH,hw,zI,zS,hs]
theorem zo0 {i m:Nat} {rs:List Rec} {es:List Edge} (hu:Up i rs) (h:qP rs es=some m):∀ b,bit m b=true->b<i:=by
 intro b hb;obtain ⟨_,h2⟩:=vN h;have:=h2 b hb
 grind [Up]
def DGo (P:Program) (gl:Gl) (ph:PH) (N:Nat) (takes:List Tmp) (all:Array Oper) (kk:Sg->Option Tree) (r:Nat×List V) (n0:Nat) (B:List Blk) (i:Nat) (rs:List Rec) (rl:List Nat) (hs:List Stg) (os:List Oper) (ρ:List V) (pa:List Nat) (s:St):Prop :=
 ∃ σ' ρ' pa' t' s',kk σ'=some t'/\evT ph gl N t' ρ'=some r/\ρ <+: ρ'/\pa <+: pa'/\Rel n0 B ρ' pa' σ' s'/\∃ k0,∀ n,k0<=n->∀ c0 cs,DInv (cxn P gl n) takes [] i rs rl hs c0 cs->(cxn P gl n).opsD all takes i rs (c0::cs) os s=some (.normal,s')
theorem Lk1.quiet {rs:List Rec} {rl:List Nat} {hs:List Stg} {d:DR} {q r:Rec} (h:Lk1 P gl takes pa rs rl hs d q) (hp:r.hp=false) (hpa:pa <+: pa'):Lk1 P gl takes pa' (r::rs) rl hs d q:=by
 refine ⟨h.key,h.free,fun b hb=>?_,h.call,fun a ha=>?_⟩
 ·obtain ⟨h1,h2,X,h3,h4⟩:=h.rd b hb;refine ⟨h1,zAh h2 hpa.length_le,X,?_,?_⟩
  ·rw [qj hpa h2];exact h3.quiet hp
  ·rw [qj hpa h2];exact h4
 ·obtain ⟨h1,h2,h3⟩:=h.wr a ha;exact ⟨h1,zAh h2 hpa.length_le,h3⟩
theorem Lk1.callr {i:Nat} {rs:List Rec} {rl:List Nat} {hs:List Stg} {d:DR} {q r:Rec} (h:Lk1 P gl takes pa rs rl hs d q) (hq:q∈rs) (hi:r.idx=i) (hp:r.hp=true) (hm:∀ b,bit r.m b=true->b<i) (hu:Up i rs) (hni:i ∉ rl) (hpa:pa <+: pa'):Lk1 P gl takes pa' (r::rs) rl hs d q:=by
 refine ⟨h.key,h.free,fun b hb=>?_,h.call,fun a ha=>?_⟩
 ·obtain ⟨h1,h2,X,h3,h4⟩:=h.rd b hb;refine ⟨h1,zAh h2 hpa.length_le,X,?_,?_⟩
  ·rw [qj hpa h2];exact h3.call hq hi hp hm hu hni
  ·rw [qj hpa h2];exact h4
 ·obtain ⟨h1,h2,h3⟩:=h.wr a ha;exact ⟨h1,zAh h2 hpa.length_le,h3⟩
theorem Lk1.wrr {i:Nat} {rs:List Rec} {rl:List Nat} {S0 S':Stg} {tl:List Stg} {d:DR} {q r:Rec} (h:Lk1 P gl takes pa rs rl (S0::tl) d q) (hq:q∈rs) (hi:r.idx=i) (hp:r.hp=true) (hm:∀ b,bit r.m b=true->b<i) (hu:Up i rs) (hall:∀ j∈rl,bit r.m j=true/\bit (chgM rs) j=true) (hpa:pa <+: pa')
  (hc:∀ b,d.cls=.rd b->b<pa.length->bit r.m q.idx=true\/S'.1.get (pd pa b)=S0.1.get (pd pa b)\/∃ e∈rs,e.hp=true/\bit e.m q.idx=true/\bit r.m e.idx=true):Lk1 P gl takes pa' (r::rs) (i::rl) (S'::S0::tl) d q:=by
 refine ⟨h.key,h.free,fun b hb=>?_,fun hd=>?_,fun a ha=>?_⟩
 ·obtain ⟨h1,h2,X,h3,h4⟩:=h.rd b hb;refine ⟨h1,zAh h2 hpa.length_le,X,?_,?_⟩
  ·rw [qj hpa h2];exact h3.wr hq hi hp hm hu hall (hc b hb h2)
  ·rw [qj hpa h2];exact h4
 ·obtain ⟨h1,h2,h3⟩:=h.call hd;refine ⟨h1,?_,h3⟩;simp only [zAK,not_or];exact ⟨fun e=>by have:=hu.lt q hq;omega,h2⟩
 ·obtain ⟨h1,h2,h3⟩:=h.wr a ha;exact ⟨h1,zAh h2 hpa.length_le,zAE _ h3⟩
theorem zbH {cx:Cx} {o:Oper} {c:Cfg} {D:Nat} {x:OR} {v:V} {s1:St} (h:cx.op takes o env c.H c.lk c.df=some (x,s1)) (hx:zoQ x v):cx.runC takes o env c D=some (v,⟨D,s1.H,s1.lk,s1.defers⟩):=by
 unfold Cx.runC;rcases hx with rfl|⟨rfl,rfl⟩<;>simp only [h]
theorem zfr {o:Oper} (hn:kS takes o=false) (n n':Nat):(cxn P gl n).op takes o env H lk df=(cxn P gl n').op takes o env H lk df:=by
 obtain ⟨dst,op,type,pos,after,guard⟩:=o;cases op
 case slice t x lo hi mx=>cases mx<;>rfl
 case call c =>
  obtain ⟨callee,args,ats⟩:=c;cases callee
  case builtin b =>
   have hcp:b≠.copy:=by rintro rfl;simp [kS] at hn
   rw [za4 (NoU.out (gl:=gl)) hcp,za4 (NoU.out (gl:=gl)) hcp];rfl
  all_goals simp [kS] at hn
 all_goals first|rfl|(simp [kS] at hn)
theorem zq3 {o:Oper} {b:Nat} (hc:qY takes σ o=some (.rd b)) (h:xOp P takes σ o k=some t) (hr:Rel n0 B ρ pa σ s):b<σ.na:=by
 have hn:kS takes o=false:=zgF hc;obtain ⟨dst,op,type,pos,after,guard⟩:=o;cases op
 case load tt a =>
  rcases yC hc with ⟨_,_,e⟩|⟨ht,b',off,hpk,e⟩|⟨_,_,_,e⟩|⟨_,_,_,_,e⟩<;>cases e
  simp only [xOp,ht] at h;have key:wJ P σ (.load tt a) k=some t->b<σ.na:=fun h=>by
   unfold wJ at h;simp only [zcQ,hpk] at h;split at h
   ·rename_i v hv;split at hv
    ·rename_i cs _ hf;exact hr.bn b _ hf
    ·cases hv
   ·cases h
  cases a with
  | global g=>simp [pk] at hpk
  | _=>exact key h
 case store tt a x =>
  simp only [qY] at hc;split at hc<;>cases hc
 case call c =>
  obtain ⟨callee,args,ats⟩:=c;simp only [qY] at hc
  repeat' split at hc
  all_goals cases hc
 all_goals simp only [qY] at hc;cases hc
theorem zd7 {x:Operand} {f g:Sg->SC->Option Tree} (h:vU σ x f=some t) (hfg:∀ σ' sc,σ'.na=σ.na->σ'.blks=σ.blks->∀ t,f σ' sc=some t->g σ' sc=some t):vU σ x g=some t:=by
 unfold vU at h ⊢;split at h
 ·split at h
  ·exact hfg _ _ (by exact rfl) (by exact rfl) _ h
  ·split at h
   ·exact hfg _ _ (by exact rfl) (by exact rfl) _ h
   ·cases h
  ·split at h
   ·exact hfg _ _ (by exact rfl) (by exact rfl) _ h
   ·cases h
  ·cases h
 ·split at h
  ·exact hfg _ _ (by exact rfl) (by exact rfl) _ h
  ·cases h
def zgH (c:Cls) (σ:Sg):Bool:=match c with|.wr a=>Nat.blt a σ.na|_=>true
theorem zng {o:Oper} {c:Cls} (hc:qY takes σ o=some c) (h:xOp P takes σ o k=some t) (hr:Rel n0 B ρ pa σ s):xOp P takes σ o (fun σ' v=>if zgH c σ' then k σ' v else none)=some t:=by
 have triv:(∀ σ',zgH c σ'=true)->xOp P takes σ o (fun σ' v=>if zgH c σ' then k σ' v else none)=some t:=fun hh=>by
  simp only [hh,if_true];exact h
 cases c with
 | free=>exact triv fun _=>rfl
 | rd b=>exact triv fun _=>rfl
 | call=>exact triv fun _=>rfl
 | wr a =>
  clear triv;obtain ⟨dst,op,type,pos,after,guard⟩:=o;have hb:∀ x,qy a σ.blks=some x->Nat.blt a σ.na=true:=fun x hx=>by
   have:=hr.bn a x hx;simpa [zBq] using this
  cases op
  case load tt a' =>
   rcases yC hc with ⟨_,_,e⟩|⟨_,_,_,_,e⟩|⟨_,_,_,e⟩|⟨ht,b',off,hpk,e⟩<;>cases e
   simp only [xOp,ht,hpk] at h ⊢;split at h
   ·rename_i h1 h2;cases h2;split at h
    ·rename_i cs ty hf;simp only [zgH,hb _ hf,if_true];exact h
    ·cases h
   ·cases h
  case alloc tt =>
   simp only [qY,zAA,Cls.wr.injEq] at hc;subst hc;simp only [xOp] at h ⊢;split at h
   ·rename_i z hz;have hlt:Nat.blt σ.na (σ.na+1)=true:=by simp
    simp only [zgH,vV,hlt,if_true];exact h
   ·cases h
  case box tt x =>
   simp only [qY,zAA,Cls.wr.injEq] at hc;subst hc;simp only [xOp] at h ⊢;refine zd7 h fun σ' sc e1 e2 t h=>?_;have hlt:Nat.blt σ.na (σ'.na+1)=true:=by rw [e1];simp
   simp only [zgH,vV,hlt,if_true];exact h
  case store tt a' x =>
   simp only [qY] at hc;simp only [xOp] at h ⊢;split at hc
   ·rename_i b off hpk;cases hc;simp only [hpk] at h ⊢;refine zd7 h fun σ' sc e1 e2 t h=>?_;split at h
    ·rename_i n cs ty h1 h2;have hlt:=hb _ (by rw [<- e2];exact h2)
     rw [<- e1] at hlt;simp only [zgH,hlt,if_true];exact h
    ·cases h
   ·cases hc
  case call c =>
   obtain ⟨callee,args,ats⟩:=c;simp only [qY] at hc
   repeat' split at hc
   all_goals cases hc
  all_goals simp only [qY] at hc;cases hc
theorem zgI (he:Env P gl ph) {all:Array Oper} {kk:Sg->Option Tree} {r:Nat×List V}:∀ {os:List Oper} {i:Nat} {ds:List DR} {σ:Sg} {ρ:List V} {pa:List Nat} {s:St} {t:Tree} {rs:List Rec} {rl:List Nat} {hs:List Stg},
  zbu P all takes kk i ds os σ=some t->Rel n0 B ρ pa σ s->evT ph gl N t ρ=some r->Lk P gl takes pa s i ds rs rl hs->DGo P gl ph N takes all kk r n0 B i rs rl hs os ρ pa s
 | [],i,ds,σ,ρ,pa,s,t,rs,rl,hs,h,hr,hq,hL=>⟨σ,ρ,pa,t,s,h,hq,zAI _,zAI _,hr,0,fun n _ c0 cs _=>rfl⟩
 | o::os,i,ds,σ,ρ,pa,⟨env,H,lk,df⟩,t,rs,rl,hs,h,hr,hq,hL=>by
  simp only [zbu] at h;split at h
  ·cases h
  rename_i htk;simp only [zAn,zBY] at htk;split at h
  ·cases h
  rename_i m hm0;split at h
  ·cases h
  rename_i hsl;simp only [zAn,zBY] at hsl;have hm:qP rs o.after.toList=some m:=by rw [zfq (fun d q h=>h.key) hL.prs];exact hm0
  have hmlt:=zo0 hL.up hm;obtain ⟨tl,hhs⟩:=hL.head;have hdf:df=[]:=hr.df;subst hdf;have hni:=hL.rlt;have run:∀ {σ0:Sg} {ρ0:List V} {t0:Tree} {c:Cls},zq all o env=some true->Rel n0 B ρ0 pa σ0 ⟨env,H,lk,[]⟩->ρ <+: ρ0->qY takes σ0 o=some c->zhX m c ds=true ->
    xOp P takes σ0 o (fun σ v=>zbu P all takes kk (i+1) (⟨zdV takes all i m o,c⟩::ds) os (putS σ o.dst v))=some t0->evT ph gl N t0 ρ0=some r->DGo P gl ph N takes all kk r n0 B i rs rl hs (o::os) ρ pa ⟨env,H,lk,[]⟩:=by
   intro σ0 ρ0 t0 c hw hr0 hpre hc hcm h0 hq0;obtain ⟨σ1,sv,ρ1,pa1,t1,x,s1,v,g1,g2,g3,g4,g5,⟨k1,g6⟩,g7,g8,g9⟩:=zm9 he (zng hc h0 hr0) hr0 hq0 htk
   dsimp only at g1
   have gw:zgH c σ1=true:=by
    split at g1
    ·assumption
    ·cases g1
   simp only [gw,if_true] at g1;obtain ⟨env1,H1,lk1,df1⟩:=s1;have hdf1:df1=[]:=g5.df;subst hdf1;have g5':=g5.putS (d:=o.dst) (sv:=sv) (v:=v) g8;have hhp:=zgF hc
   let rec0:Rec:=⟨i,o,m,tmM takes o,Nat.lor (tmM takes o) (lkM all o),kS takes o,zoZ o x,env,v⟩
   have hslr:qu (qm rec0) rs=true:=zh8 (fun d q h=>h.key) hL.prs (r:=zdV takes all i m o) (r':=rec0) rfl rfl rfl hsl;have hkey:Key ⟨zdV takes all i m o,c⟩ rec0:=⟨rfl,rfl,rfl,rfl⟩;have step:=fun n (hn:k1<=n) c0 cs=>znf (NoU.out (gl:=gl)) (c0:=c0) (cs:=cs) (os:=os) (rs:=rs) hm hw (g6 n hn) g7 (r:=rec0) rfl hslr;have hpna:pa.length=σ0.na:=hr0.na
   have fin:∀ {rl':List Nat} {hs':List Stg},Lk P gl takes pa1 ⟨putA env1 o.dst v,H1,lk1,[]⟩ (i+1) (⟨zdV takes all i m o,c⟩::ds) (rec0::rs) rl' hs' ->
     (∃ k2,∀ n,k2<=n->∀ c0 cs,DInv (cxn P gl n) takes [] i rs rl hs c0 cs->∃ c0' cs',(∀ k,(cxn P gl n).cfgsK takes rs rec0 c0 ⟨Nat.lor c0.D (Nat.pow 2 i),H1,lk1,[]⟩ cs k=k (c0'::cs'))/\DInv (cxn P gl n) takes [] (i+1) (rec0::rs) rl' hs' c0' cs') ->
     DGo P gl ph N takes all kk r n0 B i rs rl hs (o::os) ρ pa ⟨env,H,lk,[]⟩:=by
    intro rl' hs' hL' ⟨k2,hk2⟩;obtain ⟨σ',ρ',pa',t',s',f1,f2,f3,f4,f5,k3,f6⟩:=zgI he g1 g5' g2 hL';refine ⟨σ',ρ',pa',t',s',f1,f2,(hpre.trans g3).trans f3,g4.trans f4,f5,max k1 (max k2 k3),fun n hn c0 cs hD=>?_⟩;rw [step n (by omega) c0 cs]
    obtain ⟨c0',cs',e1,e2⟩:=hk2 n (by omega) c0 cs hD
    rw [e1];exact f6 n (by omega) c0' cs' e2
   have look:rec0.hp=false->(rec0.free=true\/∀ n D (S:Stg),zY rs D->qO (Nat.land rec0.m (chgM rs)) D=true->stg D rl hs=some S->yf (cxn P gl n) takes [] rec0 S)->Lk1 P gl takes pa1 (rec0::rs) rl hs ⟨zdV takes all i m o,c⟩ rec0 ->
     DGo P gl ph N takes all kk r n0 B i rs rl hs (o::os) ρ pa ⟨env,H,lk,[]⟩:=by
    intro hp hv hl1;obtain ⟨v',e1,e2,_⟩:=wh (by rw [yy (NoU.out (gl:=gl))];exact hp) (g6 k1 (zAO _))
    simp only [St.mk.injEq] at e2;obtain ⟨_,rfl,rfl,_⟩:=e2;refine fin (rl':=rl) (hs':=hs) ⟨?_,⟨tl,hhs⟩,hL.fr.mono (fun d hd=>zAE _ hd) g4,hL.up.cons rfl hmlt,hL.nd,fun j hj=>?_⟩ ⟨0,fun n _ c0 cs hD=>?_⟩
    ·exact .cons hl1 (hL.prs.mono fun d q _ _ hh=>hh.quiet hp g4)
    ·obtain ⟨q,q1,q2⟩:=hL.rlr j hj;exact ⟨q,zAE _ q1,q2⟩
    ·obtain ⟨e1,e2⟩:=hD.quiet (r:=rec0) rfl hmlt hp (hv.imp id fun hv=>hv n) (c1:=⟨Nat.lor c0.D (Nat.pow 2 i),H1,lk1,[]⟩);exact ⟨c0,cs,e1,e2⟩
   cases c with
   | free =>
    have hp:rec0.hp=false:=hhp;obtain ⟨v',e1,e2,_⟩:=wh (by rw [yy (NoU.out (gl:=gl))];exact hp) (g6 k1 (zAO _))
    have hx:x=.val v:=by rcases g7 with g7|⟨g7,_⟩;exact g7;rw [g7] at e1;cases e1
    have hsame:∀ n (S:Stg),yf (cxn P gl n) takes [] rec0 S:=fun n S=>by
     have hop:=g6 k1 (zAO _);rw [hx,zfr hp k1 n] at hop;obtain ⟨s2,hs2⟩:=zlu hc (NoU.out (gl:=gl)) hr0.here rfl hop S.1 S.2 [];exact ⟨_,zbH (x:=.val v) (c:=⟨0,S.1,S.2,[]⟩) (D:=0) hs2 (.inl rfl)⟩
    exact look hp (.inr fun n D S _ _ _=>hsame n S) ⟨hkey,fun _=>⟨hp,.inr hsame⟩,fun _ hh=>(by cases hh),fun hh=>(by cases hh),fun _ hh=>(by cases hh)⟩
   | rd b =>
    have hp:rec0.hp=false:=hhp;obtain ⟨v',e1,e2,_⟩:=wh (by rw [yy (NoU.out (gl:=gl))];exact hp) (g6 k1 (zAO _))
    have hx:x=.val v:=by rcases g7 with g7|⟨g7,_⟩;exact g7;rw [g7] at e1;cases e1
    have hb:b<pa.length:=by rw [hpna];exact zq3 hc h0 hr0
    have hsame:∀ n (S:Stg),S.1.get (pd pa b)=H.get (pd pa b)->yf (cxn P gl n) takes [] rec0 S:=fun n S hS=>by
     have hop:=g6 k1 (zAO _);rw [hx,zfr hp k1 n] at hop;obtain ⟨s2,hs2⟩:=zq2 hc hr0.here hop S.1 S.2 [] hS;exact ⟨_,zbH (x:=.val v) (c:=⟨0,S.1,S.2,[]⟩) (D:=0) hs2 (.inl rfl)⟩
    have hget:∀ D (S:Stg),zY rs D->qO (Nat.land rec0.m (chgM rs)) D=true->stg D rl hs=some S->S.1.get (pd pa b)=H.get (pd pa b):=fun D S hD hsub hS=>by
     refine hL.fr.get (fun d hd a ha hj hlt hbit=>?_) hhs hS;simp only [zhX] at hcm;have hcd:=jo hcm d hd;obtain ⟨q,q1,q2,q3⟩:=hL.rlr _ hj;have hnm:bit m d.rec'.idx=false:=by
      cases hh:bit m d.rec'.idx with
      | false=>rfl
      | true =>
       have:=subM_spec.1 hsub d.rec'.idx (by rw [z6,bit_chgM.2 ⟨q,q1,q3,q2⟩];simp only [rec0,hh,zBL])
       rw [this] at hbit;cases hbit
     rw [hnm,ha] at hcd;simp only [zmM,zBE,zAn] at hcd;intro e;have:=hr0.inj b a (by rw [<- hpna];exact hb) (by rw [<- hpna];exact hlt) e
     subst this;simp at hcd
    refine look hp (.inr fun n D S h1 h2 h3=>hsame n S (hget D S h1 h2 h3)) ⟨hkey,fun hh=>(by cases hh),fun b' hb'=>?_,fun hh=>(by cases hh),fun _ hh=>(by cases hh)⟩
    cases hb';refine ⟨hp,zAh hb g4.length_le,H.get (pd pa b),?_,?_⟩
    ·rw [qj g4 hb];intro D S hD hsub hS;rw [za2 hp] at hsub;exact .inr (hget D S ((kE hp).1 hD) hsub hS)
    ·rw [qj g4 hb];exact hsame
   | call =>
    have hp:rec0.hp=true:=hhp;obtain ⟨v',hany⟩:=znc he.calls hc h0 hr0 hq0;have hv':x=.val v'/\(⟨env1,H1,lk1,[]⟩:St)=⟨env,H,lk,[]⟩:=by
     obtain ⟨k2,h2⟩:=hany H;have a:=g6 (max k1 k2) (by omega)
     have b:=h2 (max k1 k2) (by omega) lk []
     have:=a.symm.trans b;simpa using this
    obtain ⟨hxv,he1⟩:=hv';have hvv:v'=v:=by
     rcases g7 with g7|⟨g7,_⟩
     ·rw [g7] at hxv;cases hxv;rfl
     ·rw [g7] at hxv;cases hxv
    subst hvv;simp only [St.mk.injEq,zBn] at he1;obtain ⟨rfl,rfl,rfl⟩:=he1;have hcall:∀ S:Stg,∃ k,∀ n,k<=n->∀ D D',(cxn P gl n).runC takes rec0.o rec0.env ⟨D',S.1,S.2,[]⟩ D=some (rec0.v,⟨D,S.1,S.2,[]⟩):=fun S=>by
     obtain ⟨k2,h2⟩:=hany S.1;exact ⟨k2,fun n hn D D'=>zbH (x:=.val v') (c:=⟨D',S.1,S.2,[]⟩) (h2 n hn S.2 []) (.inl rfl)⟩
    refine fin (rl':=rl) (hs':=hs) ⟨?_,⟨tl,hhs⟩,hL.fr.mono (fun d hd=>zAE _ hd) g4,hL.up.cons rfl hmlt,hL.nd,fun j hj=>?_⟩ ?_
    ·refine .cons ⟨hkey,fun hh=>(by cases hh),fun _ hh=>(by cases hh),fun _=>⟨hp,hni,hcall⟩,fun _ hh=>(by cases hh)⟩ (hL.prs.mono fun d q _ hq hh=>hh.callr hq rfl hp hmlt hL.up hni g4)
    ·obtain ⟨q,q1,q2⟩:=hL.rlr j hj;exact ⟨q,zAE _ q1,q2⟩
    ·have hk:∃ k2,∀ n,k2<=n->∀ S∈hs,∀ D D',(cxn P gl n).runC takes rec0.o rec0.env ⟨D',S.1,S.2,[]⟩ D=some (rec0.v,⟨D,S.1,S.2,[]⟩):=by
      have:∀ l:List Stg,∃ k2,∀ n,k2<=n->∀ S∈l,∀ D D',(cxn P gl n).runC takes rec0.o rec0.env ⟨D',S.1,S.2,[]⟩ D=some (rec0.v,⟨D,S.1,S.2,[]⟩):=by
       intro l
       induction l with
       | nil=>exact ⟨0,fun n _ S hS=>by simp at hS⟩
       | cons S l ih =>
        obtain ⟨k2,ih⟩:=ih;obtain ⟨k3,h3⟩:=hcall S;refine ⟨max k2 k3,fun n hn S' hS'=>?_⟩;rcases zAK.1 hS' with rfl|hS'
        ·exact h3 n (by omega)
        ·exact ih n (by omega) S' hS'
      exact this hs
     obtain ⟨k2,hk2⟩:=hk;refine ⟨k2,fun n hn c0 cs hD=>?_⟩;have hhead:∀ D,(∀ j∈rl,bit D j=true)->stg D rl hs=some (H1,lk1):=fun D hDD=>by rw [hhs];exact zbG hDD
     obtain ⟨cs',e1,cs2,e2,e3⟩:=hD.chg (r:=rec0) (rl':=rl) (hs':=hs) (c1:=⟨Nat.lor c0.D (Nat.pow 2 i),H1,lk1,[]⟩) rfl hmlt hp rfl
      (fun c hc hsub=>by
       obtain ⟨d1,d2⟩:=hD.cfg c hc;refine ⟨c.H,c.lk,fun D'=>?_,by rw [zbF hni];exact d1⟩
       have:=hk2 n hn (c.H,c.lk) (zgE d1) D' c.D;obtain ⟨cD,cH,clk,cdf⟩:=c;simp only at d2 this ⊢;subst d2
       exact this)
      ⟨(by
        rw [zbF hni];refine hhead c0.D fun j hj=>?_;obtain ⟨q,q1,q2,q3⟩:=hL.rlr j hj
        rw [hD.c0D];exact bit_chgM.2 ⟨q,q1,q3,q2⟩),rfl⟩
      (fun D _=>rfl) (.inl ⟨rfl,rfl⟩)
      (fun q hq hqh hqi S hS D D'=>by
       rcases zAK.1 hq with rfl|hq
       ·exact hk2 n hn S hS D D'
       ·exact hD.calls q hq hqh hqi S hS D D')
      (za3 (fun q hq=>zAE _ hq) (fun b hb=>chgM_cons.2 (.inr hb)) hD.chain) hL.nd
      (fun e=>by have:=congrArg List.length e;simp at this)
     subst e2;exact ⟨_,cs2,e1,e3⟩
   | wr a =>
    have hp:rec0.hp=true:=hhp;have hna1:pa1.length=σ1.na:=g5.na;have ha:a<pa1.length:=by rw [hna1];simpa [zgH,zBq] using gw
    simp only [zhX] at hcm;have hall:∀ j∈rl,bit rec0.m j=true/\bit (chgM rs) j=true:=fun j hj=>by
     obtain ⟨q,q1,q2,q3⟩:=hL.rlr j hj;refine ⟨?_,bit_chgM.2 ⟨q,q1,q3,q2⟩⟩;obtain ⟨d,hd,hdq⟩:=hL.prs.right q1;have hcd:=jo hcm d hd;have hji:d.rec'.idx=j:=by rw [<- hdq.key.idx];exact q2
     cases hdc:d.cls with
     | free=>rw [(hdq.free hdc).1] at q3;cases q3
     | rd b=>rw [(hdq.rd b hdc).1] at q3;cases q3
     | call=>exact absurd (by rw [q2];exact hj) (hdq.call hdc).2.1
     | wr a' =>
      rw [hdc,hji] at hcd;simpa using hcd
    have hcase:∀ d q,d∈ds->q∈rs->Lk1 P gl takes pa rs rl hs d q->∀ b,d.cls=.rd b->b<pa.length->bit rec0.m q.idx=true\/H1.get (pd pa b)=H.get (pd pa b)\/∃ e∈rs,e.hp=true/\bit e.m q.idx=true/\bit rec0.m e.idx=true:=fun d q hd hq hdq b hdc hlt=>by
     have hcd:=jo hcm d hd;rw [hdc] at hcd;simp only [zAe,zAn] at hcd;rcases hcd with g|g|g
     ·left;rw [hdq.key.idx];exact g
     ·right;left
      rw [<- qj g4 hlt];refine g9 a hc _ fun e=>?_;have:=g5.inj b a (by rw [<- hna1];exact zAh hlt g4.length_le) (by rw [<- hna1];exact ha) e
      subst this;simp at g
     ·right;right
      obtain ⟨e,he1,he2⟩:=zgx g;simp only [zAC] at he2;obtain ⟨qe,f1,f2⟩:=hL.prs.left he1;cases hec:e.cls with
      | wr a' =>
       obtain ⟨f3,_,f4⟩:=f2.wr a' hec;exact ⟨qe,f1,f3,by rw [f2.key.m,hdq.key.idx];exact he2.2,(hall _ f4).1⟩
      | _=>rw [hec] at he2;simp [Cls.real] at he2
    obtain ⟨k3,hk3⟩:=zne (H1,lk1) hL.prs;have hLL:=hL;subst hhs;refine fin (rl':=i::rl) (hs':=(H1,lk1)::(H,lk)::tl) ⟨?_,⟨_,rfl⟩,?_,hL.up.cons rfl hmlt,?_,fun j hj=>?_⟩ ⟨max k1 k3,fun n hn c0 cs hD=>?_⟩
    ·exact .cons ⟨hkey,fun hh=>(by cases hh),fun _ hh=>(by cases hh),fun hh=>(by cases hh),fun a' hh=>(by cases hh;exact ⟨hp,ha,zAL⟩)⟩ (hL.prs.mono fun d q hd hq hh=>hh.wrr hq rfl hp hmlt hL.up hall g4 (hcase d q hd hq hh))
    ·exact .cons ⟨zdV takes all i m o,.wr a⟩ a zAL rfl ha (fun X hX=>g9 a hc X hX) (hL.fr.mono (fun d hd=>zAE _ hd) g4)
    ·exact List.nodup_cons.2 ⟨hni,hL.nd⟩
    ·rcases zAK.1 hj with rfl|hj
     ·exact ⟨rec0,zAL,rfl,hp⟩
     ·obtain ⟨q,q1,q2⟩:=hL.rlr j hj;exact ⟨q,zAE _ q1,q2⟩
    ·have hbi:∀ D,bit (Nat.lor D (Nat.pow 2 i)) i=true:=fun D=>by rw [qa,qg];simp
     obtain ⟨cs',e1,cs2,e2,e3⟩:=hD.chg (r:=rec0) (rl':=i::rl) (hs':=(H1,lk1)::(H,lk)::tl) (c1:=⟨Nat.lor c0.D (Nat.pow 2 i),H1,lk1,[]⟩) rfl hmlt hp rfl
      (fun c hc' hsub=>by
       obtain ⟨d1,d2⟩:=hD.cfg c hc';have:stg c.D rl ((H,lk)::tl)=some (H,lk):=zbG fun j hj=>subM_spec.1 hsub j (by rw [z6,(hall j hj).1,(hall j hj).2];rfl)
       rw [this] at d1;simp only [zAA,zAD] at d1;refine ⟨H1,lk1,fun D'=>?_,by simp only [stg,hbi]⟩
       have hop:=g6 n (by omega)
       obtain ⟨cD,cH,clk,cdf⟩:=c;simp only at d1 d2;obtain ⟨rfl,rfl⟩:=d1;subst d2
       exact zbH (c:=⟨cD,_,_,[]⟩) hop g7)
      ⟨by simp only [stg,hbi],rfl⟩
      (fun D hDi=>by simp only [stg,hDi]) (.inr ⟨(H1,lk1),rfl,rfl⟩)
      (fun q hq hqh hqi S hS D D'=>by
       simp only [zAK,not_or] at hqi;rcases zAK.1 hq with rfl|hq
       ·exact absurd rfl hqi.1
       ·rcases zAK.1 hS with rfl|hS
        ·exact hk3 n (by omega) q hq hqh hqi.2 D D'
        ·exact hD.calls q hq hqh hqi.2 S hS D D')
      (.cons rec0 zAL hp (fun j hj=>⟨(hall j hj).1,chgM_cons.2 (.inr (hall j hj).2)⟩) (fun D D'=>zbH (c:=⟨D',H,lk,[]⟩) (g6 n (by omega)) g7) (za3 (fun q hq=>zAE _ hq) (fun b hb=>chgM_cons.2 (.inr hb)) hD.chain))
      (List.nodup_cons.2 ⟨hni,hL.nd⟩)
      (fun _ q hq f1 f2 D S hDc hDi hsub hS=>by
       obtain ⟨d,hd,hdq⟩:=hL.prs.right hq;cases hdc:d.cls with
       | free =>
        rcases (hdq.free hdc).2 with g|g
        ·rw [g] at f2;cases f2
        ·exact .inr (g n S)
       | rd b =>
        obtain ⟨_,x2,X,x3,x4⟩:=hdq.rd b hdc;have x5:=x3.wr hq (r:=rec0) (S':=(H1,lk1)) rfl hp hmlt hL.up hall (hcase d q hd hq hdq b hdc x2)
        rcases x5 D S hDc (subM_spec.2 fun b hb=>by
          rw [z6,zAC] at hb
          refine subM_spec.1 hsub b (by
           rw [z6,zAC];refine ⟨hb.1,?_⟩;rcases chgM_cons.1 hb.2 with ⟨_,e⟩|e
           ·have z1:=hL.up.msk q hq b hb.1;have z2:=hL.up.lt q hq;have z3:i=b:=e;omega
           ·exact e)) hS with g|g
        ·exact .inl g
        ·exact .inr (x4 n S g)
       | call=>rw [(hdq.call hdc).1] at f1;cases f1
       | wr a'=>rw [(hdq.wr a' hdc).1] at f1;cases f1)
     subst e2;exact ⟨_,cs2,e1,e3⟩
  have skip:∀ {σ0:Sg} {t0:Tree},zq all o env=some false->Rel n0 B ρ pa σ0 ⟨env,H,lk,[]⟩ ->
    zbu P all takes kk (i+1) (⟨{ zdV takes all i m o with hp:=false },.free⟩::ds) os (putS σ0 o.dst tup0)=some t0->evT ph gl N t0 ρ=some r->DGo P gl ph N takes all kk r n0 B i rs rl hs (o::os) ρ pa ⟨env,H,lk,[]⟩:=by
   intro σ0 t0 hw hr0 h0 hq0;have g5':=hr0.putS (d:=o.dst) (sv:=tup0) (v:=.tup []) (fun _ _ _ _ v' hv'=>by cases hv';rfl)
   let rec0:Rec:=⟨i,o,m,tmM takes o,Nat.lor (tmM takes o) (lkM all o),false,true,env,.tup []⟩
   have hslr:qu (qm rec0) rs=true:=zh8 (fun d q h=>h.key) hL.prs (r:=zdV takes all i m o) (r':=rec0) rfl rfl rfl hsl;have hL':Lk P gl takes pa ⟨putA env o.dst (.tup []),H,lk,[]⟩ (i+1) (⟨{ zdV takes all i m o with hp:=false },.free⟩::ds) (rec0::rs) rl hs:=by
    refine ⟨?_,⟨tl,hhs⟩,hL.fr.mono (fun d hd=>zAE _ hd) (zAI _),hL.up.cons rfl hmlt,hL.nd,fun j hj=>?_⟩
    ·exact .cons ⟨⟨rfl,rfl,rfl,rfl⟩,fun _=>⟨rfl,.inl rfl⟩,fun _ hh=>(by cases hh),fun hh=>(by cases hh),fun _ hh=>(by cases hh)⟩ (hL.prs.mono fun d q _ _ hh=>hh.quiet rfl (zAI _))
    ·obtain ⟨q,q1,q2⟩:=hL.rlr j hj;exact ⟨q,zAE _ q1,q2⟩
   obtain ⟨σ',ρ',pa',t',s',f1,f2,f3,f4,f5,k3,f6⟩:=zgI he h0 g5' hq0 hL';refine ⟨σ',ρ',pa',t',s',f1,f2,f3,f4,f5,k3,fun n hn c0 cs hD=>?_⟩;rw [zlw hm hw (r:=rec0) rfl hslr];obtain ⟨e1,e2⟩:=hD.quiet (r:=rec0) rfl hmlt rfl (.inl rfl) (c1:=⟨Nat.lor c0.D (Nat.pow 2 i),H,lk,[]⟩);rw [e1];exact f6 n hn c0 cs e2
  have go:∀ {σ0:Sg} {t0:Tree},zq all o env=some true->Rel n0 B ρ pa σ0 ⟨env,H,lk,[]⟩ ->
    (match qY takes σ0 o with|none=>none|some c=>if zhX m c ds=true then xOp P takes σ0 o fun σ v=>zbu P all takes kk (i+1) (⟨zdV takes all i m o,c⟩::ds) os (putS σ o.dst v) else none)=some t0->evT ph gl N t0 ρ=some r->DGo P gl ph N takes all kk r n0 B i rs rl hs (o::os) ρ pa ⟨env,H,lk,[]⟩:=by
   intro σ0 t0 hw hr0 h0 hq0;split at h0
   ·cases h0
   ·rename_i c hc;split at h0
    ·rename_i hcm;exact run hw hr0 (zAI _) hc hcm h0 hq0
    ·cases h0
  split at h
  ·cases h
  ·rename_i hg;exact skip (guard_ok hg hr) hr h hq
  ·rename_i hg;exact go (guard_ok hg hr) hr h hq
  ·rename_i c hg;obtain ⟨b,hw,hb⟩:=guard_ok hg hr;obtain ⟨ta,tb,h1,h2,h3⟩:=zbC h hq;have h0:=hb ρ pa (zAI _) (zAI _);rcases h3 with ⟨h3,h4⟩|⟨h3,h4⟩
   ·rw [h0] at h3;subst h3;exact go hw (hr.cond hb) h1 h4
   ·rw [h0] at h3;subst h3;exact skip hw (hr.cond (c:=mkNot c) fun ρ'' pa'' f1 f2=>by rw [qK,hb ρ'' pa'' f1 f2];rfl) h2 h4
theorem znh (he:Env P gl ph) {ops:Array Oper} {kk:Sg->Option Tree} {r:Nat×List V} (h:zbu P ops (qb ops) kk 0 [] ops.toList σ=some t) (hr:Rel n0 B ρ pa σ ⟨env,H,[],df⟩) (hq:evT ph gl N t ρ=some r) :
  ∃ σ' ρ' pa' t' s',kk σ'=some t'/\evT ph gl N t' ρ'=some r/\ρ <+: ρ'/\pa <+: pa'/\Rel n0 B ρ' pa' σ' s'/\∃ k0,∀ n,k0<=n->Cx.draw ⟨P,gl,zk P gl n,gl.uq⟩ ops ⟨env,H,lk,df⟩=some (.normal,s'):=by
 have hdf:df=[]:=hr.df;subst hdf;obtain ⟨σ',ρ',pa',t',s',h1,h2,h3,h4,h5,k0,h6⟩:=zgI (rs:=[]) (rl:=[]) (hs:=[(H,[])]) he h hr hq ⟨.nil,⟨[],rfl⟩,.nil _,⟨fun q hq=>by simp at hq,fun q hq=>by simp at hq⟩,List.nodup_nil,fun j hj=>by simp at hj⟩
 refine ⟨σ',ρ',pa',t',s',h1,h2,h3,h4,h5,k0,fun n hn=>?_⟩;have hcl:∀ D,zY [] D->D=0:=fun D hD=>jA fun b=>by
  rw [kA];cases hb:bit D b with
  | false=>rfl
  | true=>have:=hD.1 b hb;simp [chgM,kA] at this
 refine zgh (h6 n hn ⟨0,H,[],[]⟩ [] ⟨fun q hq=>by simp at hq,fun q hq=>by simp at hq,fun q hq=>by simp at hq,fun c hc=>?_,fun c hc=>?_,rfl,fun D hD=>⟨_,zAL,(hcl D hD).symm⟩,fun q hq=>by simp at hq,fun j hj=>by simp at hj,.nil _,fun q hq=>by simp at hq⟩) (.inl (NoU.out (gl:=gl) lateK))
 ·simp only [zAp] at hc;subst hc;exact ⟨rfl,rfl⟩
 ·simp only [zAp] at hc;subst hc;exact ⟨fun b hb=>(by rw [kA] at hb;cases hb),fun q hq=>(by simp at hq)⟩
end Go.Vm.Sx
namespace Go.Vm.Sx
set_option linter.unusedSectionVars false
open Go Go.Vm
variable {P:Program} {gl:Gl} {ph:PH} {N:Nat} {ρ ρ':List V} {pa pa':List Nat} {σ σ' σJ:Sg} {s:St} {n0:Nat} {B:List Blk} {env:List V} {H:Hp} {lk:List (Nat×Nat)} {df:List (V×List V)} {takes:List Tmp} {k:KT} {t:Tree}
variable [NoU gl]
def exOf:XE->Ex
 | .normal=>.normal
 | .exit i=>.exit i
 | .ret=>.ret
def Run (_P:Program) (gl:Gl) (ph:PH) (N:Nat) (n0:Nat) (B:List Blk) (K:KE) (r:Nat×List V) (ρ:List V) (pa:List Nat) (run:Nat->Option (Ex×St)):Prop :=
 ∃ e σ' ρ' pa' t' s',K e σ'=some t'/\evT ph gl N t' ρ'=some r/\ρ <+: ρ'/\pa <+: pa'/\Rel n0 B ρ' pa' σ' s'/\∃ k0,∀ n,k0<=n->run n=some (exOf e,s')
theorem zkr {js:JS} {body:KE->Option Tree} {pick:XE->Bool} {K:KE} {next:Sg->Option Tree} {r:Nat×List V} {run:Nat->Option (Ex×St)} (h:zmP js σ body pick K next=some t) (hr:Rel n0 B ρ pa σ s) (hq:evT ph gl N t ρ=some r)
    (hb:∀ K t r,body K=some t->evT ph gl N t ρ=some r->Run P gl ph N n0 B K r ρ pa run) :
    ∃ e s',(∃ k0,∀ n,k0<=n->run n=some (exOf e,s')) /\
      ((pick e=true/\∃ σ1 ρ1 t1,next σ1=some t1/\evT ph gl N t1 ρ1=some r/\ρ <+: ρ1/\Rel n0 B ρ1 pa σ1 s') \/
       (pick e=false/\∃ σ1 ρ1 pa1 t1,K e σ1=some t1/\evT ph gl N t1 ρ1=some r/\ρ <+: ρ1/\pa <+: pa1/\Rel n0 B ρ1 pa1 σ1 s')):=by
  simp only [zmP] at h;split at h
  · cases h
  · rename_i hJ
    simp only [zAn,zBY] at hJ;split at h
    · rename_i b t1 hbody hnext
      cases h;simp only [evT] at hq;cases hbr:evT ph gl N b ρ with
      | none=>rw [hbr] at hq;cases hq
      | some rb =>
        rw [hbr] at hq;obtain ⟨e,σ',ρ',pa',t',s',h1,h2,h3,h4,h5,h6⟩:=hb _ _ _ hbody hbr;refine ⟨e,s',h6,?_⟩;cases hp:pick e with
        | true =>
          left
          simp only [hp,zmO] at h1;split at h1
          · rename_i vals hv
            cases h1;simp only [evT,zAA] at h2;subst h2;exact ⟨rfl,gen js σ,ρ++evCs ρ' [] vals,t1,hnext,hq,zAq _ _,zjh hr hJ h5 h3 h4 hv⟩
          · cases h1
        | false =>
          right
          simp only [hp,zlk] at h1;split at h1
          · rename_i t2 ht2
            cases h1;simp only [evT] at h2;split at h2
            · rename_i j vs hj
              cases h2;simp only [zAA] at hq;subst hq;exact ⟨rfl,σ',ρ',pa',t2,ht2,hj,h3,h4,h5⟩
            · cases h2
          · cases h1
    · cases h
theorem zks {js:JS} {c:Code} {body:Tree} {K:KE} {r:Nat×List V} (hr0:Rel n0 B ρ pa σ s) (hJ:okJ σ (gen js σ)=true)
  (hb:∀ (ρ1:List V) (s1:St) (r:Nat×List V),Rel n0 B ρ1 pa (gen js σ) s1->evT ph gl N body ρ1=some r->Run P gl ph N n0 B (fun e σ'=>match e with|.normal=>zmO (fit σ.ks.length (gen js σ) σ')|e=>zlk (K e σ')) r ρ1 pa (fun n=>Cx.code ⟨P,gl,zk P gl n,gl.uq⟩ n c s1)) :
  ∀ (m:Nat) (vs:List V) (s1:St),Rel n0 B (ρ++vs) pa (gen js σ) s1->zbs (fun vs=>evT ph gl N body (ρ++vs)) m vs=some r ->
   ∃ e σ' ρ' pa' t' s',K e σ'=some t'/\evT ph gl N t' ρ'=some r/\ρ <+: ρ'/\pa <+: pa'/\Rel n0 B ρ' pa' σ' s'/\∃ k0,∀ n,k0<=n->∀ j,m<=j->vK (Cx.code ⟨P,gl,zk P gl n,gl.uq⟩ n c) j s1=some (exOf e,s')
 | 0,vs,s1,_,h=>by cases h
 | m+1,vs,s1,hr,h=>by
  simp only [zbs] at h;cases hbr:evT ph gl N body (ρ++vs) with
  | none=>rw [hbr] at h;cases h
  | some rb =>
   rw [hbr] at h;obtain ⟨e,σ',ρ',pa',t',s',h1,h2,h3,h4,h5,k1,h6⟩:=hb (ρ++vs) s1 rb hr hbr;have hpre:ρ <+: ρ':=zcr h3;have esc:∀ e',e=e'->e'≠.normal->zlk (K e' σ')=some t'->∃ e σ' ρ' pa' t' s',K e σ'=some t'/\evT ph gl N t' ρ'=some r/\ρ <+: ρ'/\pa <+: pa'/\Rel n0 B ρ' pa' σ' s'/\∃ k0,∀ n,k0<=n->∀ j,m+1<=j->vK (Cx.code ⟨P,gl,zk P gl n,gl.uq⟩ n c) j s1=some (exOf e,s'):=by
    rintro e' rfl hne h1;simp only [zlk] at h1;split at h1
    ·rename_i t2 ht2;cases h1;simp only [evT] at h2;split at h2
     ·rename_i j vs hj;cases h2;simp only [zAA] at h;subst h;refine ⟨e,σ',ρ',pa',t2,s',ht2,hj,hpre,h4,h5,k1,fun n hn j hj=>?_⟩
      match j,hj with
      | j+1,_ =>
      have:=h6 n hn;simp only [vK,this];cases e<;>first|exact absurd rfl hne|rfl
     ·cases h2
    ·cases h1
   cases e with
   | normal =>
    simp only [zmO] at h1;split at h1
    ·rename_i vals hv;cases h1;simp only [evT,zAA] at h2;subst h2;have hr2:=zjh hr0 hJ h5 hpre h4 hv;obtain ⟨e,σ2,ρ2,pa2,t2,s2,g1,g2,g3,g4,g5,k2,g6⟩:=zks (K:=K) hr0 hJ hb m _ s' hr2 h;refine ⟨e,σ2,ρ2,pa2,t2,s2,g1,g2,g3,g4,g5,max k1 k2,fun n hn j hj=>?_⟩
     match j,hj with
     | j+1,hj =>
     have:=h6 n (by omega)
     simp only [vK,this,exOf];exact g6 n (by omega) j (by omega)
    ·cases h1
   | exit i=>exact esc _ rfl (by intro h;cases h) h1
   | ret=>exact esc _ rfl (by intro h;cases h) h1
theorem jE (he:Env P gl ph) {hs:List (Nat×JS)}:∀ (c:Code) (p:Nat) (σ:Sg) (K:KE) (t:Tree) (ρ:List V) (pa:List Nat) (s:St) (r:Nat×List V),jc P hs p c σ K=some t->Rel n0 B ρ pa σ s->evT ph gl N t ρ=some r ->
  Run P gl ph N n0 B K r ρ pa (fun n=>Cx.code ⟨P,gl,zk P gl n,gl.uq⟩ n c s)
 | .skip,p,σ,K,t,ρ,pa,s,r,h,hr,hq=>⟨.normal,σ,ρ,pa,t,s,h,hq,zAI _,zAI _,hr,0,fun n _=>rfl⟩
 | .label _,p,σ,K,t,ρ,pa,s,r,h,hr,hq=>⟨.normal,σ,ρ,pa,t,s,h,hq,zAI _,zAI _,hr,0,fun n _=>rfl⟩
 | .exit i,p,σ,K,t,ρ,pa,s,r,h,hr,hq=>⟨.exit i,σ,ρ,pa,t,s,h,hq,zAI _,zAI _,hr,0,fun n _=>rfl⟩
 | .ret,p,σ,K,t,ρ,pa,s,r,h,hr,hq=>⟨.ret,σ,ρ,pa,t,s,h,hq,zAI _,zAI _,hr,0,fun n _=>rfl⟩
 | .region id ops false,p,σ,K,t,ρ,pa,⟨env,H,lk,df⟩,r,h,hr,hq=>by
  simp only [jc] at h;obtain ⟨σ',ρ',pa',t',s',h1,h2,h3,h4,h5,k0,h6⟩:=zbE he h hr.noLk hq;exact ⟨.normal,σ',ρ',pa',t',s',h1,h2,h3,h4,h5,k0,fun n hn=>by simp only [Cx.code];exact h6 n hn⟩
 | .region id ops true,p,σ,K,t,ρ,pa,⟨env,H,lk,df⟩,r,h,hr,hq=>by
  simp only [jc] at h;obtain ⟨σ',ρ',pa',t',s',h1,h2,h3,h4,h5,k0,h6⟩:=znh (lk:=lk) he h hr.noLk hq;exact ⟨.normal,σ',ρ',pa',t',s',h1,h2,h3,h4,h5,k0,fun n hn=>by simp only [Cx.code];exact h6 n hn⟩
 | .scope c,p,σ,K,t,ρ,pa,s,r,h,hr,hq=>by
  simp only [jc] at h;obtain ⟨e,σ',ρ',pa',t',s',h1,h2,h3,h4,h5,k0,h6⟩:=jE he c (2 * p) σ K t ρ pa s r h hr hq;refine ⟨e,σ',ρ',pa',t',s',h1,h2,h3,h4,h5,k0,fun n hn=>?_⟩;have:=h6 n hn;simp only [Cx.code,this];cases e<;>rfl
 | .cond c a b,p,σ,K,t,ρ,pa,s,r,h,hr,hq=>by
  simp only [jc] at h;split at h
  ·cases h
  ·rename_i tt hc;have ec:∀ ρ'' pa'',ρ <+: ρ''->pa <+: pa''->peek s.env c=some (.bool (evB ρ'' tt)):=fun ρ'' pa'' e1 e2=>zjd (hr.ext ρ'' pa'' e1 e2) hc;have e0:=ec ρ pa (zAI _) (zAI _);have hst:∀ ρ'' pa'',ρ <+: ρ''->pa <+: pa''->evB ρ'' tt=evB ρ tt:=fun ρ'' pa'' e1 e2=>by
    have:=(ec ρ'' pa'' e1 e2).symm.trans e0;simpa using this
   have goA:∀ {σ1:Sg} {t1:Tree},evB ρ tt=true->jc P hs (2 * p) a σ1 K=some t1->Rel n0 B ρ pa σ1 s->evT ph gl N t1 ρ=some r->Run P gl ph N n0 B K r ρ pa (fun n=>Cx.code ⟨P,gl,zk P gl n,gl.uq⟩ n (.cond c a b) s):=fun hb h1 hr1 hq1=>by
    obtain ⟨e,σ',ρ',pa',t',s',h1,h2,h3,h4,h5,k0,h6⟩:=jE he a (2 * p) _ K _ ρ pa s r h1 hr1 hq1;exact ⟨e,σ',ρ',pa',t',s',h1,h2,h3,h4,h5,k0,fun n hn=>by simp only [Cx.code,e0,hb];exact h6 n hn⟩
   have goB:∀ {σ1:Sg} {t1:Tree},evB ρ tt=false->jc P hs (2 * p+1) b σ1 K=some t1->Rel n0 B ρ pa σ1 s->evT ph gl N t1 ρ=some r->Run P gl ph N n0 B K r ρ pa (fun n=>Cx.code ⟨P,gl,zk P gl n,gl.uq⟩ n (.cond c a b) s):=fun hb h1 hr1 hq1=>by
    obtain ⟨e,σ',ρ',pa',t',s',h1,h2,h3,h4,h5,k0,h6⟩:=jE he b (2 * p+1) _ K _ ρ pa s r h1 hr1 hq1;exact ⟨e,σ',ρ',pa',t',s',h1,h2,h3,h4,h5,k0,fun n hn=>by simp only [Cx.code,e0,hb];exact h6 n hn⟩
   split at h
   ·rename_i hk;exact goA (qW hr.here.as hk) h hr hq
   ·rename_i hk;exact goB (qW hr.here.as hk) h hr hq
   ·obtain ⟨ta,tb,h1,h2,h3⟩:=zbC h hq;rcases h3 with ⟨h3,h4⟩|⟨h3,h4⟩
    ·exact goA h3 h1 (hr.cond fun ρ'' pa'' f1 f2=>by rw [hst ρ'' pa'' f1 f2];exact h3) h4
    ·exact goB h3 h2 (hr.cond (c:=mkNot tt) fun ρ'' pa'' f1 f2=>by rw [qK,hst ρ'' pa'' f1 f2,h3];rfl) h4
 | .seq a b,p,σ,K,t,ρ,pa,s,r,h,hr,hq=>by
  simp only [jc] at h;split at h
  ·obtain ⟨e,σ',ρ',pa',t',s',h1,h2,h3,h4,h5,k1,h6⟩:=jE he a (2 * p) σ _ t ρ pa s r h hr hq;cases e with
   | normal =>
    obtain ⟨e,σ2,ρ2,pa2,t2,s2,g1,g2,g3,g4,g5,k2,g6⟩:=jE he b (2 * p+1) σ' K t' ρ' pa' s' r h1 h5 h2;refine ⟨e,σ2,ρ2,pa2,t2,s2,g1,g2,h3.trans g3,h4.trans g4,g5,max k1 k2,fun n hn=>?_⟩;have:=h6 n (by omega)
    simp only [Cx.code,this,exOf];exact g6 n (by omega)
   | exit i=>exact ⟨.exit i,σ',ρ',pa',t',s',h1,h2,h3,h4,h5,k1,fun n hn=>by have:=h6 n hn;simp only [Cx.code,this,exOf]⟩
   | ret=>exact ⟨.ret,σ',ρ',pa',t',s',h1,h2,h3,h4,h5,k1,fun n hn=>by have:=h6 n hn;simp only [Cx.code,this,exOf]⟩
  ·rename_i js hjs;obtain ⟨e,s',⟨k1,h1⟩,h2⟩:=zkr (run:=fun n=>Cx.code ⟨P,gl,zk P gl n,gl.uq⟩ n a s) h hr hq fun K t r hb hq=>jE he a (2 * p) σ K t ρ pa s r hb hr hq;rcases h2 with ⟨hp,σ1,ρ1,t1,g1,g2,g3,g4⟩|⟨hp,σ1,ρ1,pa1,t1,g1,g2,g3,g4,g5⟩
   ·cases e with
    | normal =>
     obtain ⟨e,σ2,ρ2,pa2,t2,s2,f1,f2,f3,f4,f5,k2,f6⟩:=jE he b (2 * p+1) σ1 K t1 ρ1 pa s' r g1 g4 g2;refine ⟨e,σ2,ρ2,pa2,t2,s2,f1,f2,g3.trans f3,f4,f5,max k1 k2,fun n hn=>?_⟩;have:=h1 n (by omega)
     simp only [Cx.code,this,exOf];exact f6 n (by omega)
    | _=>cases hp
   ·cases e with
    | normal=>cases hp
    | exit i=>exact ⟨.exit i,σ1,ρ1,pa1,t1,s',g1,g2,g3,g4,g5,k1,fun n hn=>by have:=h1 n hn;simp only [Cx.code,this,exOf]⟩
    | ret=>exact ⟨.ret,σ1,ρ1,pa1,t1,s',g1,g2,g3,g4,g5,k1,fun n hn=>by have:=h1 n hn;simp only [Cx.code,this,exOf]⟩
 | .block id c,p,σ,K,t,ρ,pa,s,r,h,hr,hq=>by
  simp only [jc] at h;split at h
  ·obtain ⟨e,σ',ρ',pa',t',s',h1,h2,h3,h4,h5,k1,h6⟩:=jE he c (2 * p) σ _ t ρ pa s r h hr hq;cases e with
   | normal=>exact ⟨.normal,σ',ρ',pa',t',s',h1,h2,h3,h4,h5,k1,fun n hn=>by have:=h6 n hn;simp only [Cx.code,this,exOf]⟩
   | ret=>exact ⟨.ret,σ',ρ',pa',t',s',h1,h2,h3,h4,h5,k1,fun n hn=>by have:=h6 n hn;simp only [Cx.code,this,exOf]⟩
   | exit i =>
    simp only at h1;cases hb:Nat.beq i id with
    | true =>
     rw [hb] at h1;exact ⟨.normal,σ',ρ',pa',t',s',h1,h2,h3,h4,h5,k1,fun n hn=>by have:=h6 n hn;simp only [Cx.code,this,exOf,hb,if_true]⟩
    | false =>
     rw [hb] at h1;exact ⟨.exit i,σ',ρ',pa',t',s',h1,h2,h3,h4,h5,k1,fun n hn=>by have:=h6 n hn;simp only [Cx.code,this,exOf,hb,zAH,if_false]⟩
  ·rename_i js hjs;obtain ⟨e,s',⟨k1,h1⟩,h2⟩:=zkr (run:=fun n=>Cx.code ⟨P,gl,zk P gl n,gl.uq⟩ n c s) h hr hq fun K t r hb hq=>jE he c (2 * p) σ K t ρ pa s r hb hr hq;rcases h2 with ⟨hp,σ1,ρ1,t1,g1,g2,g3,g4⟩|⟨hp,σ1,ρ1,pa1,t1,g1,g2,g3,g4,g5⟩
   ·refine ⟨.normal,σ1,ρ1,pa,t1,s',g1,g2,g3,zAI _,g4,k1,fun n hn=>?_⟩;have:=h1 n hn;cases e with
    | normal=>simp only [Cx.code,this,exOf]
    | exit i=>simp only at hp;simp only [Cx.code,this,exOf,hp,if_true]
    | ret=>cases hp
   ·cases e with
    | normal=>cases hp
    | exit i=>simp only at hp;exact ⟨.exit i,σ1,ρ1,pa1,t1,s',g1,g2,g3,g4,g5,k1,fun n hn=>by have:=h1 n hn;simp only [Cx.code,this,exOf,hp,zAH,if_false]⟩
    | ret=>exact ⟨.ret,σ1,ρ1,pa1,t1,s',g1,g2,g3,g4,g5,k1,fun n hn=>by have:=h1 n hn;simp only [Cx.code,this,exOf]⟩
 | .loop c,p,σ,K,t,ρ,pa,s,r,h,hr,hq=>by
  simp only [jc] at h;split at h
  ·cases h
  ·rename_i js hjs;split at h
   ·cases h
   ·rename_i hJ;simp only [zAn,zBY] at hJ;split at h
    ·rename_i ini body hini hbody;cases h;simp only [evT] at hq;have hr2:=zjh hr hJ hr (zAI _) (zAI _) hini;obtain ⟨e,σ',ρ',pa',t',s',h1,h2,h3,h4,h5,k0,h6⟩:=zks (c:=c) (K:=K) hr hJ (fun ρ1 s1 r1 hr1 hq1=>jE he c (2 * p) (gen js σ) _ body ρ1 pa s1 r1 hbody hr1 hq1) N _ s hr2 hq;exact ⟨e,σ',ρ',pa',t',s',h1,h2,h3,h4,h5,max k0 N,fun n hn=>by simp only [Cx.code];exact h6 n (by omega) n (by omega)⟩
    ·cases h
 | .rangeFunc ..,_,_,_,_,_,_,_,_,h,_,_=>by simp [jc] at h
 | .goto _,_,_,_,_,_,_,_,_,h,_,_=>by simp [jc] at h
 | .refuse _,_,_,_,_,_,_,_,_,h,_,_=>by simp [jc] at h
end Go.Vm.Sx
namespace Go.Vm.Sx
set_option linter.unusedSectionVars false
open Go Go.Vm
variable {P:Program} {gl:Gl} {ph:PH} {N:Nat} {ρ ρ':List V} {pa pa':List Nat} {σ σ' σJ:Sg} {s:St} {n0:Nat} {B:List Blk} {env:List V} {H:Hp} {lk:List (Nat×Nat)} {df:List (V×List V)} {takes:List Tmp} {t:Tree} {r:Nat×List V}
variable [NoU gl]
theorem zh9 {kk:Sg->Option Tree}:∀ {cks:List CK} {i:Nat} {σ:Sg} {t:Tree},zkc kk σ cks i=some t->Rel n0 B ρ pa σ s->i+cks.length<=σ.ks.length->evT ph gl N t ρ=some r ->
  ∃ ks' t',ks'.length=σ.ks.length/\kk { σ with ks:=ks' }=some t'/\evT ph gl N t' ρ=some r/\Rel n0 B ρ pa { σ with ks:=ks' } s
 | [],i,σ,t,h,hr,hi,hq=>⟨σ.ks,t,rfl,h,hq,hr⟩
 | ck::cks,i,σ,t,h,hr,hi,hq=>by
  simp only [zkc] at h;split at h
  ·rename_i t1 ht;cases h;simp only [evT,cond_eq_ite] at hq;split at hq
   ·rename_i hk;simp only [zAj] at hi;obtain ⟨ks',t',h1,h2,h3,h4⟩:=zh9 ht (hr.kind (by omega) hk) (by simp;omega) hq
    exact ⟨ks',t',by simpa using h1,h2,h3,h4⟩
   ·cases hq
  ·cases h
def wB (P:Program):List TypeId->List AV->Nat->Prop
 | [],[],_=>True
 | t::ts,.p j' off::avs,j=>(∃ e,P.underlying t=some (.pointer e))/\j'=j/\off=0/\wB P ts avs (j+1)
 | t::ts,.d _x::avs,j=>(∀ e,P.underlying t≠some (.pointer e))/\wB P ts avs j
 | _,_,_=>False
def holdA:AV->V
 | .d x=>x
 | .p _ _=>.nilp
theorem xParams_ok {kk:Sg->List SV->Option Tree}:∀ {ts:List TypeId} {avs:List AV} {i j:Nat} {σ:Sg} {ρ:List V} {acc:List SV} {t:Tree},yP P kk σ ts i j acc=some t->wB P ts avs j->Rel n0 B ρ pa σ s->i+ts.length<=σ.ks.length->(∀ m av,avs[m]?=some av->at' ρ (i+m)=holdA av)->evT ph gl N t ρ=some r ->
  ∃ (ks':List CK) (svs:List SV) (ρ':List V) (t':Tree),svs.length=avs.length/\kk { σ with ks:=ks' } (acc++svs)=some t'/\evT ph gl N t' ρ'=some r/\ρ <+: ρ'/\Rel n0 B ρ' pa { σ with ks:=ks' } s/\∀ (ρ'':List V) (pa'':List Nat),ρ' <+: ρ''->pa <+: pa''->∀ (m:Nat) (sv:SV),svs[m]?=some sv->∃ av,avs[m]?=some av/\qp ρ'' pa'' sv=some (wz pa'' av)
 | [],[],i,j,σ,ρ,acc,t,h,hp,hr,hi,hat,hq=>⟨σ.ks,[],ρ,t,rfl,by rw [zBB];exact h,hq,zAI _,hr,fun _ _ _ _ m sv hm=>by simp at hm⟩
 | ty::ts,.p j' off::avs,i,j,σ,ρ,acc,t,h,hp,hr,hi,hat,hq=>by
  obtain ⟨⟨e,he⟩,rfl,rfl,hp⟩:=hp;simp only [yP,he] at h;simp only [zAj] at hi;obtain ⟨ks',svs,ρ',t',h0,h1,h2,h3,h4,h5⟩:=xParams_ok (avs:=avs) h hp hr (by omega) (fun m av hm=>by rw [show i+1+m=i+(m+1) by omega];exact hat (m+1) av (by simpa using hm)) hq
  refine ⟨ks',.val (.one (.p j' 0))::svs,ρ',t',by simp [h0],by simpa using h1,h2,h3,h4,fun ρ'' pa'' e1 e2 m sv hm=>?_⟩
  cases m with
  | zero=>simp only [zAt,zAA] at hm;subst hm;exact ⟨.p j' 0,by simp,rfl⟩
  | succ m=>simp only [zBF] at hm ⊢;exact h5 ρ'' pa'' e1 e2 m sv hm
 | ty::ts,.d x::avs,i,j,σ,ρ,acc,t,h,hp,hr,hi,hat,hq=>by
  obtain ⟨he,hp⟩:=hp;simp only [zAj] at hi;have hx:at' ρ i=x:=hat 0 (.d x) (by simp)
  have h':yO P σ ty i (fun σ x=>yP P kk σ ts (i+1) j (acc++[.val x]))=some t:=by
   unfold yP at h;split at h
   ·rename_i e he';exact absurd he' (he e)
   ·exact h
  obtain ⟨ks1,sc,ρ1,t1,g1,g2,g3,g4,g5,_⟩:=zar h' hr (by omega) hq
  have hkl1:=g4.kl;have hkl:=hr.kl;have hlen1:ρ.length<=ρ1.length:=by obtain ⟨z,rfl⟩:=g3;simp
  obtain ⟨ks',svs,ρ',t',h0,h1,h2,h3,h4,h5⟩:=xParams_ok (avs:=avs) g1 hp g4 (by simp only at hkl1 ⊢;omega) (fun m av hm=>by
   have hml:=(zAB.1 hm).1;have htl:ts.length=avs.length:=parLen hp
   rw [wk g3 (by omega),show i+1+m=i+(m+1) by omega];exact hat (m+1) av (by simpa using hm)) g2
  refine ⟨ks',.val sc::svs,ρ',t',by simp [h0],by simpa using h1,h2,g3.trans h3,h4,fun ρ'' pa'' e1 e2 m sv hm=>?_⟩
  cases m with
  | zero =>
   simp only [zAt,zAA] at hm;subst hm;exact ⟨.d x,by simp,by simp only [qp,wz];rw [g5 ρ'' pa'' (h3.trans e1),hx]⟩
  | succ m=>simp only [zBF] at hm ⊢;exact h5 ρ'' pa'' e1 e2 m sv hm
 | [],_::_,_,_,_,_,_,_,_,hp,_,_,_,_=>hp.elim
 | _::_,[],_,_,_,_,_,_,_,hp,_,_,_,_=>hp.elim
 where
 parLen:∀ {ts:List TypeId} {avs:List AV} {j:Nat},wB P ts avs j->ts.length=avs.length
 | [],[],_,_=>rfl
 | _::_,.p _ _::_,_,h=>by simp [parLen h.2.2.2]
 | _::_,.d _::_,_,h=>by simp [parLen h.2]
 | [],_::_,_,h=>h.elim
 | _::_,[],_,h=>h.elim
theorem zia (hr:Rel n0 B ρ pa σ s) {tt:Tmp} {x:SC} (h:zkd σ tt=some x):nth s.env tt=some (evSC ρ pa x):=by
 unfold zkd at h;split at h
 ·rename_i sv hsv;split at h
  ·rename_i y hu;cases h;obtain ⟨_,v,h1,h2⟩:=zhZ (pa:=pa) hr.here.as hu;cases h2;exact hr.here.env _ _ _ hsv h1
  ·cases h
 ·cases h
theorem zdk (hr:Rel n0 B ρ pa σ s):∀ {rs:List ResultVar} {xs:List SC},zll P σ rs=some xs->zt P s.H s.env rs=some (evSCs ρ pa xs)
 | [],xs,h=>by cases h;rfl
 | .tmp tt::rs,xs,h=>by
  simp only [zll] at h;split at h
  ·rename_i x ys h1 h2;cases h;simp only [zt,zia hr h1,zdk hr h2,evSCs]
  ·cases h
 | .cell a ty::rs,xs,h=>by
  simp only [zll] at h;split at h
  ·rename_i a' off h1;split at h
   ·rename_i cs ty' hf;split at h
    ·rename_i x ys h2 h3;cases h;have e1:=zia hr h1;simp only [evSC,evC] at e1;simp only [zt,e1,qF];rw [hr.here.blks _ _ _ hf];simp only [qi,kD (ρ:=ρ) (pa:=pa) h2,zdk hr h3,evSCs,jC]
    ·cases h
   ·cases h
  ·cases h
theorem zlx (xs:List SC):evSCs ρ pa (clrSCs xs)=(evSCs ρ pa xs).map clr:=by
 induction xs with
 | nil=>rfl
 | cons x xs ih=>simp [clrSCs,evSCs,ih,jC]
theorem zd8 (hk:∀ i k,nth σ.ks i=some k->kOk k (at' ρ i)=true) (ht:tops ρ=0):∀ {xs:List SC},zdd σ.ks xs=true->tops (evSCs ρ pa xs)=0/\∀ pa',evSCs ρ pa' xs=evSCs ρ pa xs
 | [],_=>⟨rfl,fun _=>rfl⟩
 | x::xs,h=>by
  simp only [zdd,zAC] at h;obtain ⟨a1,a2⟩:=vf (pa:=pa) hk ht h.1;obtain ⟨b1,b2⟩:=zd8 hk ht h.2;exact ⟨by simp only [evSCs,tops,a1,b1];rfl,fun pa'=>by simp only [evSCs,a2 pa',b2 pa']⟩
theorem qo (l:List V):tops (l.map clr)=tops l:=by
 induction l with
 | nil=>rfl
 | cons v vs ih=>simp only [zAz,tops,top_clr,ih]
theorem zd9 (hr:Rel n0 B ρ pa σ s):∀ {lent:List (TypeId×List CK)} {j:Nat} {o:List C},zdY σ j lent=some o ->
  ∃ out:List (List V),evCs ρ [] o=joinL out/\tops (joinL out)=0/\out.length=lent.length/\∀ m e ks,lent[m]?=some (e,ks)->∃ vs,out[m]?=some vs/\vs.length=ks.length/\s.H.get (pd pa (j+m))=some (.cells vs e)
 | [],j,o,h=>by cases h;exact ⟨[],rfl,rfl,rfl,fun m e ks hm=>by simp at hm⟩
 | (e,ks)::lent,j,o,h=>by
  simp only [zdY] at h;split at h
  ·rename_i cs ty o' hf ho;split at h
   ·rename_i hc;simp only [zAC] at hc;obtain ⟨⟨c1,c2⟩,c3⟩:=hc;obtain rfl:=qJ c2;cases h;obtain ⟨out,h1,h2,h3,h4⟩:=zd9 hr ho;obtain ⟨d1,d2,d3⟩:=ko (pa:=pa) hr.here.ks hr.top c1;refine ⟨evCs ρ pa cs::out,?_,by simp only [joinL,jl,d1,h2];rfl,by simp [h3],fun m e' ks' hm=>?_⟩
    ·simp only [joinL,<- h1,<- d3 []];simp [zF]
    ·cases m with
     | zero =>
      simp only [zAt,zAA,zAD] at hm;obtain ⟨rfl,rfl⟩:=hm;exact ⟨_,by simp,by rw [zJ];exact qJ c3,hr.here.blks _ _ _ hf⟩
     | succ m =>
      simp only [zBF] at hm;obtain ⟨vs,g1,g2,g3⟩:=h4 m e' ks' hm;exact ⟨vs,by simpa using g1,g2,by rw [show j+(m+1)=j+1+m by omega];exact g3⟩
   ·cases h
  ·cases h
theorem noP {ks:List CK}:∀ {cs:List C},kY ks cs=true->evCs ρ [] cs=evCs ρ pa cs
 | [],_=>rfl
 | c::cs,h=>by
  simp only [kY,zAC] at h;simp only [evCs];rw [noP h.2];cases c with
  | p a off=>simp [xN] at h
  | v i cl=>cases cl<;>rfl
  | _=>rfl
theorem zo1 (hr:Rel n0 B ρ pa σ s) {lent:List (TypeId×List CK)} {rs:List ResultVar} {w:List V} (h:zmQ P lent rs σ=some t) (hq:evT ph gl N t ρ=some (0,w)) :
  ∃ v out vs,σ.nf=lent.length/\w=v::joinL out/\zt P s.H s.env rs=some vs/\tupOf vs=v/\v.top=0/\tops (joinL out)=0/\out.length=lent.length/\∀ m e ks,lent[m]?=some (e,ks)->∃ vs,out[m]?=some vs/\vs.length=ks.length/\s.H.get (pd pa m)=some (.cells vs e):=by
 unfold zmQ at h;split at h
 ·cases h
 rename_i hnf;simp only [zAn,zBY] at hnf;have ext:∀ {σ0:Sg} {o:List C} {v:V},zdY σ 0 lent=some o->evCs (ρ++[v]) [] o=evCs ρ [] o:=by
  intro σ0 o v ho;have key:∀ {lent:List (TypeId×List CK)} {j:Nat} {o:List C},zdY σ j lent=some o->evCs (ρ++[v]) [] o=evCs ρ [] o:=by
   intro lent
   induction lent with
   | nil=>intro j o h;cases h;rfl
   | cons x lent ih =>
    obtain ⟨e,ks⟩:=x;intro j o h;simp only [zdY] at h;split at h
    ·rename_i cs ty o' hf ho;split at h
     ·rename_i hc;simp only [zAC] at hc;cases h;have a1:=hr.here.blks _ _ _ hf;have a2:=(hr.ext (ρ++[v]) pa (zAq _ _) (zAI _)).blks _ _ _ hf;rw [a1] at a2;simp only [zAA,Blk.cells.injEq,zBn] at a2;have nop:∀ {ρ0:List V},evCs ρ0 [] cs=evCs ρ0 pa cs:=fun {ρ0}=>noP hc.1.1;have e1:evCs (ρ++[v]) [] (cs++o')=evCs (ρ++[v]) [] cs++evCs (ρ++[v]) [] o':=by simp [zF]
      have e2:evCs ρ [] (cs++o')=evCs ρ [] cs++evCs ρ [] o':=by simp [zF]
      rw [e1,e2,ih ho,nop,nop,a2]
     ·cases h
    ·cases h
  exact key ho
 split at h
 ·rename_i x o hx ho;split at h
  ·rename_i hd;cases h;obtain ⟨d1,d2⟩:=vf (pa:=pa) hr.here.ks hr.top hd;obtain ⟨out,o1,o2,o3,o4⟩:=zd9 hr ho;simp only [evT,zAA,zAD,true_and,evCs,evC,evVE,d2 []] at hq;rw [<- hr.kl,yA,ext (σ0:=σ) ho,o1] at hq;refine ⟨_,out,_,qJ hnf,hq.symm,zdk hr hx,rfl,d1,o2,o3,fun m e ks hm=>?_⟩;have:=o4 m e ks hm
   rwa [zA0] at this
  ·cases h
 ·rename_i xs o hne hx ho;split at h
  ·rename_i hd;cases h;obtain ⟨d1,d2⟩:=zd8 (pa:=pa) hr.here.ks hr.top hd;obtain ⟨out,o1,o2,o3,o4⟩:=zd9 hr ho;simp only [evT,zAA,zAD,true_and,evCs,evC,evVE,zlx,d2 []] at hq;rw [<- hr.kl,yA,ext (σ0:=σ) ho,o1] at hq;refine ⟨_,out,_,qJ hnf,hq.symm,zdk hr hx,?_,by simp only [V.top,qo,d1],o2,o3,fun m e ks hm=>?_⟩
   ·match xs,hne with
    | [],_=>rfl
    | [x],hne=>exact absurd rfl (hne x)
    | x::y::z,_=>rfl
   ·have:=o4 m e ks hm
    rwa [zA0] at this
  ·cases h
 ·cases h
theorem putB_get:∀ {θ:List Nat} {fp:List (List V×TypeId)} {out:List (List V)} {H:Hp},θ.Nodup->θ.length=fp.length->out.length=fp.length->(∀ b∈θ,b<H.blks.length) ->
  (yV H θ fp out).edges=H.edges/\(yV H θ fp out).blks.length=H.blks.length/\(∀ (m b:Nat) (o:List V) (c:List V) (ty:TypeId),θ[m]?=some b->out[m]?=some o->fp[m]?=some (c,ty)->(yV H θ fp out).get b=some (.cells o ty))/\(∀ b,b ∉ θ->(yV H θ fp out).get b=H.get b)
 | [],[],[],H,_,_,_,_=>⟨rfl,rfl,fun m b o c ty h=>by simp at h,fun b _=>rfl⟩
 | b::θ,(c,ty)::fp,o::out,H,hn,h1,h2,h3=>by
  simp only [List.nodup_cons] at hn;simp only [zAj,Nat.add_right_cancel_iff] at h1 h2;have hset:(H.set b (.cells o ty)).blks.length=H.blks.length:=by simp [Hp.set]
  obtain ⟨a1,a2,a3,a4⟩:=putB_get (H:=H.set b (.cells o ty)) hn.2 h1 h2 (fun x hx=>by rw [hset];exact h3 x (zAE _ hx))
  refine ⟨a1,by rw [yV,a2,hset],fun m x o' c' ty' g1 g2 g3=>?_,fun x hx=>?_⟩
  ·cases m with
   | zero =>
    simp only [zAt,zAA,zAD] at g1 g2 g3;obtain ⟨rfl,rfl⟩:=g3;subst g1 g2;rw [yV,a4 b hn.1,yU (h3 b zAL)]
   | succ m =>
    simp only [zBF] at g1 g2 g3;exact a3 m x o' c' ty' g1 g2 g3
  ·simp only [zAK,not_or] at hx;rw [yV,a4 x hx.2,vD (fun e=>hx.1 e.symm)]
 | [],[],_::_,_,_,_,h,_=>by simp at h
 | [],_::_,_,_,_,h,_,_=>by simp at h
 | _::_,[],_,_,_,h,_,_=>by simp at h
 | _::_,_::_,[],_,_,_,h,_=>by simp at h
def FpOk:List (TypeId×List CK)->List (List V×TypeId)->Prop
 | [],[]=>True
 | (e,ks)::r,(vs,t)::fp=>e=t/\vs.length=ks.length/\tops vs=0/\FpOk r fp
 | _,_=>False
def lentV:List (List V×TypeId)->List V
 | []=>[]
 | (vs,_)::r=>vs++lentV r
theorem fpOk_len:∀ {l:List (TypeId×List CK)} {fp:List (List V×TypeId)},FpOk l fp->l.length=fp.length/\(lentKs l).length=(lentV fp).length/\tops (lentV fp)=0/\∀ (m:Nat) (e:TypeId) (ks:List CK),l[m]?=some (e,ks)->∃ vs:List V,fp[m]?=some (vs,e)/\vs.length=ks.length
 | [],[],_=>⟨rfl,rfl,rfl,fun m e ks h=>by simp at h⟩
 | (e,ks)::r,(vs,t)::fp,h=>by
  obtain ⟨rfl,h1,h2,h3⟩:=h;obtain ⟨a1,a2,a3,a4⟩:=fpOk_len h3;refine ⟨by simp [a1],by simp [lentKs,lentV,a2,h1],by simp only [lentV,jl,h2,a3];rfl,fun m e' ks' hm=>?_⟩
  cases m with
  | zero=>simp only [zAt,zAA,zAD] at hm;obtain ⟨rfl,rfl⟩:=hm;exact ⟨vs,by simp,h1⟩
  | succ m=>simp only [zBF] at hm ⊢;exact a4 m e' ks' hm
 | [],_::_,h=>h.elim
 | _::_,[],h=>h.elim
theorem zcT {θ:List Nat} {H:Hp}:∀ {l:List (TypeId×List CK)} {fp:List (List V×TypeId)} {j i:Nat} {x y:List V} {th:List Nat},FpOk l fp->ye H th fp->(∀ m b,th[m]?=some b->pd θ (j+m)=b)->x.length=i ->
  ∀ a cs ty,qy a (lentBlks l j i)=some (cs,ty)->H.get (pd θ a)=some (.cells (evCs (x++lentV fp++y) [] cs) ty)/\(∀ pa,evCs (x++lentV fp++y) pa cs=evCs (x++lentV fp++y) [] cs)/\a<j+l.length
 | [],[],j,i,x,y,th,_,_,_,_,a,cs,ty,h=>by simp [lentBlks,qy] at h
 | (e,ks)::r,(vs,t)::fp,j,i,x,y,b::th,hf,hl,hth,hi,a,cs,ty,h=>by
  obtain ⟨rfl,h1,h2,h3⟩:=hf;simp only [lentBlks,jY] at h;split at h
  ·rename_i ha;subst ha;cases h;have e1:∀ pa,evCs (x++lentV ((vs,e)::fp)++y) pa (lits ks i)=vs:=fun pa=>by
    simp only [lentV,zAc];have:=zbA (pa:=pa) (x:=x) (z:=vs) (ks:=ks) (y:=lentV fp++y) h1 hi;simpa only [zAc] using this
   refine ⟨?_,fun pa=>by rw [e1 pa,e1 []],by simp⟩
   have h0:=hth 0 b rfl;rw [zBf] at h0;rw [e1 [],h0];exact hl.1
  ·obtain ⟨g1,g2,g3⟩:=zcT (x:=x++vs) (y:=y) h3 hl.2 (fun m c hm=>by rw [show j+1+m=j+(m+1) by omega];exact hth (m+1) c (by simpa using hm)) (by simp [hi,h1]) a cs ty h
   simp only [lentV,zAc] at g1 g2 ⊢;exact ⟨g1,g2,by simp;omega⟩
 | [],_::_,_,_,_,_,_,h,_,_,_,_,_,_,_=>h.elim
 | _::_,[],_,_,_,_,_,h,_,_,_,_,_,_,_=>h.elim
 | _::_,_::_,_,_,_,_,[],_,h,_,_,_,_,_,_=>h.elim
def zea (avs:List AV) (fp:List (List V×TypeId)):List V:=avs.map holdA++lentV fp
theorem za5 {H:Hp}:∀ {θ:List Nat} {fp:List (List V×TypeId)},ye H θ fp->θ.length=fp.length/\∀ b∈θ,b<H.blks.length
 | [],[],_=>⟨rfl,fun b hb=>by simp at hb⟩
 | b::θ,(c,t)::r,h=>by
  obtain ⟨h1,h2⟩:=za5 h.2;refine ⟨by simp [h1],fun x hx=>?_⟩
  rcases zAK.1 hx with rfl|hx
  ·have:=h.1;simp only [Hp.get] at this;exact zje this
  ·exact h2 x hx
 | [],_::_,h=>h.elim
 | _::_,[],h=>h.elim
theorem zbI {bs:List Blk} {es es2:List (Nat×Nat)}:∀ {θ:List Nat} {fp:List (List V×TypeId)},ye ⟨bs,es⟩ θ fp->ye ⟨bs,es2⟩ θ fp
 | [],[],_=>trivial
 | _::_,(_,_)::_,h=>⟨h.1,zbI h.2⟩
 | [],_::_,h=>h.elim
 | _::_,[],h=>h.elim
theorem zeb {ty:TypeId} {ts:List TypeId} {lent:List (TypeId×List CK)} (h:jB P (ty::ts)=some lent):(∃ e ks r,P.underlying ty=some (.pointer e)/\jB P ts=some r/\lent=(e,ks)::r)\/((∀ e,P.underlying ty≠some (.pointer e))/\jB P ts=some lent):=by
 simp only [jB] at h;split at h
 ·rename_i e r h1 h2;split at h
  ·rename_i ks hk;cases h;exact .inl ⟨e,ks,r,h1,h2,rfl⟩
  ·cases h
 ·rename_i d r hne h1 h2;cases h;exact .inr ⟨fun e he=>by rw [h1] at he;cases he;exact hne e rfl,h2⟩
 ·cases h
theorem parP:∀ {ts:List TypeId} {avs:List AV} {j0:Nat} {lent:List (TypeId×List CK)},wB P ts avs j0->jB P ts=some lent->∀ (i j off:Nat),avs[i]?=some (AV.p j off)->off=0/\j<j0+lent.length
 | [],[],j0,lent,_,_,i,j,off,h=>by simp at h
 | ty::ts,.p j' off'::avs,j0,lent,hp,hl,i,j,off,h=>by
  obtain ⟨⟨e,he⟩,rfl,rfl,hp⟩:=hp;rcases zeb hl with ⟨e',ks,r,h1,h2,rfl⟩|⟨h1,_⟩
  ·cases i with
   | zero=>simp only [zAt,zAA,AV.p.injEq] at h;obtain ⟨rfl,rfl⟩:=h;exact ⟨rfl,by simp⟩
   | succ i =>
    simp only [zBF] at h;obtain ⟨a,b⟩:=parP hp h2 i j off h;exact ⟨a,by simp;omega⟩
  ·exact absurd he (h1 e)
 | ty::ts,.d x::avs,j0,lent,hp,hl,i,j,off,h=>by
  obtain ⟨hne,hp⟩:=hp;rcases zeb hl with ⟨e',ks,r,h1,h2,rfl⟩|⟨_,h2⟩
  ·exact absurd h1 (hne e')
  ·cases i with
   | zero=>simp at h
   | succ i=>simp only [zBF] at h;exact parP hp h2 i j off h
 | [],_::_,_,_,h,_,_,_,_,_=>h.elim
 | _::_,[],_,_,h,_,_,_,_,_=>h.elim
theorem joinL_inj:∀ {a b:List (List V)},(a.length=b.length/\∀ (m:Nat) (x y:List V),a[m]?=some x->b[m]?=some y->x.length=y.length)->joinL a=joinL b->a=b
 | [],[],_,_=>rfl
 | x::a,y::b,h,he=>by
  obtain ⟨h1,h2⟩:=h;simp only [joinL] at he;obtain ⟨e1,e2⟩:=List.append_inj he (h2 0 x y rfl rfl);rw [e1,joinL_inj ⟨by simpa using h1,fun m u w hu hw=>h2 (m+1) u w (by simpa using hu) (by simpa using hw)⟩ e2]
 | [],_::_,h,_=>by simp at h
 | _::_,[],h,_=>by simp at h
theorem szOk_get:∀ {fp:List (List V×TypeId)} {out:List (List V)},szOk fp out->out.length=fp.length/\∀ (m:Nat) (x:List V×TypeId) (a:List V),fp[m]?=some x->out[m]?=some a->x.1.length=a.length
 | [],[],_=>⟨rfl,fun m x a h=>by simp at h⟩
 | (c,t)::fp,o::out,h=>by
  obtain ⟨h1,h2⟩:=szOk_get h.2;refine ⟨by simp [h1],fun m x a hx ha=>?_⟩
  cases m with
  | zero=>simp only [zAt,zAA] at hx ha;subst hx ha;exact h.1
  | succ m=>simp only [zBF] at hx ha;exact h2 m x a hx ha
 | [],_::_,h=>h.elim
 | _::_,[],h=>h.elim
theorem lent_ex:∀ (fp:List (List V×TypeId)) (bs:List Blk),ye ⟨bs++fp.map (fun x=>Blk.cells x.1 x.2),[]⟩ (List.range' bs.length fp.length) fp
 | [],_=>trivial
 | (c,t)::fp,bs=>by
  refine ⟨by simp [Hp.get,zd],?_⟩
  have:=lent_ex fp (bs++[.cells c t]);simpa using this
theorem zo2 (he:Env P gl ph) {f:FuncId} (hk:∀ args,gl.hk f args=none) {hs:List (Nat×JS)} {fn:Func} {lent:List (TypeId×List CK)} (h:yQ P hs f=some t) (hfn:P.funcs[f]?=some fn) (hlent:jB P fn.params.toList=some lent) {avs:List AV} {fp:List (List V×TypeId)}
  (hp:wB P fn.params.toList avs 0) (hf:FpOk lent fp) (htop:∀ x,AV.d x∈avs->x.top=0) {v:V} {out:List (List V)} (hsz:szOk fp out) (hq:evT ph gl N t (zea avs fp)=some (0,v::joinL out)):Ev P gl f avs fp v out:=by
 simp only [yQ,hfn,hlent] at h;split at h
 ·rename_i body l hbody hl;cases hl;obtain ⟨f1,f2,f3,f4⟩:=fpOk_len hf;have hpl:fn.params.toList.length=avs.length:=xParams_ok.parLen hp;have hrho:tops (zea avs fp)=0:=by
   unfold zea
   rw [jl,f3,zbx (l:=avs.map holdA) fun v hv=>by
    obtain ⟨a,ha,rfl⟩:=zAo.1 hv;cases a with
    | d x=>exact htop x ha
    | p _ _=>rfl]
   rfl
  have key:∀ (θ:List Nat) (bs:List Blk) (es:List (Nat×Nat)),θ.Nodup->ye ⟨bs,es⟩ θ fp->v.top=0/\tops (joinL out)=0/\∃ k,∀ n,k<=n->zk P gl n f (avs.map (wz θ)) ⟨bs,es⟩=some (.ret v,yV ⟨bs,es⟩ θ fp out):=by
   intro θ bs es hn hL;obtain ⟨l1,l2⟩:=za5 hL;simp only at l2;have hpd:∀ a,a<θ.length->θ[a]?=some (pd θ a):=fun a ha=>by
    simp [pd,zd,ha]
   have hr0:Rel bs.length bs (zea avs fp) θ ⟨[],lentBlks lent 0 fn.params.toList.length,lent.length,List.replicate (fn.params.toList.length+(lentKs lent).length) .raw,[],[],lent.length⟩ ⟨[],⟨bs,[]⟩,[],[]⟩:=by
    have hB:∀ (y:List V) a cs ty,qy a (lentBlks lent 0 fn.params.toList.length)=some (cs,ty)->Hp.get ⟨bs,[]⟩ (pd θ a)=some (.cells (evCs (zea avs fp++y) [] cs) ty)/\(∀ pa,evCs (zea avs fp++y) pa cs=evCs (zea avs fp++y) [] cs)/\a<0+lent.length:=fun y a cs ty hh =>
     zcT (x:=avs.map holdA) (y:=y) (th:=θ) (H:=⟨bs,[]⟩) hf (zbI hL) (fun m b hm=>by rw [zA0];have:=hpd m (zAB.1 hm).1;rw [this] at hm;exact zAr hm) (by simp [hpl]) a cs ty hh
    refine ⟨fun ρ'' pa'' e1 e2=>⟨fun i sv v hi=>by simp [nth] at hi,fun a cs ty hh=>?_,fun i k hi=>?_,fun t ht=>by simp at ht⟩,rfl,by simp only [l1,f1],?_,?_,?_,?_,hrho,fun e hh=>by simp at hh,fun b _ _=>rfl,zAO _,rfl,fun a off hh=>by simp [wK,ya] at hh,fun a x hh=>?_,fun a off hh=>by simp [wK,ya] at hh,zAO _⟩
    ·obtain ⟨y,rfl⟩:=e1;obtain ⟨g1,g2,g3⟩:=hB y a cs ty hh;rw [qj e2 (by omega),g2 pa'']
     exact g1
    ·rw [zd,List.getElem?_replicate] at hi;split at hi
     ·cases hi;rfl
     ·cases hi
    ·intro a a' ha ha' hh;have g1:=hpd a (by simp only at ha;omega)
     have g2:=hpd a' (by simp only at ha';omega)
     rw [hh] at g1;exact (List.getElem?_inj (by simp only at ha;omega) hn).1 (g1.trans g2.symm)
    ·intro a h1 h2;simp only at h1 h2;omega
    ·intro a ha;simp only at ha;exact l2 _ (zAb (hpd a (by omega)))
    ·simp [zea,hpl,f2]
    ·obtain ⟨_,_,g3⟩:=hB [] a x.1 x.2 hh;simpa using g3
   obtain ⟨ks1,t1,k1,k2,k3,k4⟩:=zh9 h hr0 (by simp) hq
   simp only [List.length_replicate] at k1
   obtain ⟨ks2,svs,ρ2,t2,p0,p1,p2,p3,p4,p5⟩:=xParams_ok (avs:=avs) k2 hp k4 (by simp only [k1];omega) (fun m av hm=>by
    rw [zA0,yb];unfold zea;rw [zAR (by simpa using (zAB.1 hm).1)]
    simp [hm]) k3
   simp only [zA7] at p1;have hr2:Rel bs.length bs ρ2 θ ⟨svs++List.replicate (fn.ntmps - svs.length) tup0,lentBlks lent 0 fn.params.toList.length,lent.length,ks2,[],[],lent.length⟩ ⟨avs.map (wz θ)++List.replicate (fn.ntmps - (avs.map (wz θ)).length) (.tup []),⟨bs,[]⟩,[],[]⟩:=by
    refine ⟨fun ρ'' pa'' e1 e2=>⟨fun i sv w hi hw=>?_,(p4.ext ρ'' pa'' e1 e2).blks,(p4.ext ρ'' pa'' e1 e2).ks,(p4.ext ρ'' pa'' e1 e2).as⟩,by simp [p0],p4.na,p4.inj,p4.lo,p4.hi,p4.kl,p4.top,p4.edg,p4.base,p4.blen,rfl,p4.lk,p4.bn,p4.ln,p4.nf⟩
    rw [zd] at hi ⊢
    by_cases hlt:i<svs.length
    ·rw [zAR hlt] at hi;rw [zAR (by simp;omega)]
     obtain ⟨av,g1,g2⟩:=p5 ρ'' pa'' e1 e2 i sv hi;rw [g2] at hw;cases hw;simp only [zAY,g1,zAa,zAA];cases av with
     | d x=>rfl
     | p j off =>
      obtain ⟨g3,g4⟩:=parP hp hlent i j off g1;simp only [wz];rw [qj e2 (by omega)]
    ·rw [zAP (by omega),List.getElem?_replicate] at hi
     rw [zAP (by simp;omega),List.getElem?_replicate]
     split at hi
     ·cases hi;cases hw;rename_i hlt2;simp only [zAU,p0] at hlt2 ⊢;simp [hlt2,evSC,evC]
     ·cases hi
   obtain ⟨e,σ',ρ',pa',t',s',c1,c2,c3,c4,c5,k0,c6⟩:=jE he body 1 _ _ t2 ρ2 θ _ _ p1 hr2 p2;have hfin:zmQ P lent fn.results.toList σ'=some t'/\(e=.normal\/e=.ret):=by
    cases e with
    | normal=>exact ⟨c1,.inl rfl⟩
    | ret=>exact ⟨c1,.inr rfl⟩
    | exit i=>cases c1
   obtain ⟨v',out',vs,hnf,w1,w2,w3,w4,w5,w6,w7⟩:=zo1 c5 hfin.1 c2;simp only [List.cons.injEq] at w1;obtain ⟨rfl,w1⟩:=w1;have hout:out=out':=by
    refine joinL_inj ?_ w1;have g1:=szOk_get hsz;refine ⟨by rw [g1.1,w6,f1],fun m a b ha hb=>?_⟩
    obtain ⟨x,hx⟩:∃ x,fp[m]?=some x:=by
     have:=(zAB.1 ha).1;exact ⟨fp[m]'(by rw [<- g1.1];exact this),by simp⟩
    obtain ⟨y,hy⟩:∃ y,lent[m]?=some y:=by
     have:=(zAB.1 ha).1;exact ⟨lent[m]'(by rw [f1,<- g1.1];exact this),by simp⟩
    have h1:=g1.2 m x a hx ha;obtain ⟨vs',h2,h3⟩:=f4 m y.1 y.2 hy;obtain ⟨ws,h4,h5,_⟩:=w7 m y.1 y.2 hy;rw [hx] at h2;cases h2;rw [hb] at h4;cases h4;simp only at h1;omega
   subst hout;refine ⟨w4,w5,k0+1,fun n hn'=>?_⟩;obtain ⟨n,rfl⟩:∃ n',n=n'+1:=⟨n - 1,by omega⟩
   obtain ⟨env',⟨bs',es'⟩,lk',df'⟩:=s';have hdf:df'=[]:=c5.df;refine xI (hk _) (NoU.out2 _ _ _) hfn hbody ⟨exOf e,_,by rw [zBB];exact c6 n (by omega),?_⟩
   have hfinH:zL bs.length es (tupOf vs).top ⟨bs',es'⟩=yV ⟨bs,es⟩ θ fp out:=by
    rw [w3,w4];have hen:es'.all (fun e=>Nat.ble bs.length e.1 || Nat.ble e.2 bs.length)=true:=by
     rw [zBH];intro x hx;have:=c5.edg x hx;simp [zBa this]
    have hef:es'.filter (fun e=>Nat.blt e.1 bs.length)=[]:=by
     rw [List.filter_eq_nil_iff];intro x hx;have:=c5.edg x hx;simp only [zBq];omega
    obtain ⟨q1,q2,q3,q4⟩:=putB_get (H:=⟨bs,es⟩) (out:=out) hn l1 (by rw [w6,f1]) l2
    simp only at q1 q2;have hbl:(yV ⟨bs,es⟩ θ fp out).blks=bs'.take bs.length:=by
     apply zBP;intro b;rw [zA4];split
     ·rename_i hb
      by_cases hm:b∈θ
      ·obtain ⟨m,hm1,hm2⟩:=List.mem_iff_getElem.1 hm;have hml:m<lent.length:=by omega
       obtain ⟨vs',h2,h3⟩:=f4 m _ _ (show lent[m]?=some (lent[m].1,lent[m].2) by simp [hml])
       obtain ⟨ws,h4,h5,h6⟩:=w7 m _ _ (show lent[m]?=some (lent[m].1,lent[m].2) by simp [hml])
       have g1:=q3 m b ws vs' lent[m].1 (by simp [hm1,hm2]) h4 h2
       have g2:pd pa' m=b:=by
        rw [qj c4 (by omega)]
        have:=hpd m (by omega)
        rw [zAS hm1,hm2] at this;exact (zAr this).symm
       rw [g2] at h6;simp only [Hp.get,zd] at g1 h6;rw [g1,h6]
      ·have g1:=q4 b hm;simp only [Hp.get,zd] at g1;rw [g1];refine (c5.base b hb fun a ha hh=>?_).symm;rw [hnf] at ha;rw [qj c4 (by omega)] at hh
       exact hm (hh ▸ zAb (hpd a (by omega)))
     ·rename_i hb;exact zAk (by rw [q2];omega)
    have:yV ⟨bs,es⟩ θ fp out=⟨bs'.take bs.length,es⟩:=by
     rw [<- hbl];cases hpb:yV ⟨bs,es⟩ θ fp out;rw [hpb] at q1;simp only at q1;rw [q1]
    rw [this];simp only [zL,hen,hef,zA7];simp
   rcases hfin.2 with rfl|rfl<;>exact ⟨hdf,vs,w2,by rw [w3],hfinH.symm⟩
  obtain ⟨a1,a2,_⟩:=key _ _ _ (List.nodup_range') (lent_ex fp []);exact ⟨a1,a2,hsz,fun θ H hn hL=>(key θ H.blks H.edges hn hL).2.2⟩
 ·cases h
end Go.Vm.Sx
namespace Go.Vm.Sx
set_option linter.unusedSectionVars false
open Go Go.Vm
variable {P:Program} {gl:Gl}
variable [NoU gl]
theorem zib {m n i:Nat} (h:i<n):(List.range' m n)[i]?=some (m+i):=by
 simp [h]
theorem Ev.det {f:FuncId} {avs:List AV} {fp:List (List V×TypeId)} {v v':V} {out out':List (List V)} (h:Ev P gl f avs fp v out) (h':Ev P gl f avs fp v' out'):v=v'/\out=out':=by
 obtain ⟨_,_,s1,h⟩:=h;obtain ⟨_,_,s2,h'⟩:=h';have hn:=List.nodup_range' (s:=0) (n:=fp.length) (step:=1);have hL:ye ⟨[]++fp.map (fun x=>Blk.cells x.1 x.2),[]⟩ (List.range' 0 fp.length) fp:=lent_ex fp [];obtain ⟨k,h⟩:=h _ _ hn hL;obtain ⟨k',h'⟩:=h' _ _ hn hL;have e1:=h (max k k') (by omega)
 have e2:=h' (max k k') (by omega)
 rw [e1] at e2;simp only [zAA,zAD,Out.ret.injEq] at e2;refine ⟨e2.1,?_⟩;obtain ⟨l1,l2⟩:=za5 hL;obtain ⟨g1,g2⟩:=szOk_get s1;obtain ⟨g3,g4⟩:=szOk_get s2;obtain ⟨_,_,p1,_⟩:=putB_get (out:=out) hn l1 g1 l2;obtain ⟨_,_,q1,_⟩:=putB_get (out:=out') hn l1 g3 l2;apply zBP;intro m
 by_cases hm:m<fp.length
 ·have hb:(List.range' 0 fp.length)[m]?=some (0+m):=zib hm;have ho:out[m]?=some (out[m]'(by omega)):=by simp [g1,hm]
  have ho':out'[m]?=some (out'[m]'(by omega)):=by simp [g3,hm]
  have hf:fp[m]?=some ((fp[m]'hm).1,(fp[m]'hm).2):=by simp [hm]
  have a:=p1 m _ _ _ _ hb ho hf;have b:=q1 m _ _ _ _ hb ho' hf;rw [e2.2,b] at a;simp only [zAA,Blk.cells.injEq,zBn] at a;rw [ho,ho',a]
 ·rw [zAk (by omega),zAk (by omega)]
open Classical in
noncomputable def phE (P:Program) (gl:Gl):PH:=fun f avs fp =>
 if h:∃ p:V×List (List V),Ev P gl f avs fp p.1 p.2 then some (Classical.choose h) else none
theorem phE_ok:zm7 P gl (phE P gl):=by
 intro f avs fp v out h;unfold phE at h;split at h
 ·rename_i hex;have:=Classical.choose_spec hex;have e:=zAr h;rw [e] at this;exact this
 ·cases h
theorem jq {f:FuncId} {avs:List AV} {fp:List (List V×TypeId)} {v:V} {out:List (List V)} (h:Ev P gl f avs fp v out):phE P gl f avs fp=some (v,out):=by
 unfold phE;have hex:∃ p:V×List (List V),Ev P gl f avs fp p.1 p.2:=⟨(v,out),h⟩;rw [dif_pos hex];obtain ⟨e1,e2⟩:=(Classical.choose_spec hex).det h
 congr 1
 exact Prod.ext e1 e2
theorem zqs (hgl:∀ g off v,gl g off=some v->v.top=0):Env P gl (phE P gl):=⟨hgl,phE_ok⟩
theorem qL (hgl:∀ g off v,gl g off=some v->v.top=0) {hs:List (Nat×JS)} {f:FuncId} (hk:∀ args,gl.hk f args=none) {fn:Func} {t:Tree} (h:yQ P hs f=some t) (hfn:P.funcs[f]?=some fn) (hlent:jB P fn.params.toList=some []) {xs:List V}
  (hp:wB P fn.params.toList (xs.map .d) 0) (htop:tops xs=0) {v:V} (N:Nat) (hq:evT (phE P gl) gl N t xs=some (0,[v])):Ev P gl f (xs.map .d) [] v []:=by
 refine zo2 (N:=N) (zqs hgl) hk h hfn hlent hp (fp:=[]) trivial (fun x hx=>?_) (v:=v) (out:=[]) trivial ?_
 ·simp only [zAo,AV.d.injEq,exists_eq_right] at hx;exact wx hx htop
 ·have:zea (xs.map AV.d) []=xs:=by simp [zea,lentV,holdA,Function.comp_def]
  rw [this];exact hq
theorem Ev.run {f:FuncId} {xs:List V} {v:V} (h:Ev P gl f (xs.map .d) [] v []) (H:Hp):∃ k,∀ n,k<=n->zk P gl n f xs H=some (.ret v,H):=by
 obtain ⟨_,_,_,h⟩:=h;obtain ⟨k,h⟩:=h [] H (by simp) trivial
 refine ⟨k,fun n hn=>?_⟩;have:=h n hn;simpa [wz,Function.comp_def,yV] using this
theorem Ev.of_run {f:FuncId} {xs:List V} {v:V} (ht:v.top=0) (h:∀ H,∃ k,∀ n,k<=n->zk P gl n f xs H=some (.ret v,H)):Ev P gl f (xs.map .d) [] v []:=by
 refine ⟨ht,rfl,trivial,fun θ H _ hL=>?_⟩;cases θ with
 | nil =>
  obtain ⟨k,h⟩:=h H;refine ⟨k,fun n hn=>?_⟩;have:=h n hn;simpa [wz,Function.comp_def,yV] using this
 | cons=>exact hL.elim
theorem Ev.hook {f:FuncId} {xs:List V} {v:V} (hk:gl.hk f xs=some v) (ht:v.top=0):Ev P gl f (xs.map .d) [] v [] :=
 Ev.of_run ht fun H=>⟨1,fun n hn=>by
  obtain ⟨m,rfl⟩:∃ m,n=m+1:=⟨n - 1,by omega⟩
  obtain ⟨bs,es⟩:=H
  simp only [zk,hk]⟩
end Go.Vm.Sx
namespace Go.Vm.Sx
set_option linter.unusedSectionVars false
open Go Go.Vm
variable {P:Program} {gl:Gl} {ph:PH} {N:Nat} {t:Tree}
variable [NoU gl]
end Go.Vm.Sx
namespace Go.Vm.Sx
open Go Go.Vm
theorem zgJ (v:V) (ρ:List V):at' (v::ρ) 0=v:=rfl
theorem zgK (v:V) (ρ:List V) (n:Nat):at' (v::ρ) (n+1)=at' ρ n:=rfl
theorem zni {α:Type} {step:α->Option (Nat×α)} {st:Nat->α} {m j:Nat} {r:α} (hs:∀ i,i<m->step (st i)=some (0,st (i+1))) (he:step (st m)=some (j+1,r)):∀ {N:Nat},m<N->zbs step N (st 0)=some (j,r):=by
 have key:∀ k i N,i+k=m->k<N->zbs step N (st i)=some (j,r):=by
  intro k
  induction k with
  | zero =>
   intro i N hi hN;obtain rfl:i=m:=by omega
   cases N with
   | zero=>omega
   | succ N=>simp only [zbs,he]
  | succ k ih =>
   intro i N hi hN;cases N with
   | zero=>omega
   | succ N =>
    simp only [zbs,hs i (by omega)]
    exact ih (i+1) N (by omega) (by omega)
 intro N hN;exact key m 0 N (by omega) hN
theorem kF (v:V) (a b:List V):(v::a)++b=v::(a++b):=rfl
theorem wP (b:List V):([]:List V)++b=b:=rfl
theorem zbJ {α:Type} (a b:α):(bif true then a else b)=a:=rfl
theorem zbK {α:Type} (a b:α):(bif false then a else b)=b:=rfl
def ltz (x y:Int):Bool:=decide (x<y)
def lez (x y:Int):Bool:=decide (x<=y)
theorem yW (x y:Int):cmI .lss x y=ltz x y:=rfl
theorem yX (x y:Int):cmI .leq x y=lez x y:=rfl
theorem yY (x y:Int):cmI .gtr x y=ltz y x:=rfl
theorem yZ (x y:Int):cmI .geq x y=lez y x:=rfl
theorem y0 (x y:Int):cmI .eql x y=(x == y):=rfl
theorem y4 (x y:Int):cmI .neq x y=(x != y):=rfl
theorem zfs {x y:Int} (h:x<y):ltz x y=true:=decide_eq_true h
theorem zft {x y:Int} (h:y<=x):ltz x y=false:=decide_eq_false (by omega)
theorem vY {i n:Nat} (h:i<n):ltz (i:Int) (n:Int)=true:=zfs (by omega)
theorem xj {i n:Nat} (h:n<=i):ltz (i:Int) (n:Int)=false:=zft (by omega)
theorem jR {i:Nat}:ltz (i:Int) 0=false:=zft (by omega)
theorem zgL (k:IntKind) (n:Int):kOk (.int k) (.int k n)=true:=by simp [kOk]
theorem zgM (s:List Nat):kOk .str (.str s)=true:=by simp [kOk]
theorem zbL (b:Bool):kOk .bool (.bool b)=true:=by simp [kOk]
theorem kSl (z:Nat) (l:List V):kOk (.sl z) (.sl z l .no)=true:=by simp [kOk,locked]
theorem zgN (z:Nat):kOk (.sl z) .snil=true:=by simp [kOk]
theorem zgO (z:Nat) (l:List V) (e:TypeId):kOk (.sl z) (.sl z l (.yes e))=true:=by simp [kOk,locked]
theorem ks_nil:ksOk [] []=true:=by simp [ksOk]
theorem wQ (k:CK) (ks:List CK) (v:V) (vs:List V):ksOk (k::ks) (v::vs)=(kOk k v && ksOk ks vs):=rfl
theorem y5 (k:IntKind) (n:Int):vI (.int k n)=n:=by simp [vI]
theorem wR (b:Bool):vB (.bool b)=b:=by simp [vB]
theorem y6 (s:List Nat):vS (.str s)=s:=by simp [vS]
theorem zbM (z:Nat) (l:List V) (o:Own):vL (.sl z l o)=l:=by simp [vL]
theorem vL_nil:vL .snil=[]:=by simp [vL]
section
variable {pc:FuncId->List AV->List (List V×TypeId)->Option (V×List (List V))} {gl:Nat->Nat->Option V} {N:Nat} {ρ:List V} {t a b body:Tree} {c:TB} {i:Nat} {ks:List CK}
def zkt (pc:FuncId->List AV->List (List V×TypeId)->Option (V×List (List V))) (gl:Nat->Nat->Option V) (N:Nat) (body:Tree) (ρ ini:List V):Option (Nat×List V):=zbs (fun vs=>evT pc gl N body (ρ++vs)) N ini
theorem wT (ini:List C):evT pc gl N (.loop ini body) ρ=zkt pc gl N body ρ (evCs ρ [] ini):=rfl
theorem qM {st:Nat->List V} {m j:Nat} {r:List V} (hs:∀ i,i<m->evT pc gl N body (ρ++st i)=some (0,st (i+1))) (he:evT pc gl N body (ρ++st m)=some (j+1,r)) (hN:m<N):zkt pc gl N body ρ (st 0)=some (j,r):=zni hs he hN
theorem zgP (h:evB ρ c=true):evT pc gl N (.ite c a b) ρ=evT pc gl N a ρ:=by simp [evT,h]
theorem zgQ (h:evB ρ c=false):evT pc gl N (.ite c a b) ρ=evT pc gl N b ρ:=by simp [evT,h]
theorem wU (h:evB ρ c=true):evT pc gl N (.need c t) ρ=evT pc gl N t ρ:=by simp [evT,h]
theorem y7 (vs:List C):evT pc gl N (.out vs) ρ=some (0,evCs ρ [] vs):=rfl
theorem ev_esc:evT pc gl N (.esc t) ρ=match evT pc gl N t ρ with|some (j,vs)=>some (j+1,vs)|none=>none:=rfl
theorem wV (e:VE):evT pc gl N (.letv e t) ρ=evT pc gl N t (ρ++[evVE ρ e]):=rfl
theorem wW (l:TL) (i:TI):evT pc gl N (.elem l i t) ρ=bif ltz (evI ρ i) 0 then none else match nth (evL ρ l) (evI ρ i).toNat with|some v=>evT pc gl N t (ρ++[v])|none=>none:=by
 rw [evT,cond_eq_ite]
 by_cases h:evI ρ i<0
 ·simp [ltz,h]
 ·simp only [ltz,h,if_false,decide_false,zAH];rfl
theorem y8 (cs:List C) (i:TI):evT pc gl N (.sel cs i t) ρ=bif ltz (evI ρ i) 0 then none else match nth (evCs ρ [] cs) (evI ρ i).toNat with|some v=>evT pc gl N t (ρ++[v])|none=>none:=by
 rw [evT,cond_eq_ite]
 by_cases h:evI ρ i<0
 ·simp [ltz,h]
 ·simp only [ltz,h,if_false,decide_false,zAH];rfl
theorem ev_opn:evT pc gl N (.opn i ks t) ρ=match at' ρ i with|.agg cs=>(bif ksOk ks cs then evT pc gl N t (ρ++cs) else none)|_=>none:=rfl
theorem ev_unt:evT pc gl N (.unt i ks t) ρ=match at' ρ i with|.tup cs=>(bif ksOk ks cs then evT pc gl N t (ρ++cs) else none)|_=>none:=rfl
theorem y9 {k:CK} (h:kOk k (at' ρ i)=true):evT pc gl N (.kin i k t) ρ=evT pc gl N t ρ:=by simp [evT,h]
theorem wX (f:FuncId) (args:List AS) (lent:List (List C×TypeId)):evT pc gl N (.call f args lent ks t) ρ=match pc f (evAs ρ args) (evLent ρ lent) with|some (v,out)=>(bif sizesOk lent out && ksOk ks (joinL out) then evT pc gl N t (ρ++(v::joinL out)) else none)|none=>none:=rfl
theorem wY (g off:Nat):evT pc gl N (.glob g off t) ρ=match gl g off with|some v=>evT pc gl N t (ρ++[v])|none=>none:=rfl
theorem xc (l:TL):evT pc gl N (.byt l t) ρ=match bytesA (evL ρ l) with|some s=>evT pc gl N t (ρ++[.str s])|none=>none:=rfl
theorem ev_blk:evT pc gl N (.blk body t) ρ=match evT pc gl N body ρ with|some (0,vs)=>evT pc gl N t (ρ++vs)|some (j+1,vs)=>some (j,vs)|none=>none:=rfl
end
theorem wZ (a:List V):a++([]:List V)=a:=zBB a
end Go.Vm.Sx
namespace Go.Vm.Sx
open Go Go.Vm
def lv (sz:Nat) (nl:Bool) (l:List V):V:=if nl && l.isEmpty then .snil else .sl sz l .no
theorem lv_cases (sz:Nat) (nl:Bool) (l:List V):lv sz nl l=.sl sz l .no\/(l=[]/\lv sz nl l=.snil):=by
 unfold lv;split
 ·rename_i h;rw [zAC] at h;exact .inr ⟨by simpa using h.2,rfl⟩
 ·exact .inl rfl
theorem zcu {sz:Nat} {nl:Bool} {l:List V}:clr (lv sz nl l)=lv sz nl l:=by
 rcases lv_cases sz nl l with h|⟨_,h⟩<;>rw [h]<;>rfl
theorem zec {sz:Nat} {nl:Bool} {l:List V}:(lv sz nl l).top=tops l:=by
 rcases lv_cases sz nl l with h|⟨hl,h⟩<;>rw [h]
 ·rfl
 ·rw [hl];rfl
theorem znj (sz:Nat) (nl:Bool) (l:List V):kOk (.sl sz) (lv sz nl l)=true:=by
 rcases lv_cases sz nl l with h|⟨_,h⟩<;>rw [h]<;>simp [kOk,locked]
theorem zic (sz:Nat) (nl:Bool) (l:List V):vL (lv sz nl l)=l:=by
 rcases lv_cases sz nl l with h|⟨h0,h⟩<;>rw [h]
 ·simp [vL]
 ·rw [h0];simp [vL]
def acc (sz:Nat) (e:TypeId) (l:List V):V:=match l with|[]=>.snil|_=>.sl sz l (.yes e)
theorem zpQ (sz:Nat) (e:TypeId) (l:List V):kOk (.sl sz) (acc sz e l)=true:=by cases l<;>simp [acc,kOk,locked]
theorem zqt (sz:Nat) (e:TypeId) (l:List V):vL (acc sz e l)=l:=by cases l<;>simp [acc,vL]
theorem zo3 (sz:Nat) (e:TypeId) (l:List V):zoG e (acc sz e l)=true:=by cases l<;>simp [acc,zoG]
theorem zgR (sz:Nat) (e:TypeId) (l:List V):clr (acc sz e l)=lv sz true l:=by cases l<;>simp [acc,clr,lv]
theorem znk (sz:Nat) (e:TypeId) (l:List V) (a:V):V.sl sz (l++[a]) (.yes e)=acc sz e (l++[a]):=by cases l<;>simp [acc]
theorem roomA_of {n b:Nat} (h1:n<=140737488355328) (h2:n * b<=140737488355328):qG n b=true:=by
 simp only [qG,zAC];exact ⟨zBa h1,zBa h2⟩
theorem znl {x:Int} (h1:-9223372036854775808<=x) (h2:x<=9223372036854775807):IntKind.i64.wrap x=x:=by
 simp only [IntKind.wrap,IntKind.bits,IntKind.signed];simp;omega
theorem vZ {i:Nat} (h:i<9223372036854775807):IntKind.i64.wrap ((i:Int)+1)=((i+1:Nat):Int):=by
 rw [znl (by omega) (by omega)];omega
def xn (ok:Nat->Bool):Nat->Bool
 | 0=>true
 | n+1=>xn ok n && ok n
theorem allB_iff {ok:Nat->Bool}:∀ {n:Nat},xn ok n=true ↔ ∀ i,i<n->ok i=true
 | 0=>by simp [xn]
 | n+1=>by
  rw [xn,zAC,allB_iff];refine ⟨fun ⟨h1,h2⟩ i hi=>?_,fun h=>⟨fun i hi=>h i (by omega),h n (by omega)⟩⟩
  rcases zAZ i n with h|h
  ·exact h1 i h
  ·have:i=n:=by omega
   subst this;exact h2
theorem za6 {ok:Nat->Bool}:∀ {n:Nat},xn ok n=false->∃ m,m<n/\ok m=false/\∀ i,i<m->ok i=true
 | 0,h=>by simp [xn] at h
 | n+1,h=>by
  rw [xn,Bool.and_eq_false_iff] at h;cases hn:xn ok n with
  | false =>
   obtain ⟨m,h1,h2,h3⟩:=za6 hn;exact ⟨m,by omega,h2,h3⟩
  | true =>
   rcases h with h|h
   ·rw [hn] at h;cases h
   ·exact ⟨n,by omega,h,allB_iff.1 hn⟩
section
variable {pc:FuncId->List AV->List (List V×TypeId)->Option (V×List (List V))} {gl:Nat->Nat->Option V} {N:Nat} {ρ:List V} {body:Tree}
theorem zid {ok:Nat->Bool} {st:Nat->List V} {n:Nat} {good bad:List V} {x:Option (Nat×List V)} (hgo:∀ i,i<n->ok i=true->evT pc gl N body (ρ++st i)=some (0,st (i+1))) (hbad:∀ i,i<n->ok i=false->evT pc gl N body (ρ++st i)=some (1,bad))
  (hend:xn ok n=true->evT pc gl N body (ρ++st n)=some (1,good)) (hN:n<N) (hx:x=some (0,bif xn ok n then good else bad)):zkt pc gl N body ρ (st 0)=x:=by
 subst hx;cases h:xn ok n with
 | true=>exact qM (fun i hi=>hgo i hi (allB_iff.1 h i hi)) (hend h) hN
 | false =>
  obtain ⟨m,h1,h2,h3⟩:=za6 h;exact qM (m:=m) (fun i hi=>hgo i (by omega) (h3 i hi)) (hbad m h1 h2) (by omega)
end
end Go.Vm.Sx
namespace Go.Vm
open Go
def zly (g:Nat):List (Nat×List V)->Option (List V)
 | []=>none
 | (k,vs)::r=>match Nat.beq g k with
  | true=>some vs
  | false=>zly g r
def glT (U:TypeId) (ks:List Nat) (T:List (Nat×List V)):Nat->Nat->Option V:=fun g o=>match zly g T with
 | some vs=>nth vs o
 | none=>zhJ U ks g o
def znm (W:World) (x:Nat×List V):Prop:=∀ (o:Nat) (v:V),x.2[o]?=some v->v.top=0/\∃ cv,W.cell? ⟨x.1,o,none⟩=some cv/\∀ g,RelV g v cv
theorem xZ {g:Nat} {vs:List V}:∀ {T:List (Nat×List V)},zly g T=some vs->(g,vs)∈T
 | [],h=>by simp [zly] at h
 | (k,us)::r,h=>by
  simp only [zly] at h;split at h
  ·rename_i hb;simp only [zAA] at h;rw [zAJ hb,h];exact zAL ..
  ·exact zAE _ (xZ h)
theorem zjj {W:World} {x:Nat×List V} (h:znm W x) {o:Nat} {U:TypeId} {j:Nat}:x.2[o]?≠some (.ifc U (.obj j)):=by
 intro hv;obtain ⟨_,cv,_,h3⟩:=h o _ hv;have k1:∀ a,cv=.iface U (.pointer (some a)):=fun a=>by
  have:=h3 { yK W with obj:=⟨fun _=>a,fun _=>True⟩ };cases this with
  | ifc h2 =>
   cases h2 with
   | obj k=>rfl
 have:=(k1 ⟨0,0,none⟩).symm.trans (k1 ⟨1,0,none⟩);simp at this
theorem zqu {P:Program} {U:TypeId} {ks:List Nat} {T:List (Nat×List V)} {W:World} (h:Sents U W ks) (hT:∀ x∈T,znm W x):GlOk P (glT U ks T) (yK W):=by
 have hob:∀ k u j,glT U ks T k 0=some (.ifc u (.obj j))->zhJ U ks k 0=some (.ifc u (.obj j)):=fun k u j hv=>by
  unfold glT at hv;split at hv
  ·rename_i vs hvs;rw [zd] at hv;exact absurd hv (zjj (hT _ (xZ hvs)))
  ·exact hv
 have h0:=zow (P:=P) h;refine ⟨?_,fun k u j hv=>⟨(h0.2 k u j (hob k u j hv)).1,fun k' u' j' hv' e=>(h0.2 k u j (hob k u j hv)).2 k' u' j' (hob k' u' j' hv') e⟩⟩;intro k off v hv;unfold glT at hv;split at hv
 ·rename_i vs hvs;rw [zd] at hv;obtain ⟨h1,cv,h2,h3⟩:=hT _ (xZ hvs) off v hv;exact ⟨cv,h2,h3 _,h1⟩
 ·exact h0.1 k off v hv
theorem zie {α β:Type} {f:α->Option β}:∀ {l:List α} {xs:List β},l.mapM f=some xs->xs.length=l.length/\∀ (i:Nat) (a:α) (x:β),l[i]?=some a->xs[i]?=some x->f a=some x
 | [],xs,h=>by
  simp only [List.mapM_nil,Option.pure_def,zAA] at h;subst h;exact ⟨rfl,fun i a x h=>by simp at h⟩
 | a::l,xs,h=>by
  simp only [List.mapM_cons,Option.pure_def,Option.bind_eq_bind,zAG,zAA] at h;obtain ⟨y,hy,ys,hys,rfl⟩:=h;obtain ⟨h1,h2⟩:=zie hys;refine ⟨by simp [h1],fun i b x hb hx=>?_⟩
  cases i with
  | zero=>simp at hb hx;subst hb;subst hx;exact hy
  | succ i=>exact h2 i b x (by simpa using hb) (by simpa using hx)
theorem zif {P:Program} {W:World} {l:List (String×DataW Unit)} (h:laidMet P l W) {nm:String} {ns:List Int} {k:IntKind} (hx:(nm,DataW.agg (ns.map fun m=>.lit (.int k m)))∈l) {g t n e:Nat} (hg:P.globalNamed nm=some g) (hgt:(P.globals[g]?).map (·.type)=some t)
  (ht:P.underlying t=some (.array n e)) (he:P.underlying e=some (.int k)) (hc:P.cellsOf e=1) (hn:P.cellsOf t=n):znm W (g,ns.map (V.int k)):=by
 obtain ⟨ps,hv,_,hok⟩:=h;obtain ⟨g',t',cs,fuel,p,h1,h2,h3,h4,hrow,_⟩:=xH hv _ hx;rw [hg] at h1;cases h1;rw [hgt] at h2;cases h2;cases fuel with
 | zero=>simp [DataW.trod] at h4
 | succ fuel =>
  have hlc:∀ i,i<cs.size->W.cell? ⟨g,i,none⟩=cs[i]?:=fun i hi=>by
   have:=World.var?_cell hg h3 i;simpa using this
  obtain ⟨l0⟩:=cs;simp only [DataW.trod,ht] at h4;split at h4<;>try (cases h4;done)
  rename_i hl;simp only [zAV,zAD,DataW.agg.injEq] at h4;obtain ⟨xs,hxs,e1,_⟩:=h4;obtain ⟨m1,m2⟩:=zie hxs;have hnl:ns.length=n:=by
   have:=congrArg List.length e1;simp only [zAU,m1,List.length_range] at this;exact this.symm
  intro o v hov;simp only [zAY,zAV] at hov;obtain ⟨m,hm,rfl⟩:=hov;have ho:o<n:=by rw [<- hnl];exact (zAB.1 hm).1
  have hox:o<xs.length:=by rw [m1];simpa using ho
  have hxo:xs[o]?=some xs[o]:=zAS hox;have hr:=m2 o o xs[o] (by simp [ho]) hxo
  have hd:xs[o].1=.lit (.int k m):=by
   have:=congrArg (fun l=>l[o]?) e1;simp only [zAY,hxo,hm,zAa,zAA] at this;exact this
  refine ⟨rfl,?_⟩;have hol:o<l0.length:=by rw [hl,hn];exact ho
  have hlo:l0[o]?=some l0[o]:=zAS hol;have htk:(l0.drop (o * P.cellsOf e)).take (P.cellsOf e)=[l0[o]]:=by
   rw [hc,zBz,List.drop_eq_getElem_cons hol];rfl
  rw [htk] at hr;cases fuel with
  | zero=>simp [DataW.trod] at hr
  | succ fuel =>
   generalize hc0:l0[o]=c at hr hlo;refine ⟨c,?_,fun g=>?_⟩
   ·rw [hlc o (by simpa using hol)];simpa using hlo
   ·generalize xs[o]=y at hr hd;obtain ⟨y1,y2⟩:=y;simp only at hd;subst hd;simp only [DataW.trod,he] at hr;cases c<;>simp at hr;obtain ⟨⟨rfl,_⟩,rfl,_⟩:=hr;exact .int _ _
end Go.Vm
namespace Go.Vm
open Go
variable {cx:Cx} {n:Nat}
def ldChk (cx:Cx) (o:Oper) (env:List V) (lk:List (Nat×Nat)):Bool :=
 match o.op with
 | .load t a=>match qC cx.P t with
  | some false=>true
  | _=>match peek env a with
   | some (.ptr b _)=>lk.all fun p=>!(Nat.beq p.1 b)
   | _=>true
 | _=>true
def Cx.opsN (cx:Cx) (all:Array Oper) (takes:List Tmp):List Oper->St->Option St
 | [],s=>some s
 | o::os,⟨env,H,lk,df⟩=>match zq all o env with
  | none=>none
  | some false=>cx.opsN all takes os ⟨putA env o.dst (.tup []),H,lk,df⟩
  | some true=>match ldChk cx o env lk with
   | false=>none
   | true=>match cx.op takes o env H lk df with
    | some (.val v,⟨env,H,lk,df⟩)=>cx.opsN all takes os ⟨putA env o.dst v,H,lk,df⟩
    | some (.skip,⟨env,H,lk,df⟩)=>cx.opsN all takes os ⟨putA env o.dst (.tup []),H,lk,df⟩
    | _=>none
inductive It where
 |c (c:Code)|eb (id:Nat)|os (all:Array Oper) (takes:List Tmp) (l:List Oper)|on (all:Array Oper) (takes:List Tmp) (l:List Oper)
def go (cx:Cx) (n:Nat) (Q:Ex->St->Prop):List It->Ex->St->Prop
 | [],ex,s=>Q ex s
 | .c c::k,.normal,s=>W cx n c s (go cx n Q k)
 | .c _::k,ex,s=>go cx n Q k ex s
 | .eb id::k,.exit i,s=>go cx n Q k (if Nat.beq i id then .normal else .exit i) s
 | .eb _::k,ex,s=>go cx n Q k ex s
 | .os all takes l::k,.normal,s=>O cx all takes l s (go cx n Q k)
 | .os _ _ _::k,ex,s=>go cx n Q k ex s
 | .on all takes l::k,.normal,s=>∃ s',cx.opsN all takes l s=some s'/\go cx n Q k .normal s'
 | .on _ _ _::k,ex,s=>go cx n Q k ex s
variable {Q:Ex->St->Prop} {k:List It} {s:St} {env:List V} {H:Hp} {lk:List (Nat×Nat)} {df:List (V×List V)} {all:Array Oper} {takes:List Tmp} {os:List Oper}
theorem zig {c:Code} (h:go cx n Q [.c c] .normal s):W cx n c s Q:=by
 have:(go cx n Q [])=Q:=by funext ex s;simp [go]
 simpa [go,this] using h
theorem zx {ex:Ex}:go cx n Q [] ex s ↔ Q ex s:=by simp [go]
theorem go_skip:go cx n Q (.c .skip::k) .normal s ↔ go cx n Q k .normal s:=by simp only [go];exact zqb
theorem zA {a b:Code}:go cx n Q (.c (.seq a b)::k) .normal s ↔ go cx n Q (.c a::.c b::k) .normal s:=by
 simp only [go,zqY];have:(thn (fun s=>W cx n b s (go cx n Q k)) (go cx n Q k))=go cx n Q (.c b::k):=by
  funext ex s;cases ex<;>simp [go]
 rw [this]
theorem qk {id:Nat} {c:Code}:go cx n Q (.c (.block id c)::k) .normal s ↔ go cx n Q (.c c::.eb id::k) .normal s:=by
 simp only [go,zoy];have:blk id (go cx n Q k)=go cx n Q (.eb id::k):=by
  funext ex s;cases ex<;>simp [go]
 rw [this]
theorem go_ret:go cx n Q (.c .ret::k) .normal s ↔ go cx n Q k .ret s:=by simp only [go];exact zqX
theorem ju {i:Nat}:go cx n Q (.c (.exit i)::k) .normal s ↔ go cx n Q k (.exit i) s:=by simp only [go];exact zqc
theorem kG {id:Nat}:go cx n Q (.eb id::k) .normal s ↔ go cx n Q k .normal s:=by simp [go]
theorem zZ {id i:Nat}:go cx n Q (.eb id::k) (.exit i) s ↔ go cx n Q k (if Nat.beq i id then .normal else .exit i) s:=by simp [go]
theorem zas {id:Nat}:go cx n Q (.eb id::k) .ret s ↔ go cx n Q k .ret s:=by simp [go]
theorem qh {c:Code} {i:Nat}:go cx n Q (.c c::k) (.exit i) s ↔ go cx n Q k (.exit i) s:=by simp [go]
theorem zbN {c:Code}:go cx n Q (.c c::k) .ret s ↔ go cx n Q k .ret s:=by simp [go]
def zfu (a b:Prop):Option V->Prop
 | some (.bool true)=>a
 | some (.bool false)=>b
 | _=>False
theorem zbO {c:Operand} {a b:Code}:go cx n Q (.c (.cond c a b)::k) .normal ⟨env,H,lk,df⟩ ↔ zfu (go cx n Q (.c a::k) .normal ⟨env,H,lk,df⟩) (go cx n Q (.c b::k) .normal ⟨env,H,lk,df⟩) (peek env c):=by
 simp only [go];unfold W;simp only [Cx.code];cases peek env c with
 | none=>simp [zfu]
 | some v =>
  cases v with
  | bool t=>cases t<;>simp [zfu]
  | _=>simp [zfu]
theorem zdl {a b:Prop} {t:Bool}:zfu a b (some (.bool t)) ↔ (t=true/\a\/t=false/\b):=by cases t<;>simp [zfu]
theorem go_region {id:Nat} {ops:Array Oper}:go cx n Q (.c (.region id ops false)::k) .normal ⟨env,H,lk,df⟩ ↔ go cx n Q (.os ops (qb ops) ops.toList::k) .normal ⟨env,H,[],df⟩:=by
 simp only [go];exact zmw
theorem go_os_nil:go cx n Q (.os all takes []::k) .normal s ↔ go cx n Q k .normal s:=by simp only [go];exact zqZ
theorem zku {dst:Option Tmp} {op:Op} {type:TypeId} {pos:String} {after:Array Edge} :
  go cx n Q (.os all takes (⟨dst,op,type,pos,after,none⟩::os)::k) .normal ⟨env,H,lk,df⟩ ↔ opQ dst (fun s=>go cx n Q (.os all takes os::k) .normal s) (go cx n Q k) (cx.op takes ⟨dst,op,type,pos,after,none⟩ env H lk df):=by
 simp only [go];exact zoz
def gdQ (a b:Prop):Option Bool->Prop
 | some true=>a
 | some false=>b
 | none=>False
theorem yg {dst:Option Tmp} {op:Op} {type:TypeId} {pos:String} {after:Array Edge} {g:Nat×Bool} :
  go cx n Q (.os all takes (⟨dst,op,type,pos,after,some g⟩::os)::k) .normal ⟨env,H,lk,df⟩ ↔
   gdQ (opQ dst (fun s=>go cx n Q (.os all takes os::k) .normal s) (go cx n Q k) (cx.op takes ⟨dst,op,type,pos,after,some g⟩ env H lk df)) (go cx n Q (.os all takes os::k) .normal ⟨putA env dst (.tup []),H,lk,df⟩) (zq all ⟨dst,op,type,pos,after,some g⟩ env):=by
 simp only [go];unfold O;simp only [Cx.ops];cases zq all ⟨dst,op,type,pos,after,some g⟩ env with
 | none=>simp [gdQ]
 | some b =>
  cases b with
  | false=>simp [gdQ,zS]
  | true =>
   simp only [gdQ];cases h:cx.op takes ⟨dst,op,type,pos,after,some g⟩ env H lk df with
   | none=>simp
   | some r =>
    obtain ⟨r,s1⟩:=r;obtain ⟨env1,H1,lk1,df1⟩:=s1;cases r<;>simp [zS,ex2]
theorem go_on_nil:go cx n Q (.on all takes []::k) .normal s ↔ go cx n Q k .normal s:=by simp [go,Cx.opsN]
theorem zpR {dst:Option Tmp} {op:Op} {type:TypeId} {pos:String} {after:Array Edge} :
  go cx n Q (.on all takes (⟨dst,op,type,pos,after,none⟩::os)::k) .normal ⟨env,H,lk,df⟩ ↔ (ldChk cx ⟨dst,op,type,pos,after,none⟩ env lk=true/\opQ dst (fun s=>go cx n Q (.on all takes os::k) .normal s) (fun _ _=>False) (cx.op takes ⟨dst,op,type,pos,after,none⟩ env H lk df)):=by
 simp only [go,Cx.opsN,zq];cases ldChk cx ⟨dst,op,type,pos,after,none⟩ env lk with
 | false=>simp
 | true =>
  cases h:cx.op takes ⟨dst,op,type,pos,after,none⟩ env H lk df with
  | none=>simp
  | some r =>
   obtain ⟨r,s1⟩:=r;obtain ⟨env1,H1,lk1,df1⟩:=s1;cases r<;>simp
theorem yh {dst:Option Tmp} {op:Op} {type:TypeId} {pos:String} {after:Array Edge} {g:Nat×Bool} :
  go cx n Q (.on all takes (⟨dst,op,type,pos,after,some g⟩::os)::k) .normal ⟨env,H,lk,df⟩ ↔
   gdQ (ldChk cx ⟨dst,op,type,pos,after,some g⟩ env lk=true/\opQ dst (fun s=>go cx n Q (.on all takes os::k) .normal s) (fun _ _=>False) (cx.op takes ⟨dst,op,type,pos,after,some g⟩ env H lk df)) (go cx n Q (.on all takes os::k) .normal ⟨putA env dst (.tup []),H,lk,df⟩) (zq all ⟨dst,op,type,pos,after,some g⟩ env):=by
 simp only [go,Cx.opsN];cases zq all ⟨dst,op,type,pos,after,some g⟩ env with
 | none=>simp [gdQ]
 | some b =>
  cases b with
  | false=>simp [gdQ]
  | true =>
   simp only [gdQ];cases ldChk cx ⟨dst,op,type,pos,after,some g⟩ env lk with
   | false=>simp
   | true =>
    cases h:cx.op takes ⟨dst,op,type,pos,after,some g⟩ env H lk df with
    | none=>simp
    | some r =>
     obtain ⟨r,s1⟩:=r;obtain ⟨env1,H1,lk1,df1⟩:=s1;cases r<;>simp
def zcU (want:Bool):Option V->Option Bool
 | some (.bool b)=>some (b == want)
 | some (.tup _)=>some false
 | _=>none
theorem zlz {dst:Option Tmp} {op:Op} {type:TypeId} {pos:String} {after:Array Edge} {j:Nat} {want:Bool} {d:Tmp} (hd:(all[j]?).bind (·.dst)=some d):zq all ⟨dst,op,type,pos,after,some (j,want)⟩ env=zcU want (nth env d):=by
 unfold zq zcU;simp only [hd];cases nth env d with
 | none=>rfl
 | some v=>cases v<;>rfl
theorem jU {c:Code} (Inv:Nat->St->Prop) (j:Nat) (hj:j<n) (h0:Inv j s) (hstep:∀ j s,Inv j s->go cx n (thn (fun s'=>∃ i,i<j/\Inv i s') (go cx n Q k)) [.c c] .normal s):go cx n Q (.c (.loop c)::k) .normal s:=by
 simp only [go];exact zqe Inv j hj h0 fun j s h=>zig (hstep j s h)
def Fx (P:Program) (rs:List ResultVar) (Post:V->Hp->Prop):Ex->St->Prop
 | .normal,⟨env,H,_,df⟩|.ret,⟨env,H,_,df⟩=>df=[]/\∃ vs,zt P H env rs=some vs/\Post (tupOf vs) H
 | _,_=>False
theorem z0 {P:Program} {gl:Gl} {f:FuncId} {fn:Func} {body:Code} {args:List V} {bs:List Blk} {es:List (Nat×Nat)} {Post:V->Hp->Prop} (hk:gl.hk f args=none) (hk2:∀ H,gl.hk2 n f args H=none) (hf:P.funcs[f]?=some fn) (hb:fn.body=some body)
  (h:go ⟨P,gl,zk P gl n,gl.uq⟩ n (Fx P fn.results.toList Post) [.c body] .normal ⟨args++List.replicate (fn.ntmps - args.length) (.tup []),⟨bs,[]⟩,[],[]⟩):∃ v H1,zk P gl (n+1) f args ⟨bs,es⟩=some (.ret v,zL bs.length es v.top H1)/\Post v H1:=by
 obtain ⟨ex,⟨env,H,lk,df⟩,h1,h2⟩:=zig h;cases ex<;>simp only [Fx] at h2
 ·obtain ⟨rfl,vs,h3,h4⟩:=h2;exact ⟨_,H,xI hk hk2 hf hb ⟨.normal,_,by rw [zBB];exact h1,⟨rfl,vs,h3,rfl,rfl⟩⟩,h4⟩
 ·obtain ⟨rfl,vs,h3,h4⟩:=h2;exact ⟨_,H,xI hk hk2 hf hb ⟨.ret,_,by rw [zBB];exact h1,⟨rfl,vs,h3,rfl,rfl⟩⟩,h4⟩
theorem get_push {x:Blk} {b:Nat}:(H.push x).get b=match H.get b with|some y=>some y|none=>if b=H.blks.length then some x else none:=by
 simp only [Hp.get,Hp.push,zd,List.getElem?_append];split
 ·rename_i h;rw [zAS h]
 ·rename_i h;have:H.blks[b]?=none:=zAk (by omega)
  rw [this]
  by_cases e:b=H.blks.length
  ·subst e;simp
  ·rw [if_neg e];simp;omega
theorem zdm {x:Blk} {b c:Nat}:(H.set b x).get c=match H.get c with|some y=>some (if c=b then x else y)|none=>none:=by
 simp only [Hp.get,Hp.set,zd,List.getElem?_set']
 by_cases e:b=c
 ·subst e;cases h:H.blks[b]?<;>simp
 ·rw [if_neg e];cases h:H.blks[c]?<;>simp [Ne.symm e]
theorem zbP {b c:Nat} {v:V}:(H.edge b v).get c=H.get c:=by
 unfold Hp.edge;split<;>rfl
theorem zqv {b:Nat} {x:Blk} (h:H.get b=some x):b<H.blks.length:=by
 simp only [Hp.get,zd] at h;exact (zAB.1 h).1
end Go.Vm
