/- Vm: a region whose order is drawn, run in the order of the text; Sets of small numbers as rows of words: plain law, no program; The lowest bit of a word: plain law; and what follows from it. Conditions: none but those that each theorem names. -/
import Derived.Lib.Bytealg
import Derived.Test.YtkbdcmehffmfpaaGreatDoorVmB
import Derived.Test.YtkbdcmehffmfpaaGreatDoorVmD
namespace Go.Vm
open Go
variable {cx:Cx} {all:Array Oper} {takes:List Tmp}
def LockR (c:Cfg) (s:St):Prop :=
 (c.H=s.H∧c.lk=s.lk∧c.df=s.defers)∨∃ b off cs ty sz xs e,c.H.get b=some (.cells cs ty)∧nth cs off=some (.sl sz xs (.yes e))∧s.H=(c.H.set b (.cells (cs.set off (.sl sz xs .lock)) ty)).edge b .nilp∧s.lk=(b,off)::c.lk∧s.defers=c.df
theorem lock_op {o:Oper} (h:tkLoad takes o=true) {env:List V} {H:Hp} {lk:List (Nat×Nat)} {df:List (V×List V)} {v:V} {D:Nat} {s1:St} (hop:cx.op takes o env H lk df=some (.val v,s1)):LockR ⟨D,H,lk,df⟩ s1:=by
 obtain ⟨dst,op,type,pos,after,guard⟩:=o
 unfold tkLoad at h
 split at h<;>try (cases h;done)
 rename_i t a hop'
 simp only at hop'
 subst hop'
 cases dst with
 | none=>cases h
 | some d =>
  simp only at h
  rw [op_load_t h] at hop
  unfold lodT at hop
  split at hop<;>try (cases hop;done)
  split at hop<;>try (cases hop;done)
  split at hop<;>try (cases hop;done)
  rename_i cs ty hb
  split at hop<;>try (cases hop;done)
  ·rename_i sz xs e hn
   cases hop
   exact .inr ⟨_,_,cs,ty,sz,xs,e,hb,hn,rfl,rfl,rfl⟩
  ·cases hop;exact .inl ⟨rfl,rfl,rfl⟩
  ·cases hop;exact .inl ⟨rfl,rfl,rfl⟩
theorem lenA_lock {P:Program} {c:Cfg} {s:St} (h:LockR c s) {t:TypeId} {p:V} {v:Int} (hl:lenA P s.H t p=some v):lenA P c.H t p=some v:=by
 rcases h with ⟨h,_⟩|⟨b,off,cs,ty,sz,xs,e,hb,hn,hs,_⟩
 ·rw [h];exact hl
 ·unfold lenA at hl ⊢
  split at hl<;>try (simp only [*];done)
  rename_i m hu
  split at hl<;>try (cases hl;done)
  rename_i es hm
  rw [hs,get_edge,get_set] at hm
  split at hm<;>try (cases hm;done)
  rename_i y hy
  split at hm
  ·cases hm
  ·cases hm
   simp only [hy]
   exact hl
theorem loadA_lock {P:Program} {gl:Nat→Nat→Option V} {c:Cfg} {s:St} (h:LockR c s) {t:TypeId} {p u:V} (hk:aggT P t=some false∨∀ b off,p=.ptr b off→s.lk.all (fun q=>!(Nat.beq q.1 b))=true) (hl:loadA P s.H gl t p=some u):∃ u',loadA P c.H gl t p=some u'∧clr u'=clr u:=by
 rcases h with ⟨h,_⟩|⟨b,off,cs,ty,sz,xs,e,hb,hn,hs,hlk,_⟩
 ·rw [h];exact ⟨u,hl,rfl⟩
 ·cases p<;>(try (exact ⟨u,hl,rfl⟩))
  ·rename_i b' off'
   simp only [loadA,hs,get_edge,get_set] at hl ⊢
   by_cases hbb:b'=b
   ·subst hbb
    rcases hk with hk|hk
    ·simp only [hb,if_true,Option.bind_eq_bind,Option.bind_some,partA,hk] at hl ⊢
     rw [nth_eq,List.getElem?_set'] at hl
     by_cases ho:off=off'
     ·subst ho
      rw [nth_eq] at hn
      simp only [if_true,hn,Option.map_some,Function.const,Option.map_eq_map] at hl
      cases hl
      exact ⟨.sl sz xs (.yes e),by simp [nth_eq,hn],rfl⟩
     ·rw [if_neg ho] at hl
      exact ⟨u,by rw [nth_eq];exact hl,rfl⟩
    ·have:=hk b' off' rfl
     rw [hlk] at this
     simp at this
   ·cases hg:c.H.get b' with
    | none=>simp [hg] at hl
    | some y=>simp only [hg,if_neg hbb] at hl;exact ⟨u,by simpa [hg] using hl,rfl⟩
  ·rename_i b' u' k
   simp only [loadA,hs,get_edge,get_set] at hl ⊢
   by_cases hbb:b'=b
   ·subst hbb
    simp [hb] at hl
   ·cases hg:c.H.get b' with
    | none=>simp [hg] at hl
    | some y=>simp only [hg,if_neg hbb] at hl;exact ⟨u,by simpa [hg] using hl,rfl⟩
theorem valC_lock {o:Oper} (hld:ldOp takes o=true) {env:List V} {v:V} {c:Cfg} {s s1:St} (hL:LockR c s) (hk:ldChk cx o env s.lk=true) (hop:cx.op takes o env s.H s.lk s.defers=some (.val v,s1)):cx.valC takes o env v c=true:=by
 obtain ⟨dst,op,type,pos,after,guard⟩:=o
 unfold ldOp at hld
 split at hld<;>try (cases hld;done)
 ·rename_i t a hop'
  simp only at hop'
  subst hop'
  cases dst with
  | none=>simp at hld
  | some d =>
   have ht:takes.any (Nat.beq d)=false:=by simpa using hld
   simp only [Cx.valC,Cx.runC,op_load ht] at hop ⊢
   cases hp:peek env a with
   | none=>simp [hp,rdQ] at hop
   | some p =>
    cases hl:loadA cx.P s.H cx.gl t p with
    | none=>simp [hp,hl,rdQ] at hop
    | some u =>
     obtain ⟨u',h1,h2⟩:=loadA_lock hL (by
      simp only [ldChk] at hk
      split at hk
      ·rename_i h;exact .inl h
      ·refine .inr fun b off e=>?_
       rw [hp,e] at hk
       exact hk) hl
     simp only [hp,hl,rdQ,Option.bind_some,Option.map_some,Option.some.injEq,Prod.mk.injEq,OR.val.injEq] at hop
     simp only [Option.bind_some,h1,Option.map_some,rdQ,h2,hop.1,V.same_refl]
 ·rename_i x0 t0 hop'
  simp only at hop'
  subst hop'
  have hh:∀ H' lk' df',cx.op takes ⟨dst,.call ⟨.builtin .len,#[x0],#[t0]⟩,type,pos,after,guard⟩ env H' lk' df'=rdQ env H' lk' df' (((peek env x0).bind (lenA cx.P H' t0)).map (.int .i64)):=fun H' lk' df'=>op_len
  rw [show (⟨[x0]⟩:Array Operand)=#[x0] from rfl,show (⟨[t0]⟩:Array TypeId)=#[t0] from rfl,hh] at hop
  simp only [Cx.valC,Cx.runC]
  rw [show (⟨[x0]⟩:Array Operand)=#[x0] from rfl,show (⟨[t0]⟩:Array TypeId)=#[t0] from rfl,hh]
  cases hp:peek env x0 with
  | none=>simp [hp,rdQ] at hop
  | some p =>
   cases hl:lenA cx.P s.H t0 p with
   | none=>simp [hp,hl,rdQ] at hop
   | some u =>
    simp only [hp,hl,rdQ,Option.bind_some,Option.map_some,Option.some.injEq,Prod.mk.injEq,OR.val.injEq] at hop
    simp only [Option.bind_some,lenA_lock hL hl,Option.map_some,rdQ,hop.1,V.same_refl]
structure SqI (cx:Cx) (takes:List Tmp) (i:Nat) (rs:List Rec) (ts:List SR) (c0:Cfg) (rest:List Cfg) (s:St):Prop where
 pr:Prs cx takes rs ts
 lt:∀ q∈rs,q.idx<i
 cD:∀ b,bit c0.D b=true ↔ ∃ q∈rs,q.hp=true∧q.idx=b
 c0:c0.H=s.H∧c0.lk=s.lk∧c0.df=s.defers
 rD:∀ c∈rest,∀ b,bit c.D b=true→∃ q∈rs,q.idx=b
 rest:∀ c∈rest,(∃ q∈rs,q.hp=true∧tkLoad takes q.o=false∧bit c.D q.idx=false)∨((∃ q∈rs,q.hp=true∧tkLoad takes q.o=true∧bit c.D q.idx=false)∧LockR c s)
 vals:∀ q∈rs,q.hp=false→q.free=false→(∃ c∈rs,c.hp=true∧bit c.m q.idx=true)∨(∀ D,cx.valC takes q.o q.env q.v ⟨D,s.H,s.lk,s.defers⟩=true)
theorem cfg_seq {rs:List Rec} {c0 c1:Cfg} {rest:List Cfg} {r:Rec} {k:List Cfg→Option (Ex×St)}
  (hsub:r.hp=true→∀ c∈rest,subM (Nat.land r.m (chgM rs)) c.D=false)
  (hval:r.hp=false→r.free=false→∀ c∈rest,subM (Nat.land r.m (chgM rs)) c.D=false∨cx.valC takes r.o r.env r.v c=true)
  (hc1:∀ b,(∃ q∈rs,q.hp=true∧q.idx=b)→bit c1.D b=true)
  (hlook:r.hp=true→∀ q∈rs,q.hp=false→q.free=false→bit r.m q.idx=true∨(∃ c∈rs,c.hp=true∧bit c.m q.idx=true)∨cx.valC takes q.o q.env q.v c1=true) :
  cx.cfgsK takes rs r c0 c1 rest k=k (bif r.hp then c1::c0::rest else c0::rest):=by
 unfold Cx.cfgsK
 cases hh:r.hp with
 | false =>
  have:(r.free || allA (fun c=>match subM (Nat.land r.m (chgM rs)) c.D with|true=>cx.valC takes r.o r.env r.v c|false=>true) rest)=true:=by
   cases hf:r.free with
   | true=>rfl
   | false =>
    simp only [Bool.false_or]
    exact allA_of fun c hc=>by
     rcases hval hh hf c hc with h|h
     ·simp only [h]
     ·split
      ·exact h
      ·rfl
  show (match r.free || allA (fun c=>match subM (Nat.land r.m (chgM rs)) c.D with|true=>cx.valC takes r.o r.env r.v c|false=>true) rest with|true=>k (c0::rest)|false=>none)=k (c0::rest)
  rw [this]
 | true =>
  simp only [cond_true]
  have hrun:∀ l:List Cfg,(∀ c∈l,subM (Nat.land r.m (chgM rs)) c.D=false)→cx.runAll takes r.o r.env r.v (Nat.land r.m (chgM rs)) (Nat.pow 2 r.idx) l=some []:=by
   intro l
   induction l with
   | nil=>intro _;rfl
   | cons c l ih=>intro h;simp only [Cx.runAll,h c (List.mem_cons_self ..)];exact ih fun c hc=>h c (List.mem_cons_of_mem _ hc)
  rw [hrun rest (hsub hh)]
  have hnew:cx.newOk takes rs (chgM rs) r (c1::c0::rest) c1=true:=by
   unfold Cx.newOk
   refine allA_of fun q hq=>?_
   split
   ·rfl
   ·cases hqh:q.hp with
    | true =>
     simp only
     rw [hc1 q.idx ⟨q,hq,hqh,rfl⟩]
    | false =>
     simp only
     cases hqf:q.free with
     | true=>rfl
     | false =>
      rcases hlook hh q hq hqh hqf with h|⟨c,hc,h1,h2⟩|h
      ·simp [h]
      ·have:forced c1.D q rs=true:=by
        have hx:∀ l:List Rec,c∈l→forced c1.D q l=true:=by
         intro l
         induction l with
         | nil=>intro h;simp at h
         | cons d l ih =>
          intro h
          simp only [forced,Bool.or_eq_true,Bool.and_eq_true]
          rcases List.mem_cons.1 h with rfl|h
          ·exact .inl ⟨⟨h1,hc1 _ ⟨c,hc,h1,rfl⟩⟩,h2⟩
          ·exact .inr (ih h)
        exact hx rs hc
       simp [this]
      ·simp [h]
  have hnew':cx.newOk takes rs (chgM rs) r ([c1]++c0::rest) c1=true:=hnew
  simp only [allA,hnew']
  rfl
theorem alloc_op {o:Oper} (h:allocOp o=true) {env:List V} {H:Hp} {lk:List (Nat×Nat)} {df:List (V×List V)} {v:V} {s1:St} (hop:cx.op takes o env H lk df=some (.val v,s1)):∃ x,s1=⟨env,H.push x,lk,df⟩:=by
 obtain ⟨dst,op,type,pos,after,guard⟩:=o
 unfold allocOp at h
 split at h<;>try (cases h;done)
 rename_i t hop'
 simp only at hop'
 subst hop'
 simp only [Cx.op] at hop
 split at hop<;>try (cases hop;done)
 split at hop<;>try (cases hop;done)
 simp only [fV_eq,pushK_eq,Option.some.injEq,Prod.mk.injEq] at hop
 exact ⟨_,hop.2.symm⟩
theorem seq_opsD {s':St}:∀ (os:List Oper) (i:Nat) (rs:List Rec) (ts:List SR) (c0:Cfg) (rest:List Cfg) (s:St),SqI cx takes i rs ts c0 rest s→seqD cx.P cx.uq all takes i ts os=true→cx.opsN all takes os s=some s'→cx.opsD all takes i rs (c0::rest) os s=some (.normal,s')
 | [],i,rs,ts,c0,rest,s,_,_,hc=>by
  simp only [Cx.opsN,Option.some.injEq] at hc
  simp only [Cx.opsD,hc]
 | o::os,i,rs,ts,c0,rest,⟨env,H,lk,df⟩,hI,hst,hc=>by
  simp only [seqD] at hst
  split at hst<;>try (cases hst;done)
  rename_i m hm
  simp only [Bool.and_eq_true] at hst
  obtain ⟨⟨htk,hsl⟩,hord,hst⟩:=hst
  have hslots:∀ (hp free:Bool) (v:V),allA (slotsOk ⟨i,o,m,tmM takes o,Nat.lor (tmM takes o) (lkM all o),hp,free,env,v⟩) rs=true:=fun hp free v =>
   all_same hI.pr (fun q t hqt hg=>by simp only [slotsS] at hg;simp only [slotsOk,hqt.idx,hqt.tm,hqt.lm];exact hg) hsl
  have key:∀ (hp free:Bool) (v:V) (H1:Hp) (lk1:List (Nat×Nat)) (df1:List (V×List V)) (env1:List V),
    (hp=true→heapOp cx.P cx.uq takes o=true)→(hp=false→free=false→looksH cx.P cx.uq o=true) →
    (hp=false→H1=H∧lk1=lk∧df1=df)→(hp=false→free=false→∀ D,cx.valC takes o env v ⟨D,H,lk,df⟩=true) →
    (hp=true→allocOp o=true→∃ x,H1=H.push x∧lk1=lk∧df1=df) →
    (hp=true→tkLoad takes o=true→∀ D,LockR ⟨D,H,lk,df⟩ ⟨env1,H1,lk1,df1⟩) →
    (hp=false→free=false→ldOp takes o=true→∀ c,LockR c ⟨env,H,lk,df⟩→cx.valC takes o env v c=true) →
    cx.opsN all takes os ⟨env1,H1,lk1,df1⟩=some s' →
    (match allA (slotsOk ⟨i,o,m,tmM takes o,Nat.lor (tmM takes o) (lkM all o),hp,free,env,v⟩) rs,c0::rest with
     | true,c0::cs=>cx.cfgsK takes rs ⟨i,o,m,tmM takes o,Nat.lor (tmM takes o) (lkM all o),hp,free,env,v⟩ c0 ⟨Nat.lor c0.D (Nat.pow 2 i),H1,lk1,df1⟩ cs fun cs =>
      cx.opsD all takes (i+1) (⟨i,o,m,tmM takes o,Nat.lor (tmM takes o) (lkM all o),hp,free,env,v⟩::rs) cs os ⟨env1,H1,lk1,df1⟩
     | _,_=>none)=some (.normal,s'):=by
   intro hp free v H1 lk1 df1 env1 h1 h2 h3 h4 h5 h5a h5b h6
   rw [hslots]
   simp only
   have hlt:∀ q∈rs,q.idx≠i:=fun q hq e=>by have:=hI.lt q hq;omega
   have hc1:∀ b,(∃ q∈rs,q.hp=true∧q.idx=b)→bit (Nat.lor c0.D (Nat.pow 2 i)) b=true:=fun b hb=>by rw [bit_or,(hI.cD b).2 hb];rfl
   have hordq:=forall2_mem hI.pr hord
   have hlook:hp=true→∀ q∈rs,q.hp=false→q.free=false→bit m q.idx=true∨(∃ c∈rs,c.hp=true∧bit c.m q.idx=true)∨∀ D,cx.valC takes q.o q.env q.v ⟨D,H1,lk1,df1⟩=true:=fun hr q hq hqh hqf=>by
    obtain ⟨t,ht,hg⟩:=hordq q hq
    simp only [ordS] at hg
    split at hg
    ·rename_i hb;exact .inl (by rw [ht.idx];exact hb)
    ·rw [h1 hr,ht.lk hqh hqf] at hg
     simp only [Bool.true_and,Bool.not_true,Bool.false_or,Bool.and_eq_true] at hg
     obtain ⟨_,hal,hld⟩:=hg
     rcases hI.vals q hq hqh hqf with h|h
     ·exact .inr (.inl h)
     ·obtain ⟨x,e1,e2,e3⟩:=h5 hr hal
      subst e1 e2 e3
      rw [ht.ld] at hld
      exact .inr (.inr fun D=>valC_push hld (h D))
   have hnotk:tkLoad takes o=true→∀ q∈rs,tkLoad takes q.o=false:=fun ht q hq=>by
    rw [ht] at htk
    simp only [Bool.not_true,Bool.false_or] at htk
    obtain ⟨t,h7,h8⟩:=forall2_mem hI.pr htk q hq
    rw [← h7.tk]
    simpa using h8
   have hafter:(hp=true∨(hp=false∧free=false))→∀ q∈rs,q.hp=true→bit m q.idx=true∨(hp=false∧tkLoad takes q.o=true∧ldOp takes o=true):=fun hr q hq hqh=>by
    obtain ⟨t,ht,hg⟩:=hordq q hq
    simp only [ordS] at hg
    split at hg
    ·rename_i hb;exact .inl (by rw [ht.idx];exact hb)
    ·rw [ht.hp hqh] at hg
     simp only [Bool.and_true,Bool.true_and,Bool.and_eq_true,Bool.not_eq_true'] at hg
     obtain ⟨⟨g1,g2⟩,_⟩:=hg
     rcases hr with hr|⟨hr,hf⟩
     ·rw [h1 hr] at g1;cases g1
     ·rw [h2 hr hf] at g2
      simp only [Bool.not_true,Bool.false_or,Bool.and_eq_true] at g2
      exact .inr ⟨hr,by rw [← ht.tk];exact g2.1,g2.2⟩
   have hmiss:∀ c:Cfg,(∃ q∈rs,q.hp=true∧bit m q.idx=true∧bit c.D q.idx=false)→subM (Nat.land m (chgM rs)) c.D=false:=fun c hc=>by
    obtain ⟨q,hq,e1,e2,e3⟩:=hc
    cases hs:subM (Nat.land m (chgM rs)) c.D with
    | false=>rfl
    | true =>
     have:=subM_spec.1 hs q.idx (by rw [bit_and,e2,bit_chgM.2 ⟨q,hq,e1,rfl⟩];rfl)
     rw [this] at e3
     cases e3
   have hci:∀ c:Cfg,(∀ b,bit c.D b=true→∃ q∈rs,q.idx=b)→bit c.D i=false:=fun c hc=>by
    cases hb:bit c.D i with
    | false=>rfl
    | true =>
     obtain ⟨q,hq,e⟩:=hc i hb
     exact absurd e (hlt q hq)
   rw [cfg_seq (r:=⟨i,o,m,tmM takes o,Nat.lor (tmM takes o) (lkM all o),hp,free,env,v⟩) ?_ ?_ hc1 ?_]
   ·have hnewI:SqI cx takes (i+1) (⟨i,o,m,tmM takes o,Nat.lor (tmM takes o) (lkM all o),hp,free,env,v⟩::rs) (⟨i,m,tmM takes o,Nat.lor (tmM takes o) (lkM all o),heapOp cx.P cx.uq takes o,looksH cx.P cx.uq o,allocOp o,ldOp takes o,tkLoad takes o⟩::ts)
      (bif hp then ⟨Nat.lor c0.D (Nat.pow 2 i),H1,lk1,df1⟩ else c0) (bif hp then c0::rest else rest) ⟨env1,H1,lk1,df1⟩:=by
     refine ⟨.cons ⟨rfl,rfl,rfl,rfl,h1,h2,rfl,rfl⟩ hI.pr,?_,?_,?_,?_,?_,?_⟩
     ·intro q hq
      rcases List.mem_cons.1 hq with rfl|hq
      ·exact Nat.lt_succ_self _
      ·have:=hI.lt q hq;omega
     ·intro b
      cases hp with
      | false =>
       simp only [cond_false]
       rw [hI.cD]
       constructor
       ·rintro ⟨q,hq,e⟩;exact ⟨q,List.mem_cons_of_mem _ hq,e⟩
       ·rintro ⟨q,hq,e1,e2⟩
        rcases List.mem_cons.1 hq with rfl|hq
        ·cases e1
        ·exact ⟨q,hq,e1,e2⟩
      | true =>
       simp only [cond_true]
       rw [bit_or,Bool.or_eq_true,hI.cD,bit_pow,decide_eq_true_eq]
       constructor
       ·rintro (⟨q,hq,e⟩|rfl)
        ·exact ⟨q,List.mem_cons_of_mem _ hq,e⟩
        ·exact ⟨_,List.mem_cons_self ..,rfl,rfl⟩
       ·rintro ⟨q,hq,e1,e2⟩
        rcases List.mem_cons.1 hq with rfl|hq
        ·exact .inr e2
        ·exact .inl ⟨q,hq,e1,e2⟩
     ·cases hp with
      | false=>obtain ⟨e1,e2,e3⟩:=h3 rfl;subst e1 e2 e3;exact hI.c0
      | true=>exact ⟨rfl,rfl,rfl⟩
     ·intro c hc' b hb
      cases hp with
      | false=>obtain ⟨q,hq,e⟩:=hI.rD c hc' b hb;exact ⟨q,List.mem_cons_of_mem _ hq,e⟩
      | true =>
       rcases List.mem_cons.1 hc' with rfl|hc'
       ·obtain ⟨q,hq,_,e⟩:=(hI.cD b).1 hb;exact ⟨q,List.mem_cons_of_mem _ hq,e⟩
       ·obtain ⟨q,hq,e⟩:=hI.rD c hc' b hb;exact ⟨q,List.mem_cons_of_mem _ hq,e⟩
     ·intro c hc'
      cases hp with
      | false =>
       obtain ⟨e1,e2,e3⟩:=h3 rfl
       subst e1 e2 e3
       rcases hI.rest c hc' with ⟨q,hq,e⟩|⟨⟨q,hq,e⟩,hL⟩
       ·exact .inl ⟨q,List.mem_cons_of_mem _ hq,e⟩
       ·exact .inr ⟨⟨q,List.mem_cons_of_mem _ hq,e⟩,hL⟩
      | true =>
       have hc0i:bit c0.D i=false:=hci c0 fun b hb=>by obtain ⟨q,hq,_,e⟩:=(hI.cD b).1 hb;exact ⟨q,hq,e⟩
       cases htl:tkLoad takes o with
       | false =>
        rcases List.mem_cons.1 hc' with rfl|hc'
        ·exact .inl ⟨_,List.mem_cons_self ..,rfl,htl,hc0i⟩
        ·exact .inl ⟨_,List.mem_cons_self ..,rfl,htl,hci c (hI.rD c hc')⟩
       | true =>
        rcases List.mem_cons.1 hc' with rfl|hc'
        ·refine .inr ⟨⟨_,List.mem_cons_self ..,rfl,htl,hc0i⟩,?_⟩
         obtain ⟨D0,H0,lk0,df0⟩:=c
         obtain ⟨e1,e2,e3⟩:=hI.c0
         simp only at e1 e2 e3
         subst e1 e2 e3
         exact h5a rfl htl D0
        ·rcases hI.rest c hc' with ⟨q,hq,e⟩|⟨⟨q,hq,e1,e2,_⟩,_⟩
         ·exact .inl ⟨q,List.mem_cons_of_mem _ hq,e⟩
         ·rw [hnotk htl q hq] at e2;cases e2
     ·intro q hq hqh hqf
      rcases List.mem_cons.1 hq with rfl|hq'
      ·obtain ⟨e1,e2,e3⟩:=h3 hqh
       subst e1 e2 e3
       exact .inr (h4 hqh hqf)
      ·clear hq
       cases hp with
       | false =>
        obtain ⟨e1,e2,e3⟩:=h3 rfl
        subst e1 e2 e3
        rcases hI.vals q hq' hqh hqf with ⟨c,hc,e⟩|h
        ·exact .inl ⟨c,List.mem_cons_of_mem _ hc,e⟩
        ·exact .inr h
       | true =>
        rcases hlook rfl q hq' hqh hqf with h|⟨c,hc,e⟩|h
        ·exact .inl ⟨_,List.mem_cons_self ..,rfl,h⟩
        ·exact .inl ⟨c,List.mem_cons_of_mem _ hc,e⟩
        ·exact .inr h
    have:=seq_opsD os _ _ _ _ _ _ hnewI hst h6
    cases hp<;>exact this
   ·intro hr c hc'
    refine hmiss c ?_
    rcases hI.rest c hc' with ⟨q,hq,e1,_,e2⟩|⟨⟨q,hq,e1,_,e2⟩,_⟩
    ·rcases hafter (.inl hr) q hq e1 with h|⟨h,_⟩
     ·exact ⟨q,hq,e1,h,e2⟩
     ·exact absurd (hr.symm.trans h) (by simp)
    ·rcases hafter (.inl hr) q hq e1 with h|⟨h,_⟩
     ·exact ⟨q,hq,e1,h,e2⟩
     ·exact absurd (hr.symm.trans h) (by simp)
   ·intro hr hf c hc'
    rcases hI.rest c hc' with ⟨q,hq,e1,e3,e2⟩|⟨⟨q,hq,e1,e3,e2⟩,hL⟩
    ·rcases hafter (.inr ⟨hr,hf⟩) q hq e1 with h|⟨_,h,_⟩
     ·exact .inl (hmiss c ⟨q,hq,e1,h,e2⟩)
     ·rw [e3] at h;cases h
    ·rcases hafter (.inr ⟨hr,hf⟩) q hq e1 with h|⟨_,_,h⟩
     ·exact .inl (hmiss c ⟨q,hq,e1,h,e2⟩)
     ·exact .inr (h5b hr hf h c hL)
   ·intro hr q hq hqh hqf
    rcases hlook hr q hq hqh hqf with h|h|h
    ·exact .inl h
    ·exact .inr (.inl h)
    ·exact .inr (.inr (h _))
  simp only [Cx.opsD,mask_same hI.pr,hm,fNat_eq,fV_eq,putK_eq]
  simp only [Cx.opsN] at hc
  split at hc<;>try (cases hc;done)
  ·rename_i hw
   simp only [hw]
   exact key false true (.tup []) H lk df _ (fun h=>by cases h) (fun _ h=>by cases h) (fun _=>⟨rfl,rfl,rfl⟩) (fun _ h=>by cases h) (fun h=>by cases h) (fun h=>by cases h) (fun _ h=>by cases h) hc
  ·rename_i hw
   simp only [hw]
   split at hc<;>try (cases hc;done)
   rename_i hck
   split at hc<;>try (cases hc;done)
   ·rename_i v env1 H1 lk1 df1 hop
    simp only [hop]
    refine key _ _ v H1 lk1 df1 _ (fun h=>h) (fun _ h=>by simpa using h) (fun hf=>?_) (fun hf _ D=>?_) (fun _ ha=>?_) (fun _ ht D=>?_) (fun _ _ hl c hL=>valC_lock hl hL hck hop) hc
    ·obtain ⟨v',_,e2,_⟩:=op_calm hf hop
     cases e2
     exact ⟨rfl,rfl,rfl⟩
    ·simp [Cx.valC,Cx.runC,hop,V.same_refl]
    ·obtain ⟨x,e⟩:=alloc_op ha hop
     cases e
     exact ⟨x,rfl,rfl,rfl⟩
    ·rcases lock_op (D:=D) ht hop with h|h
     ·exact .inl h
     ·exact .inr h
   ·rename_i env1 H1 lk1 df1 hop
    simp only [hop]
    have hhp:heapOp cx.P cx.uq takes o=true:=by
     cases hb:heapOp cx.P cx.uq takes o with
     | true=>rfl
     | false=>obtain ⟨v',e1,_⟩:=op_calm hb hop;cases e1
    rw [hhp]
    refine key true false (.tup []) H1 lk1 df1 _ (fun _=>hhp) (fun h=>by cases h) (fun h=>by cases h) (fun h=>by cases h) (fun _ ha=>?_) (fun _ ht=>?_) (fun h=>by cases h) hc
    ·obtain ⟨dst,op,type,pos,after,guard⟩:=o
     unfold allocOp at ha
     split at ha<;>try (cases ha;done)
     rename_i t hop'
     simp only at hop'
     subst hop'
     simp only [Cx.op] at hop
     split at hop<;>try (cases hop;done)
     split at hop<;>try (cases hop;done)
     simp [fV_eq,pushK_eq] at hop
    ·obtain ⟨dst,op,type,pos,after,guard⟩:=o
     unfold tkLoad at ht
     split at ht<;>try (cases ht;done)
     rename_i t a hop'
     simp only at hop'
     subst hop'
     cases dst with
     | none=>cases ht
     | some d =>
      simp only at ht
      rw [op_load_t ht] at hop
      unfold lodT at hop
      split at hop<;>try (cases hop;done)
      split at hop<;>try (cases hop;done)
      split at hop<;>try (cases hop;done)
      split at hop<;>cases hop
theorem seq_draw {ops:Array Oper} {env:List V} {H:Hp} {lk:List (Nat×Nat)} {df:List (V×List V)} {s':St} (hst:seqD cx.P cx.uq ops (takesOf ops) 0 [] ops.toList=true) (hc:cx.opsN ops (takesOf ops) ops.toList ⟨env,H,[],df⟩=some s'):cx.draw ops ⟨env,H,lk,df⟩=some (.normal,s'):=by
 unfold Cx.draw
 exact seq_opsD _ _ _ _ _ _ _ ⟨.nil,fun q hq=>by simp at hq,fun b=>by simp [bit_zero],⟨rfl,rfl,rfl⟩,fun c hc=>by simp at hc,fun c hc=>by simp at hc,fun q hq=>by simp at hq⟩ hst hc
theorem go_draw {n id:Nat} {Q:Ex→St→Prop} {k:List It} {ops:Array Oper} {env:List V} {H:Hp} {lk:List (Nat×Nat)} {df:List (V×List V)} (hst:seqD cx.P cx.uq ops (takesOf ops) 0 [] ops.toList=true)
  (h:go cx n Q (.on ops (takesOf ops) ops.toList::k) .normal ⟨env,H,[],df⟩):go cx n Q (.c (.region id ops true)::k) .normal ⟨env,H,lk,df⟩:=by
 simp only [go] at h ⊢
 obtain ⟨s',h1,h2⟩:=h
 exact ⟨.normal,s',by simp only [Cx.code];exact seq_draw hst h1,h2⟩
theorem go_draw' {n id:Nat} {Q:Ex→St→Prop} {k:List It} {ops:Array Oper} {env:List V} {H:Hp} {lk:List (Nat×Nat)} {df:List (V×List V)} {tk:List Tmp} (ht:takesOf ops=tk) (hst:seqD cx.P cx.uq ops tk 0 [] ops.toList=true)
  (h:go cx n Q (.on ops tk ops.toList::k) .normal ⟨env,H,[],df⟩):go cx n Q (.c (.region id ops true)::k) .normal ⟨env,H,lk,df⟩:=by
 subst ht;exact go_draw hst h
theorem go_reg' {n id:Nat} {Q:Ex→St→Prop} {k:List It} {ops:Array Oper} {env:List V} {H:Hp} {lk:List (Nat×Nat)} {df:List (V×List V)} {tk:List Tmp} (ht:takesOf ops=tk)
  (h:go cx n Q (.os ops tk ops.toList::k) .normal ⟨env,H,[],df⟩):go cx n Q (.c (.region id ops false)::k) .normal ⟨env,H,lk,df⟩:=by
 subst ht;exact go_region.2 h
end Go.Vm
namespace Go.Vm
open Go
def bitsN (f:Nat→Bool):Nat→Nat
 | 0=>0
 | n+1=>bitsN f n ||| (if f n=true then 2 ^ n else 0)
theorem bitsN_test {f:Nat→Bool} {j:Nat}:∀ {n:Nat},(bitsN f n).testBit j=(decide (j<n) && f j)
 | 0=>by simp [bitsN]
 | n+1=>by
  simp only [bitsN,Nat.testBit_or,bitsN_test (n:=n)]
  by_cases e:n=j
  ·subst e
   cases h:f n<;>simp []
  ·have:(if f n=true then 2 ^ n else 0).testBit j=false:=by
    cases f n<;>simp [e]
   rw [this]
   have:(j<n) ↔ (j<n+1):=by omega
   simp [this]
theorem bitsN_lt {f:Nat→Bool}:∀ {n:Nat},bitsN f n<2 ^ n
 | 0=>by simp [bitsN]
 | n+1=>by
  simp only [bitsN]
  have h1:=bitsN_lt (f:=f) (n:=n)
  have h2:2 ^ n<2 ^ (n+1):=Nat.pow_lt_pow_right (by omega) (by omega)
  refine Nat.or_lt_two_pow (by omega) ?_
  split<;>omega
theorem bitsN_eq {f:Nat→Bool} {n m:Nat} (hm:m<2 ^ n) (h:∀ j,j<n→m.testBit j=f j):m=bitsN f n:=by
 apply Nat.eq_of_testBit_eq
 intro j
 rw [bitsN_test]
 by_cases hj:j<n
 ·simp [hj,h j hj]
 ·simp only [hj,decide_false,Bool.false_and]
  exact Nat.testBit_lt_two_pow (Nat.lt_of_lt_of_le hm (Nat.pow_le_pow_right (by omega) (by omega)))
def word (p:Nat→Bool) (i:Nat):Nat:=bitsN (fun j=>p (64 * i+j)) 64
theorem word_lt {p:Nat→Bool} {i:Nat}:word p i<2 ^ 64:=bitsN_lt
theorem word_test {p:Nat→Bool} {i j:Nat} (h:j<64):(word p i).testBit j=p (64 * i+j):=by simp [word,bitsN_test,h]
def addP (p:Nat→Bool) (n:Nat):Nat→Bool:=fun k=>p k || k == n
def joinP (p q:Nat→Bool):Nat→Bool:=fun k=>p k || q k
theorem word_add {p:Nat→Bool} {n:Nat}:word p (n / 64) ||| 2 ^ (n % 64)=word (addP p n) (n / 64):=by
 refine bitsN_eq (Nat.or_lt_two_pow word_lt (Nat.pow_lt_pow_right (by omega) (Nat.mod_lt _ (by omega)))) fun j hj=>?_
 rw [Nat.testBit_or,word_test hj,Nat.testBit_two_pow]
 simp only [addP]
 congr 1
 rw [Bool.eq_iff_iff]
 simp only [decide_eq_true_eq,beq_iff_eq]
 omega
theorem word_add_ne {p:Nat→Bool} {n i:Nat} (h:i≠n / 64):word (addP p n) i=word p i:=by
 refine (bitsN_eq word_lt fun j hj=>?_).symm
 rw [word_test hj]
 simp only [addP]
 have:¬ (64 * i+j=n):=fun e=>h (by omega)
 simp [this]
def pv (m:Nat) (p:Nat→Bool):List V:=(List.range m).map fun i=>.int .u64 (word p i:Nat)
theorem pv_len {m:Nat} {p:Nat→Bool}:(pv m p).length=m:=by simp [pv]
theorem pv_get {m:Nat} {p:Nat→Bool} {i:Nat} (h:i<m):(pv m p)[i]?=some (.int .u64 (word p i:Nat)):=by simp [pv,h]
theorem pv_set {m:Nat} {p:Nat→Bool} {n:Nat}:(pv m p).set (n / 64) (.int .u64 (word (addP p n) (n / 64):Nat))=pv m (addP p n):=by
 apply List.ext_getElem?
 intro i
 rw [List.getElem?_set']
 by_cases hi:i<m
 ·rw [pv_get hi,pv_get hi]
  by_cases e:n / 64=i
  ·subst e;simp
  ·simp [e,word_add_ne (Ne.symm e)]
 ·have h1:(pv m p)[i]?=none:=by simp [pv];omega
  have h2:(pv m (addP p n))[i]?=none:=by simp [pv];omega
  rw [h1,h2];simp
theorem wrap_u64 {n:Nat} (h:n<2 ^ 64):IntKind.u64.wrap (n:Int)=n:=by
 simp only [IntKind.wrap,IntKind.bits,IntKind.signed]
 simp only [Bool.false_and,Bool.false_eq_true,if_false]
 omega
theorem wrap_i64 {n:Int} (h:-9223372036854775808≤n) (h':n<9223372036854775808):IntKind.i64.wrap n=n:=by
 simp only [IntKind.wrap,IntKind.bits,IntKind.signed]
 simp only [Bool.true_and,decide_eq_true_eq,ge_iff_le]
 have e1:(2:Int) ^ 64=18446744073709551616:=by decide
 have e2:(2:Int) ^ (64 - 1)=9223372036854775808:=by decide
 rw [e1,e2]
 split<;>omega
theorem ofInt_nat {n:Nat} (h:n<2 ^ 64):(BitVec.ofInt 64 (n:Int)).toNat=n:=by
 simp [];omega
variable {P:Program} {t:TypeId} {x y:Operand}
theorem bin_or64 {a b:Nat} (ha:a<2 ^ 64) (hb:b<2 ^ 64):binV P .or t x y (some (.int .u64 a)) (some (.int .u64 b))=some (.int .u64 ((a ||| b:Nat):Int)):=by
 have h0:((BitVec.ofInt 64 (a:Int) ||| BitVec.ofInt 64 (b:Int)).toNat)=a ||| b:=by
  rw [BitVec.toNat_or,ofInt_nat ha,ofInt_nat hb]
 have h:((BitVec.ofInt IntKind.u64.bits (a:Int) ||| BitVec.ofInt IntKind.u64.bits (b:Int)).toNat)=a ||| b:=h0
 simp only [binV,guardA,binA,intOpA,if_true]
 rw [h,wrap_u64 (Nat.or_lt_two_pow ha hb)]
theorem bin_quo64 {k:Nat} (hk:k<2 ^ 60):binV P .quo t x y (some (.int .i64 k)) (some (.int .i64 64))=some (.int .i64 ((k / 64:Nat):Int)):=by
 have h:(k:Int).tdiv 64=((k / 64:Nat):Int):=by
  rw [Int.tdiv_eq_ediv_of_nonneg (by omega)];omega
 simp only [binV,guardA,binA,intOpA,if_true]
 rw [h,wrap_i64 (by omega) (by omega)]
 rfl
theorem bin_rem64 {k:Nat}:binV P .rem t x y (some (.int .i64 k)) (some (.int .i64 64))=some (.int .i64 ((k % 64:Nat):Int)):=by
 have h:(k:Int).tmod 64=((k % 64:Nat):Int):=by
  rw [Int.tmod_eq_emod_of_nonneg (by omega)];omega
 simp only [binV,guardA,binA,intOpA,if_true]
 rw [h]
 rfl
theorem bin_shl1 {k:Nat} (hk:k<64):binV P .shl t x y (some (.int .u64 1)) (some (.int .i64 k))=some (.int .u64 ((2 ^ k:Nat):Int)):=by
 have h1:¬ ((k:Int)<0):=by omega
 have h2:min (k:Int).toNat IntKind.u64.bits=k:=by simp [IntKind.bits];omega
 have h3:(1:Int) * 2 ^ k=((2 ^ k:Nat):Int):=by simp
 simp only [binV,guardA,binA,shiftA,if_true,h1,if_false,h2]
 rw [h3,wrap_u64 (Nat.pow_lt_pow_right (by omega) hk)]
theorem storeQ_at {H:Hp} {b off n:Nat} {v:V} {env:List V} {cs:List V} {ty:TypeId} {lk:List (Nat×Nat)} {df:List (V×List V)} (hb:H.get b=some (.cells cs ty)) (h1:okC v=true) (h2:v.laid.length=n) (h3:off+n≤cs.length) (h4:mayA lk b off n (cs.drop off)=true) :
  storeQ n H lk df (some (.ptr b off)) (some (v,env))=some (.skip,⟨env,(H.set b (.cells (Vm.storeCells cs off v.laid) ty)).edge b v,lk,df⟩):=by
 simp only [storeQ,hb,h1,h2,h4]
 simp [h3]
theorem edge0 {H:Hp} {b:Nat} {v:V} (h:v.top≤b+1):H.edge b v=H:=by simp [Hp.edge,h]
theorem set_mid {pre post:List V} {m i:Nat} {xs:List V} {v:V} (h:xs.length=m) (hi:i<m):(pre++xs++post).set (pre.length+i) v=pre++xs.set i v++post:=by
 rw [List.append_assoc,List.set_append_right _ _ (by omega),Nat.add_sub_cancel_left,List.set_append_left _ _ (by omega),List.append_assoc]
theorem get_mid {pre post:List V} {m i:Nat} {xs:List V} (h:xs.length=m) (hi:i<m):(pre++xs++post)[pre.length+i]?=xs[i]?:=by
 rw [List.append_assoc,List.getElem?_append_right (by omega),Nat.add_sub_cancel_left,List.getElem?_append_left (by omega)]
theorem mayA_unl {lk:List (Nat×Nat)} {b:Nat}:∀ {n off:Nat} {l:List V},(∀ i,i<n→∃ c,l[i]?=some c∧locked c=false)→mayA lk b off n l=true
 | 0,_,_,_=>by simp [mayA]
 | n+1,off,[],h=>by obtain ⟨c,hc,_⟩:=h 0 (by omega);simp at hc
 | n+1,off,c::l,h=>by
  obtain ⟨d,hd,hl⟩:=h 0 (by omega)
  simp only [List.getElem?_cons_zero,Option.some.injEq] at hd
  subst hd
  simp only [mayA,hl,Bool.not_false,Bool.true_or,Bool.true_and]
  exact mayA_unl fun i hi=>by
   have:=h (i+1) (by omega)
   simpa using this
theorem mayA_drop {lk:List (Nat×Nat)} {b n off:Nat} {cs:List V} (h:∀ i,i<n→∃ c,cs[off+i]?=some c∧locked c=false):mayA lk b off n (cs.drop off)=true :=
 mayA_unl fun i hi=>by rw [List.getElem?_drop];exact h i hi
end Go.Vm
namespace Go.Vm
open Go
theorem low_form:∀ (w:Nat),w≠0→∃ k m,w=2 ^ (k+1) * m+2 ^ k:=by
 intro w
 induction w using Nat.strongRecOn with
 | ind w ih =>
  intro h
  rcases Nat.mod_two_eq_zero_or_one w with h2|h2
  ·obtain ⟨k,m,e⟩:=ih (w / 2) (by omega) (by omega)
   refine ⟨k+1,m,?_⟩
   have:w=2 * (w / 2):=by omega
   rw [this,e,Nat.mul_add,← Nat.mul_assoc,← Nat.pow_succ',← Nat.pow_succ']
  ·exact ⟨0,w / 2,by omega⟩
theorem two_pos (k:Nat):0<2 ^ k:=Nat.pow_pos (by decide)
theorem low_bit {k m j:Nat}:(2 ^ (k+1) * m+2 ^ k).testBit j=if j<k then false else if j=k then true else m.testBit (j - (k+1)):=by
 rw [Nat.testBit_two_pow_mul_add _ (Nat.pow_lt_pow_right (by decide) (by omega)),Nat.testBit_two_pow]
 by_cases h1:j<k
 ·rw [if_pos (by omega),if_pos h1];simp;omega
 ·by_cases h2:j=k
  ·subst h2;simp
  ·rw [if_neg (by omega),if_neg h1,if_neg h2]
theorem low_pred {k m j:Nat}:(2 ^ (k+1) * m+2 ^ k - 1).testBit j=if j<k then true else if j=k then false else m.testBit (j - (k+1)):=by
 have:=two_pos k
 have h2:2 ^ k<2 ^ (k+1):=Nat.pow_lt_pow_right (by decide) (by omega)
 rw [Nat.add_sub_assoc (by omega),Nat.testBit_two_pow_mul_add _ (by omega),Nat.testBit_two_pow_sub_one]
 by_cases h1:j<k
 ·rw [if_pos (by omega),if_pos h1];simp [h1]
 ·by_cases h2:j=k
  ·subst h2;simp
  ·rw [if_neg (by omega),if_neg h1,if_neg h2]
theorem low_lt {k m:Nat} (h:2 ^ (k+1) * m+2 ^ k<2 ^ 64):k<64:=by
 rcases Nat.lt_or_ge k 64 with h1|h1
 ·exact h1
 ·have:=Nat.pow_le_pow_right (n:=2) (by decide) h1
  omega
theorem low_and {k m:Nat} (h:2 ^ (k+1) * m+2 ^ k<2 ^ 64):(2 ^ (k+1) * m+2 ^ k) &&& (2 ^ 64 - (2 ^ (k+1) * m+2 ^ k))=2 ^ k:=by
 have hp:=two_pos k
 apply Nat.eq_of_testBit_eq
 intro j
 have e:2 ^ 64 - (2 ^ (k+1) * m+2 ^ k)=2 ^ 64 - ((2 ^ (k+1) * m+2 ^ k - 1)+1):=by omega
 rw [Nat.testBit_and,e,Nat.testBit_two_pow_sub_succ (by omega),low_pred,low_bit,Nat.testBit_two_pow]
 have:=low_lt h
 by_cases h1:j<k
 ·simp [h1];omega
 ·by_cases h2:j=k
  ·subst h2;simp [this]
  ·have h3:decide (k=j)=false:=by simp;omega
   rw [h3]
   simp only [h1,h2,if_false]
   cases m.testBit (j - (k+1))<;>simp
def bitsL (w:Nat):List Nat:=(List.range' 0 64).filter fun j=>w.testBit j
theorem filt_low {k:Nat} {p q:Nat→Bool} (hk:p k=true) (hq:∀ j,q j=(p j && !(j == k))):∀ (n s:Nat),s≤k→k<s+n→(∀ j,s≤j→j<k→p j=false)→(List.range' s n).filter p=k::(List.range' s n).filter q
 | 0,s,h1,h2,_=>by omega
 | n+1,s,h1,h2,h3=>by
  rw [List.range'_succ]
  by_cases e:s=k
  ·subst e
   have hqs:q s=false:=by rw [hq];simp
   rw [List.filter_cons_of_pos hk,List.filter_cons_of_neg (by rw [hqs];decide)]
   congr 1
   apply List.filter_congr
   intro j hj
   have:=List.mem_range'_1.1 hj
   have hne:(j == s)=false:=by simp;omega
   rw [hq,hne];simp
  ·have hs:p s=false:=h3 s (Nat.le_refl _) (by omega)
   have hqs:q s=false:=by rw [hq,hs];rfl
   rw [List.filter_cons_of_neg (by rw [hs];decide),List.filter_cons_of_neg (by rw [hqs];decide)]
   exact filt_low hk hq n (s+1) (by omega) (by omega) fun j h4 h5=>h3 j (by omega) h5
theorem bitsL_low {k m:Nat} (h:2 ^ (k+1) * m+2 ^ k<2 ^ 64):bitsL (2 ^ (k+1) * m+2 ^ k)=k::bitsL ((2 ^ (k+1) * m+2 ^ k) &&& (2 ^ (k+1) * m+2 ^ k - 1)):=by
 refine filt_low (by simp [low_bit]) (fun j=>?_) 64 0 (by omega) (by have:=low_lt h;omega) fun j _ hj=>by simp [low_bit,hj]
 rw [Nat.testBit_and,low_bit,low_pred]
 by_cases h1:j<k
 ·simp [h1]
 ·by_cases h2:j=k
  ·subst h2;simp
  ·simp [h1,h2]
theorem bitsL_zero:bitsL 0=[]:=by simp [bitsL]
def bruN:List Int:=[0,1,56,2,57,49,28,3,61,58,42,50,38,29,17,4,62,47,59,36,45,43,51,22,53,39,33,30,24,18,12,5,63,55,48,27,60,41,37,16,46,35,44,21,52,32,23,11,54,26,40,15,34,20,31,10,25,14,19,9,13,8,7,6]
def bruT:List V:=bruN.map (V.int .u8)
theorem bru_at:∀ k:Nat,k<64→nth bruT ((2 ^ k * 285870213051353865) % 2 ^ 64 / 2 ^ 58)=some (.int .u8 (k:Int)):=by
 have h:(List.range 64).all (fun k:Nat=>match nth bruT ((2 ^ k * 285870213051353865) % 2 ^ 64 / 2 ^ 58) with|some (.int .u8 n)=>n == (k:Int)|_=>false)=true:=by decide +kernel
 intro k hk
 have:=List.all_eq_true.1 h k (List.mem_range.2 hk)
 split at this<;>try (cases this;done)
 rename_i n e
 rw [e]
 have:n=(k:Int):=by simpa using this
 rw [this]
variable {P:Program} {t:TypeId} {x y:Operand}
theorem un_neg64 {w:Nat} (h0:w≠0) (h:w<2 ^ 64):unA .neg (.int .u64 (w:Int))=some (.int .u64 ((2 ^ 64 - w:Nat):Int)):=by
 simp only [unA]
 congr 2
 simp only [IntKind.wrap,IntKind.bits,IntKind.signed,Bool.false_and,Bool.false_eq_true,if_false]
 omega
theorem bin_and64 {a b:Nat} (ha:a<2 ^ 64) (hb:b<2 ^ 64):binV P .and t x y (some (.int .u64 a)) (some (.int .u64 b))=some (.int .u64 ((a &&& b:Nat):Int)):=by
 have h0:((BitVec.ofInt 64 (a:Int) &&& BitVec.ofInt 64 (b:Int)).toNat)=a &&& b:=by
  rw [BitVec.toNat_and,ofInt_nat ha,ofInt_nat hb]
 have h:((BitVec.ofInt IntKind.u64.bits (a:Int) &&& BitVec.ofInt IntKind.u64.bits (b:Int)).toNat)=a &&& b:=h0
 simp only [binV,guardA,binA,intOpA,if_true]
 rw [h,wrap_u64 (Nat.lt_of_le_of_lt Nat.and_le_left ha)]
theorem bin_mul64 {a b:Nat}:binV P .mul t x y (some (.int .u64 a)) (some (.int .u64 b))=some (.int .u64 ((a * b % 2 ^ 64:Nat):Int)):=by
 have h:IntKind.u64.wrap ((a:Int) * b)=((a * b % 2 ^ 64:Nat):Int):=by
  simp only [IntKind.wrap,IntKind.bits,IntKind.signed,Bool.false_and,Bool.false_eq_true,if_false]
  rw [← Int.natCast_mul]
  omega
 simp only [binV,guardA,binA,intOpA,if_true,h]
theorem bin_shr58 {a:Nat}:binV P .shr t x y (some (.int .u64 a)) (some (.int .u64 58))=some (.int .u64 ((a / 2 ^ 58:Nat):Int)):=by
 have h2:min (58:Int).toNat IntKind.u64.bits=58:=by decide
 have h3:(a:Int).fdiv (2 ^ 58)=((a / 2 ^ 58:Nat):Int):=by
  rw [Int.fdiv_eq_ediv_of_nonneg _ (show (0:Int)≤2 ^ 58 by decide)]
  omega
 simp only [binV,guardA,binA,shiftA,if_true,show ¬ ((58:Int)<0) by decide,if_false,h2,h3]
theorem bin_dec64 {w:Nat} (h0:w≠0) (h:w<2 ^ 64):binV P .sub t x y (some (.int .u64 w)) (some (.int .u64 1))=some (.int .u64 ((w - 1:Nat):Int)):=by
 rw [bin_sub]
 congr 2
 simp only [IntKind.wrap,IntKind.bits,IntKind.signed,Bool.false_and,Bool.false_eq_true,if_false]
 omega
theorem bru_all {k:Nat} (hk:k<64):∃ x ix:Nat,(∀ (t:TypeId) (u v:Operand),binV P .mul t u v (some (.int .u64 ((2 ^ k:Nat):Int))) (some (.int .u64 285870213051353865))=some (.int .u64 (x:Int)))∧(∀ (t:TypeId) (u v:Operand),binV P .shr t u v (some (.int .u64 (x:Int))) (some (.int .u64 58))=some (.int .u64 (ix:Int)))∧ix<64∧nth bruT ix=some (.int .u8 (k:Int)):=by
 refine ⟨2 ^ k * 285870213051353865 % 2 ^ 64,2 ^ k * 285870213051353865 % 2 ^ 64 / 2 ^ 58,fun t u v=>bin_mul64,fun t u v=>bin_shr58,?_,bru_at k hk⟩
 have:2 ^ k * 285870213051353865 % 2 ^ 64<2 ^ 64:=Nat.mod_lt _ (by decide)
 omega
theorem low_all {k m:Nat} (h:2 ^ (k+1) * m+2 ^ k<2 ^ 64):∃ w w':Nat,w=2 ^ (k+1) * m+2 ^ k∧w≠0∧unA .neg (.int .u64 (w:Int))=some (.int .u64 (w':Int))∧(∀ (t:TypeId) (u v:Operand),binV P .and t u v (some (.int .u64 (w:Int))) (some (.int .u64 (w':Int)))=some (.int .u64 ((2 ^ k:Nat):Int))):=by
 have hp:=two_pos k
 refine ⟨_,2 ^ 64 - (2 ^ (k+1) * m+2 ^ k),rfl,by omega,un_neg64 (by omega) h,fun t u v=>?_⟩
 rw [bin_and64 h (by omega),low_and h]
def wordL (p:Nat→Bool) (i:Nat):List V:=(bitsL (word p i)).map fun j=>.int .i64 ((64 * i+j:Nat):Int)
def preL (p:Nat→Bool):Nat→List V
 | 0=>[]
 | i+1=>preL p i++wordL p i
theorem bitsL_len {w:Nat}:(bitsL w).length≤64:=by
 have:=List.length_filter_le (fun j=>w.testBit j) (List.range' 0 64)
 simpa [bitsL] using this
theorem preL_len {p:Nat→Bool}:∀ i,(preL p i).length≤64 * i
 | 0=>by simp [preL]
 | i+1=>by
  have:=preL_len (p:=p) i
  have:=bitsL_len (w:=word p i)
  simp only [preL,wordL,List.length_append,List.length_map]
  omega
def preN (p:Nat→Bool):Nat→List Nat
 | 0=>[]
 | i+1=>preN p i++(bitsL (word p i)).map fun j=>64 * i+j
theorem preL_eq {p:Nat→Bool}:∀ i,preL p i=(preN p i).map fun k=>V.int .i64 ((k:Nat):Int)
 | 0=>rfl
 | i+1=>by simp only [preL,preN,wordL,preL_eq i,List.map_append,List.map_map];rfl
theorem preN_eq {p:Nat→Bool}:∀ i,preN p i=(List.range (64 * i)).filter p
 | 0=>rfl
 | i+1=>by
  have h1:bitsL (word p i)=(List.range 64).filter fun j=>p (64 * i+j):=by
   rw [bitsL,List.range_eq_range']
   apply List.filter_congr
   intro j hj
   have:=List.mem_range'_1.1 hj
   exact word_test (by omega)
  rw [preN,preN_eq i,h1,Nat.mul_add,Nat.mul_one,List.range_add,List.filter_append,List.filter_map]
  rfl
theorem mem_preN {p:Nat→Bool} {i k:Nat}:k∈preN p i ↔ k<64 * i∧p k=true:=by
 rw [preN_eq,List.mem_filter,List.mem_range]
def fol (q:Nat→Bool):List Nat→List (Nat→Bool)→List (Nat→Bool)
 | [],ns=>ns
 | k::ks,ns=>fol q ks (ns.set k (joinP (ns.getD k fun _=>false) q))
theorem fol_len {q:Nat→Bool}:∀ {ks:List Nat} {ns:List (Nat→Bool)},(fol q ks ns).length=ns.length
 | [],_=>rfl
 | k::ks,ns=>by rw [fol,fol_len,List.length_set]
theorem flat_row {ns:List (Nat→Bool)} {k:Nat} (hk:k<ns.length):∃ pre post,pre.length=k * 19∧(ns.map (pv 19)).flatten=pre++pv 19 (ns.getD k fun _=>false)++post∧∀ r,((ns.set k r).map (pv 19)).flatten=pre++pv 19 r++post:=by
 induction ns generalizing k with
 | nil=>simp at hk
 | cons p ns ih =>
  cases k with
  | zero=>exact ⟨[],(ns.map (pv 19)).flatten,rfl,by simp,fun r=>by simp⟩
  | succ k =>
   obtain ⟨pre,post,h1,h2,h3⟩:=ih (k:=k) (by simpa using hk)
   refine ⟨pv 19 p++pre,post,?_,?_,fun r=>?_⟩
   ·rw [List.length_append,pv_len,h1,Nat.succ_mul,Nat.add_comm]
   ·simp only [List.map_cons,List.flatten_cons,h2,List.append_assoc,List.getD_cons_succ]
   ·simp only [List.set_cons_succ,List.map_cons,List.flatten_cons,h3,List.append_assoc]
end Go.Vm
namespace Go.Vm
open Go
def tabA (g:Nat):List (Nat×List V)→Option (List V)
 | []=>none
 | (k,vs)::r=>match Nat.beq g k with
  | true=>some vs
  | false=>tabA g r
def glT (U:TypeId) (ks:List Nat) (T:List (Nat×List V)):Nat→Nat→Option V:=fun g o=>match tabA g T with
 | some vs=>nth vs o
 | none=>glOf U ks g o
def TabAt (W:World) (x:Nat×List V):Prop:=∀ (o:Nat) (v:V),x.2[o]?=some v→v.top=0∧∃ cv,W.cell? ⟨x.1,o,none⟩=some cv∧∀ g,RelV g v cv
theorem tabA_mem {g:Nat} {vs:List V}:∀ {T:List (Nat×List V)},tabA g T=some vs→(g,vs)∈T
 | [],h=>by simp [tabA] at h
 | (k,us)::r,h=>by
  simp only [tabA] at h
  split at h
  ·rename_i hb
   simp only [Option.some.injEq] at h
   rw [Nat.eq_of_beq_eq_true hb,h]
   exact List.mem_cons_self ..
  ·exact List.mem_cons_of_mem _ (tabA_mem h)
theorem tab_no_obj {W:World} {x:Nat×List V} (h:TabAt W x) {o:Nat} {U:TypeId} {j:Nat}:x.2[o]?≠some (.ifc U (.obj j)):=by
 intro hv
 obtain ⟨_,cv,_,h3⟩:=h o _ hv
 have k1:∀ a,cv=.iface U (.pointer (some a)):=fun a=>by
  have:=h3 { ghOf W with obj:=⟨fun _=>a,fun _=>True⟩ }
  cases this with
  | ifc h2 =>
   cases h2 with
   | obj k=>rfl
 have:=(k1 ⟨0,0,none⟩).symm.trans (k1 ⟨1,0,none⟩)
 simp at this
theorem glT_ok {P:Program} {U:TypeId} {ks:List Nat} {T:List (Nat×List V)} {W:World} (h:Sents U W ks) (hT:∀ x∈T,TabAt W x):GlOk P (glT U ks T) (ghOf W):=by
 have hob:∀ k u j,glT U ks T k 0=some (.ifc u (.obj j))→glOf U ks k 0=some (.ifc u (.obj j)):=fun k u j hv=>by
  unfold glT at hv
  split at hv
  ·rename_i vs hvs
   rw [nth_eq] at hv
   exact absurd hv (tab_no_obj (hT _ (tabA_mem hvs)))
  ·exact hv
 have h0:=glOf_ok (P:=P) h
 refine ⟨?_,fun k u j hv=>⟨(h0.2 k u j (hob k u j hv)).1,fun k' u' j' hv' e=>(h0.2 k u j (hob k u j hv)).2 k' u' j' (hob k' u' j' hv') e⟩⟩
 intro k off v hv
 unfold glT at hv
 split at hv
 ·rename_i vs hvs
  rw [nth_eq] at hv
  obtain ⟨h1,cv,h2,h3⟩:=hT _ (tabA_mem hvs) off v hv
  exact ⟨cv,h2,h3 _,h1⟩
 ·exact h0.1 k off v hv
theorem mapM_get {α β:Type} {f:α→Option β}:∀ {l:List α} {xs:List β},l.mapM f=some xs→xs.length=l.length∧∀ (i:Nat) (a:α) (x:β),l[i]?=some a→xs[i]?=some x→f a=some x
 | [],xs,h=>by
  simp only [List.mapM_nil,Option.pure_def,Option.some.injEq] at h
  subst h
  exact ⟨rfl,fun i a x h=>by simp at h⟩
 | a::l,xs,h=>by
  simp only [List.mapM_cons,Option.pure_def,Option.bind_eq_bind,Option.bind_eq_some_iff,Option.some.injEq] at h
  obtain ⟨y,hy,ys,hys,rfl⟩:=h
  obtain ⟨h1,h2⟩:=mapM_get hys
  refine ⟨by simp [h1],fun i b x hb hx=>?_⟩
  cases i with
  | zero=>simp at hb hx;subst hb;subst hx;exact hy
  | succ i=>exact h2 i b x (by simpa using hb) (by simpa using hx)
theorem tab_of_laid {P:Program} {W:World} {l:List (String×DataW Unit)} (h:laidMet P l W) {nm:String} {ns:List Int} {k:IntKind} (hx:(nm,DataW.agg (ns.map fun m=>.lit (.int k m)))∈l) {g t n e:Nat} (hg:P.globalNamed nm=some g) (hgt:(P.globals[g]?).map (·.type)=some t)
  (ht:P.underlying t=some (.array n e)) (he:P.underlying e=some (.int k)) (hc:P.cellsOf e=1) (hn:P.cellsOf t=n):TabAt W (g,ns.map (V.int k)):=by
 obtain ⟨ps,hv,_,hok⟩:=h
 obtain ⟨g',t',cs,fuel,p,h1,h2,h3,h4,hrow,_⟩:=laid_one hv _ hx
 rw [hg] at h1;cases h1
 rw [hgt] at h2;cases h2
 cases fuel with
 | zero=>simp [DataW.trod] at h4
 | succ fuel =>
  have hlc:∀ i,i<cs.size→W.cell? ⟨g,i,none⟩=cs[i]?:=fun i hi=>by
   have:=World.var?_cell hg h3 i
   simpa using this
  obtain ⟨l0⟩:=cs
  simp only [DataW.trod,ht] at h4
  split at h4<;>try (cases h4;done)
  rename_i hl
  simp only [Option.map_eq_some_iff,Prod.mk.injEq,DataW.agg.injEq] at h4
  obtain ⟨xs,hxs,e1,_⟩:=h4
  obtain ⟨m1,m2⟩:=mapM_get hxs
  have hnl:ns.length=n:=by
   have:=congrArg List.length e1
   simp only [List.length_map,m1,List.length_range] at this
   exact this.symm
  intro o v hov
  simp only [List.getElem?_map,Option.map_eq_some_iff] at hov
  obtain ⟨m,hm,rfl⟩:=hov
  have ho:o<n:=by rw [← hnl];exact (List.getElem?_eq_some_iff.1 hm).1
  have hox:o<xs.length:=by rw [m1];simpa using ho
  have hxo:xs[o]?=some xs[o]:=List.getElem?_eq_getElem hox
  have hr:=m2 o o xs[o] (by simp [ho]) hxo
  have hd:xs[o].1=.lit (.int k m):=by
   have:=congrArg (fun l=>l[o]?) e1
   simp only [List.getElem?_map,hxo,hm,Option.map_some,Option.some.injEq] at this
   exact this
  refine ⟨rfl,?_⟩
  have hol:o<l0.length:=by rw [hl,hn];exact ho
  have hlo:l0[o]?=some l0[o]:=List.getElem?_eq_getElem hol
  have htk:(l0.drop (o * P.cellsOf e)).take (P.cellsOf e)=[l0[o]]:=by
   rw [hc,Nat.mul_one,List.drop_eq_getElem_cons hol]
   rfl
  rw [htk] at hr
  cases fuel with
  | zero=>simp [DataW.trod] at hr
  | succ fuel =>
   generalize hc0:l0[o]=c at hr hlo
   refine ⟨c,?_,fun g=>?_⟩
   ·rw [hlc o (by simpa using hol)];simpa using hlo
   ·generalize xs[o]=y at hr hd
    obtain ⟨y1,y2⟩:=y
    simp only at hd
    subst hd
    simp only [DataW.trod,he] at hr
    cases c<;>simp at hr
    obtain ⟨⟨rfl,_⟩,rfl,_⟩:=hr
    exact .int _ _
end Go.Vm
namespace Go.Vm.Sx
open Go Go.Vm
theorem at_z (v:V) (ρ:List V):at' (v::ρ) 0=v:=rfl
theorem at_s (v:V) (ρ:List V) (n:Nat):at' (v::ρ) (n+1)=at' ρ n:=rfl
theorem iterT_up {α:Type} {step:α→Option (Nat×α)} {st:Nat→α} {m j:Nat} {r:α} (hs:∀ i,i<m→step (st i)=some (0,st (i+1))) (he:step (st m)=some (j+1,r)):∀ {N:Nat},m<N→iterT step N (st 0)=some (j,r):=by
 have key:∀ k i N,i+k=m→k<N→iterT step N (st i)=some (j,r):=by
  intro k
  induction k with
  | zero =>
   intro i N hi hN
   obtain rfl:i=m:=by omega
   cases N with
   | zero=>omega
   | succ N=>simp only [iterT,he]
  | succ k ih =>
   intro i N hi hN
   cases N with
   | zero=>omega
   | succ N =>
    simp only [iterT,hs i (by omega)]
    exact ih (i+1) N (by omega) (by omega)
 intro N hN
 exact key m 0 N (by omega) hN
theorem cons_app (v:V) (a b:List V):(v::a)++b=v::(a++b):=rfl
theorem nil_app (b:List V):([]:List V)++b=b:=rfl
theorem bif_t {α:Type} (a b:α):(bif true then a else b)=a:=rfl
theorem bif_f {α:Type} (a b:α):(bif false then a else b)=b:=rfl
def ltz (x y:Int):Bool:=decide (x<y)
def lez (x y:Int):Bool:=decide (x≤y)
theorem cm_lss (x y:Int):cmI .lss x y=ltz x y:=rfl
theorem cm_leq (x y:Int):cmI .leq x y=lez x y:=rfl
theorem cm_gtr (x y:Int):cmI .gtr x y=ltz y x:=rfl
theorem cm_eql (x y:Int):cmI .eql x y=(x == y):=rfl
theorem ltz_t {x y:Int} (h:x<y):ltz x y=true:=decide_eq_true h
theorem ltz_f {x y:Int} (h:y≤x):ltz x y=false:=decide_eq_false (by omega)
theorem lez_t {x y:Int} (h:x≤y):lez x y=true:=decide_eq_true h
theorem ltz_i {x y:Int}:ltz x y=true ↔ x<y:=decide_eq_true_iff
theorem lez_i {x y:Int}:lez x y=true ↔ x≤y:=decide_eq_true_iff
theorem ltn_t {i n:Nat} (h:i<n):ltz (i:Int) (n:Int)=true:=ltz_t (by omega)
theorem ltn_f {i n:Nat} (h:n≤i):ltz (i:Int) (n:Int)=false:=ltz_f (by omega)
theorem ltn_0 {i:Nat}:ltz (i:Int) 0=false:=ltz_f (by omega)
theorem kInt (k:IntKind) (n:Int):kOk (.int k) (.int k n)=true:=by simp [kOk]
theorem kStr (s:List Nat):kOk .str (.str s)=true:=by simp [kOk]
theorem kBool (b:Bool):kOk .bool (.bool b)=true:=by simp [kOk]
theorem ks_nil:ksOk [] []=true:=by simp [ksOk]
theorem ks_cons (k:CK) (ks:List CK) (v:V) (vs:List V):ksOk (k::ks) (v::vs)=(kOk k v && ksOk ks vs):=rfl
theorem vI_int (k:IntKind) (n:Int):vI (.int k n)=n:=by simp [vI]
theorem vB_bool (b:Bool):vB (.bool b)=b:=by simp [vB]
theorem vS_str (s:List Nat):vS (.str s)=s:=by simp [vS]
section
variable {pc:FuncId→List AV→List (List V×TypeId)→Option (V×List (List V))} {gl:Nat→Nat→Option V} {N:Nat} {ρ:List V} {t a b body:Tree} {c:TB} {i:Nat} {ks:List CK}
def loopT (pc:FuncId→List AV→List (List V×TypeId)→Option (V×List (List V))) (gl:Nat→Nat→Option V) (N:Nat) (body:Tree) (ρ ini:List V):Option (Nat×List V):=iterT (fun vs=>evT pc gl N body (ρ++vs)) N ini
theorem ev_loop (ini:List C):evT pc gl N (.loop ini body) ρ=loopT pc gl N body ρ (evCs ρ [] ini):=rfl
theorem loopT_up {st:Nat→List V} {m j:Nat} {r:List V} (hs:∀ i,i<m→evT pc gl N body (ρ++st i)=some (0,st (i+1))) (he:evT pc gl N body (ρ++st m)=some (j+1,r)) (hN:m<N):loopT pc gl N body ρ (st 0)=some (j,r):=iterT_up hs he hN
def loopI (pc:FuncId→List AV→List (List V×TypeId)→Option (V×List (List V))) (gl:Nat→Nat→Option V) (N:Nat) (body:Tree) (ρ:List V) (k:Nat) (ini:List V):Option (Nat×List V):=iterT (fun vs=>evT pc gl N body (ρ++vs)) k ini
theorem loopT_I {ini:List V} {x:Option (Nat×List V)} (h:loopI pc gl N body ρ N ini=x):loopT pc gl N body ρ ini=x:=h
theorem loopI_go {ini vs:List V} {k:Nat} {x:Option (Nat×List V)} (h:evT pc gl N body (ρ++ini)=some (0,vs)) (hx:loopI pc gl N body ρ k vs=x):loopI pc gl N body ρ (k+1) ini=x:=by
 subst hx;simp only [loopI,iterT,h]
theorem loopI_end {ini vs:List V} {k j:Nat} (h:evT pc gl N body (ρ++ini)=some (j+1,vs)):loopI pc gl N body ρ (k+1) ini=some (j,vs):=by
 simp only [loopI,iterT,h]
theorem ev_t (h:evB ρ c=true):evT pc gl N (.ite c a b) ρ=evT pc gl N a ρ:=by simp [evT,h]
theorem ev_f (h:evB ρ c=false):evT pc gl N (.ite c a b) ρ=evT pc gl N b ρ:=by simp [evT,h]
theorem ev_need (h:evB ρ c=true):evT pc gl N (.need c t) ρ=evT pc gl N t ρ:=by simp [evT,h]
theorem ev_out (vs:List C):evT pc gl N (.out vs) ρ=some (0,evCs ρ [] vs):=rfl
theorem ev_esc:evT pc gl N (.esc t) ρ=match evT pc gl N t ρ with|some (j,vs)=>some (j+1,vs)|none=>none:=rfl
theorem ev_letv (e:VE):evT pc gl N (.letv e t) ρ=evT pc gl N t (ρ++[evVE ρ e]):=rfl
theorem ev_elem (l:TL) (i:TI):evT pc gl N (.elem l i t) ρ=bif ltz (evI ρ i) 0 then none else match nth (evL ρ l) (evI ρ i).toNat with|some v=>evT pc gl N t (ρ++[v])|none=>none:=by
 rw [evT,cond_eq_ite]
 by_cases h:evI ρ i<0
 ·simp [ltz,h]
 ·simp only [ltz,h,if_false,decide_false,Bool.false_eq_true];rfl
theorem ev_opn:evT pc gl N (.opn i ks t) ρ=match at' ρ i with|.agg cs=>(bif ksOk ks cs then evT pc gl N t (ρ++cs) else none)|_=>none:=rfl
theorem ev_unt:evT pc gl N (.unt i ks t) ρ=match at' ρ i with|.tup cs=>(bif ksOk ks cs then evT pc gl N t (ρ++cs) else none)|_=>none:=rfl
theorem ev_kin {k:CK} (h:kOk k (at' ρ i)=true):evT pc gl N (.kin i k t) ρ=evT pc gl N t ρ:=by simp [evT,h]
theorem ev_call (f:FuncId) (args:List AS) (lent:List (List C×TypeId)):evT pc gl N (.call f args lent ks t) ρ=match pc f (evAs ρ args) (evLent ρ lent) with|some (v,out)=>(bif sizesOk lent out && ksOk ks (joinL out) then evT pc gl N t (ρ++(v::joinL out)) else none)|none=>none:=rfl
end
theorem drop_cons {α:Type} {l r:List α} {i:Nat} {a:α} (h:l.drop i=a::r):l[i]?=some a∧i<l.length∧l.drop (i+1)=r:=by
 have h1:i<l.length:=by
  rcases Nat.lt_or_ge i l.length with h1|h1
  ·exact h1
  ·rw [List.drop_eq_nil_of_le h1] at h;cases h
 rw [List.drop_eq_getElem_cons h1] at h
 cases h
 exact ⟨by simp [h1],h1,rfl⟩
theorem drop_none {α:Type} {l:List α} {i:Nat} (h:l.drop i=[]):l.length≤i:=by simpa using h
theorem app_nil (a:List V):a++([]:List V)=a:=List.append_nil a
end Go.Vm.Sx
namespace Go.Vm
open Go
def UL (H:Hp) (sz:Nat) (e:TypeId) (c:V) (i:Option Nat) (xs:List (List V)):Prop :=
 match i with
 | none=>c=.snil∧xs=[]
 | some j=>∃ v,c=.ulr j v xs.length∧H.get j=some (.ul v sz xs.flatten e)
structure Frm (H H':Hp) (S:Nat→Prop):Prop where
 len:H.blks.length≤H'.blks.length
 get:∀ d,d<H.blks.length→¬ S d→H'.get d=H.get d
theorem Frm.refl {H:Hp} {S:Nat→Prop}:Frm H H S:=⟨Nat.le_refl _,fun _ _ _=>rfl⟩
theorem Frm.trans {A B C:Hp} {S T:Nat→Prop} (h:Frm A B S) (k:Frm B C T):Frm A C (fun d=>S d∨T d) :=
 ⟨Nat.le_trans h.len k.len,fun d hd hn=>(k.get d (Nat.lt_of_lt_of_le hd h.len) fun e=>hn (.inr e)).trans (h.get d hd fun e=>hn (.inl e))⟩
theorem Frm.mono {A B:Hp} {S T:Nat→Prop} (h:Frm A B S) (hs:∀ d,d<A.blks.length→S d→T d):Frm A B T:=⟨h.len,fun d hd hn=>h.get d hd fun e=>hn (hs d hd e)⟩
theorem Frm.some {A B:Hp} {S:Nat→Prop} (h:Frm A B S) {d:Nat} {x:Blk} (hx:A.get d=some x) (hn:¬ S d):B.get d=some x:=(h.get d (get_lt hx) hn).trans hx
theorem UL.frame {A B:Hp} {sz:Nat} {e:TypeId} {c:V} {i:Option Nat} {xs:List (List V)} (h:UL A sz e c i xs) (hg:∀ j,i=some j→B.get j=A.get j):UL B sz e c i xs:=by
 cases i with
 | none=>exact h
 | some j=>obtain ⟨v,h1,h2⟩:=h;exact ⟨v,h1,(hg j rfl).trans h2⟩
theorem UL.lt {H:Hp} {sz:Nat} {e:TypeId} {c:V} {j:Nat} {xs:List (List V)} (h:UL H sz e c (some j) xs):j<H.blks.length:=by
 obtain ⟨v,_,h2⟩:=h;exact get_lt h2
theorem finishH_get {n0 t:Nat} {es:List (Nat×Nat)} {H:Hp} {d:Nat} (hd:d<n0):(finishH n0 es t H).get d=H.get d:=by
 unfold finishH
 obtain ⟨bs,new⟩:=H
 simp only
 split
 ·simp only [Hp.get,nth_eq,List.getElem?_take,hd,if_true]
 ·rfl
theorem finishH_len {n0 t:Nat} {es:List (Nat×Nat)} {H:Hp} (h:n0≤H.blks.length):n0≤(finishH n0 es t H).blks.length:=by
 unfold finishH
 obtain ⟨bs,new⟩:=H
 simp only
 split
 ·simp only [List.length_take];simp only at h;omega
 ·exact h
theorem finishH_keep {n0 t b m:Nat} {es:List (Nat×Nat)} {H:Hp} (h:(b,m)∈H.edges) (hb:b<n0) (hm:n0<m):∀ d,(finishH n0 es t H).get d=H.get d:=by
 unfold finishH
 obtain ⟨bs,new⟩:=H
 intro d
 have hc:¬ ((Nat.ble t n0 && new.all fun e=>Nat.ble n0 e.1 || Nat.ble e.2 n0)=true):=by
  intro hx
  simp only [Bool.and_eq_true,List.all_eq_true] at hx
  have:=hx.2 _ h
  simp only [Bool.or_eq_true] at this
  rcases this with h1|h1<;>have:=Nat.le_of_ble_eq_true h1<;>omega
 simp only [hc]
 rfl
theorem roomA_of {n b:Nat} (h:n * b≤140737488355328) (h':n≤140737488355328):roomA n b=true:=by
 simp [roomA,Nat.ble_eq,h,h']
def unlZ (z:V):Bool:=okC z && z.cells.all fun c=>!(locked c)
theorem zero_of {P:Program} {e n:Nat} (h:(zeroA P e).map (fun z=>(z.cells.length,unlZ z))=some (n,true)) (hn:n≠0∧n≤16777216):∃ z,zeroA P e=some z∧(n≠0∧n≤16777216∧z.cells.length=n∧okC z=true)∧z.cells.all (fun c=>!(locked c))=true:=by
 cases hz:zeroA P e with
 | none=>rw [hz] at h;cases h
 | some z =>
  rw [hz] at h
  simp only [Option.map_some,Option.some.injEq,Prod.mk.injEq,unlZ,Bool.and_eq_true] at h
  exact ⟨z,rfl,⟨hn.1,hn.2,h.1,h.2.1⟩,h.2.2⟩
theorem mayA_all {lk:List (Nat×Nat)} {b n off:Nat} {cs:List V} (h:cs.all (fun c=>!(locked c))=true) (hl:off+n≤cs.length):mayA lk b off n (cs.drop off)=true :=
 mayA_drop fun i hi=>⟨cs[off+i]'(by omega),List.getElem?_eq_getElem (by omega),by
  have:=List.all_eq_true.1 h _ (List.getElem_mem (show off+i<cs.length by omega))
  simpa using this⟩
structure RowT (P:Program) (t e n bytes:Nat):Prop where
 u:P.underlying t=some (.slice e)
 s:szOf P e=some n
 z:(zeroA P e).map (fun z=>(z.cells.length,unlZ z))=some (n,true)
 n0:n≠0∧n≤16777216
 i:((P.info? e).bind fun i=>i.zero.map fun z=>(z.cells.size,i.bytes))=some (n,bytes)
 a:aggT P t=some false
 st:szOf P t=some 1
theorem RowT.bsl {P:Program} {t e n by':Nat} (h:RowT P t e n by') {v:V} (h5:okC v=true) (h6:v.cells.length=n):bsl1 P t (some v)=some (.sl n [v] (.yes e)):=by
 obtain ⟨z,h1,h2,_⟩:=zero_of h.z h.n0
 exact bsl1_at h.u h.s h1 h2 h5 h6
theorem RowT.app {P:Program} {t e n by':Nat} (h:RowT P t e n by') {env:List V} {H:Hp} {lk:List (Nat×Nat)} {df:List (V×List V)} {ys:List V} {o:Own} {c:V} {i:Option Nat} {xs:List (List V)} (hy:ys≠[]) (hu:UL H n e c i xs) (hroom:roomA (xs.length+ys.length) by'=true) :
  appU P t env H lk df (some (.sl n ys o)) (some c)=match i with
   | none=>some (.val (.ulr H.blks.length 0 ys.length),⟨env,H.push (.ul 0 n (flatV ys) e),lk,df⟩)
   | some j=>match c with
    | .ulr _ v _=>some (.val (.ulr j (v+1) (xs.length+ys.length)),⟨env,(H.set j (.ul (v+1) n (xs.flatten++flatV ys) e)).edge j (.tup ys),lk,df⟩)
    | _=>none:=by
 have hi:=h.i
 cases hi1:P.info? e with
 | none=>rw [hi1] at hi;cases hi
 | some ti =>
  rw [hi1] at hi
  simp only [Option.bind_some] at hi
  cases hz:ti.zero with
  | none=>rw [hz] at hi;cases hi
  | some z =>
   rw [hz] at hi
   simp only [Option.map_some,Option.some.injEq,Prod.mk.injEq] at hi
   rw [appU_at h.u h.s hi1 hz hi.1 h.n0.1,hi.2]
   cases i with
   | none =>
    obtain ⟨rfl,rfl⟩:=hu
    cases ys with
    | nil=>exact absurd rfl hy
    | cons y ys=>simp at hroom;simp [hroom]
   | some j =>
    obtain ⟨v,rfl,hj⟩:=hu
    simp [hj,hroom]
theorem lodT_ul {P:Program} {t:TypeId} {env:List V} {H:Hp} {lk:List (Nat×Nat)} {df:List (V×List V)} {b off:Nat} {cs:List V} {ty:TypeId} {c:V} (ha:aggT P t=some false) (hb:H.get b=some (.cells cs ty)) (hn:nth cs off=some c) (hc:c=.snil∨∃ j v l,c=.ulr j v l) :
  lodT P t env H lk df (some (.ptr b off))=some (.val c,⟨env,H,lk,df⟩):=by
 rcases hc with rfl|⟨j,v,l,rfl⟩<;>simp [lodT,ha,hb,hn]
theorem get_new {H:Hp} {x:Blk}:(H.push x).get H.blks.length=some x:=by rw [get_push,get_len];simp
theorem get_new' {bs:List Blk} {es:List (Nat×Nat)} {x:Blk}:(Hp.push ⟨bs,es⟩ x).get bs.length=some x:=get_new (H:=⟨bs,es⟩)
theorem load_agg {P:Program} {t:TypeId} {H:Hp} {gl:Nat→Nat→Option V} {b n off:Nat} {cs:List V} {ty:TypeId} (ha:aggT P t=some true) (hs:szOf P t=some n) (hb:H.get b=some (.cells cs ty)) (hl:off+n≤cs.length):loadA P H gl t (.ptr b off)=some (.agg ((cs.drop off).take n)):=by
 rw [loadA_ptr,hb,loadB_some,partA_eq,ha,hs,partO_t,if_pos hl]
theorem load_one {P:Program} {t:TypeId} {H:Hp} {gl:Nat→Nat→Option V} {b off:Nat} {cs:List V} {ty:TypeId} {v:V} (ha:aggT P t=some false) (hb:H.get b=some (.cells cs ty)) (hn:nth cs off=some v):loadA P H gl t (.ptr b off)=some v:=by
 rw [loadA_ptr,hb,loadB_some,partA_eq,ha,partO_f,hn]
theorem storX_ptr {P:Program} {t n:TypeId} {H:Hp} {lk:List (Nat×Nat)} {df:List (V×List V)} {b off:Nat} {v:V} {env:List V} {cs:List V} {ty:TypeId} (hs:szOf P t=some n) (hb:H.get b=some (.cells cs ty)) (h1:okC v=true) (h2:v.laid.length=n) (h3:off+n≤cs.length) (h4:mayA lk b off n (cs.drop off)=true) :
  storX P t H lk df (some (v,env)) (some (.ptr b off))=some (.skip,⟨env,(H.set b (.cells (Vm.storeCells cs off v.laid) ty)).edge b v,lk,df⟩):=by
 simp only [storX,hs,storeQ_at hb h1 h2 h3 h4]
theorem takeV_ulr {env:List V} {t j v l:Nat}:takeV env t (some (.ulr j v l))=some (.ulr j v l,env):=rfl
theorem clr_ulr {j v l:Nat}:clr (.ulr j v l)=.ulr j v l:=rfl
theorem edge_mem {H:Hp} {b:Nat} {v:V} (h:b+1<v.top):(b,v.top)∈(H.edge b v).edges:=by
 unfold Hp.edge
 rw [if_neg (by omega)]
 simp
theorem iaddr_ulr {P:Program} {t e n b u len:Nat} {i:Int} (hu:P.underlying t=some (.slice e)) (hs:szOf P e=some n) (h:0≤i∧i<len):indexAddrA P t (.ulr b u len) i=some (.ulp b u (i.toNat * n)):=by
 simp [indexAddrA,hu,hs,h]
theorem load_ulp {P:Program} {t:TypeId} {H:Hp} {gl:Nat→Nat→Option V} {b u k n sz:Nat} {cs:List V} {e:TypeId} (ha:aggT P t=some true) (hs:szOf P t=some n) (hb:H.get b=some (.ul u sz cs e)) (hl:k+n≤cs.length):loadA P H gl t (.ulp b u k)=some (.agg ((cs.drop k).take n)):=by
 have:Nat.beq u u=true:=Nat.beq_refl u
 simp [loadA,hb,partA_eq,ha,hs,partO_t,hl]
theorem flat_len {n:Nat}:∀ {xs:List (List V)},(∀ y∈xs,y.length=n)→xs.flatten.length=xs.length * n
 | [],_=>by simp
 | x::xs,h=>by
  rw [List.flatten_cons,List.length_append,h x (List.mem_cons_self ..),flat_len fun y hy=>h y (List.mem_cons_of_mem _ hy),List.length_cons,Nat.succ_mul,Nat.add_comm]
theorem RowT.zero {P:Program} {t e n by':Nat} (h:RowT P t e n by'):∃ z,zeroA P e=some z∧okC z=true∧z.cells.length=n∧z.cells.all (fun c=>!(locked c))=true:=by
 obtain ⟨z,h1,h2,h3⟩:=zero_of h.z h.n0
 exact ⟨z,h1,h2.2.2.2,h2.2.2.1,h3⟩
theorem lenA_ulr {P:Program} {H:Hp} {t e b u n:Nat} (hu:P.underlying t=some (.slice e)):lenA P H t (.ulr b u n)=some (n:Int):=by simp [lenA,hu]
theorem lenA_snil {P:Program} {H:Hp} {t e:Nat} (hu:P.underlying t=some (.slice e)):lenA P H t .snil=some 0:=by simp [lenA,hu]
theorem clr_ulp {a b c:Nat}:clr (.ulp a b c)=.ulp a b c:=rfl
theorem stc_get {i:Nat}:∀ {xs ys:List V} {k:Nat},(Vm.storeCells ys k xs)[i]?=if k≤i∧i<k+xs.length∧i<ys.length then xs[i - k]? else ys[i]?
 | [],ys,k=>by simp [Vm.storeCells];omega
 | x::xs,ys,k=>by
  simp only [Vm.storeCells,stc_get (xs:=xs),List.length_set,List.getElem?_set',List.length_cons]
  by_cases h1:i=k
  ·subst h1
   have:¬ (i+1≤i∧i<i+1+xs.length∧i<ys.length):=by omega
   rw [if_neg this,if_pos rfl]
   by_cases h2:i<ys.length
   ·rw [if_pos (by omega),List.getElem?_eq_getElem h2];simp
   ·rw [if_neg (by omega),List.getElem?_eq_none (by omega)];simp
  ·rw [if_neg (Ne.symm h1)]
   by_cases h2:k+1≤i∧i<k+1+xs.length∧i<ys.length
   ·rw [if_pos h2,if_pos (by omega),show i - k=(i - (k+1))+1 by omega,List.getElem?_cons_succ]
   ·rw [if_neg h2,if_neg (by omega)]
theorem stc_all {xs ys:List V} (h:ys.length=xs.length):Vm.storeCells ys 0 xs=xs:=by
 apply List.ext_getElem?
 intro i
 rw [stc_get]
 by_cases hi:i<xs.length
 ·rw [if_pos (by omega)];simp
 ·rw [if_neg (by omega),List.getElem?_eq_none (by rw [h];omega),List.getElem?_eq_none (by omega)]
theorem set_ne {H:Hp} {b c:Nat} {x:Blk} (h:c≠b):(H.set b x).get c=H.get c:=by
 rw [get_set];cases H.get c<;>simp [h]
theorem set_eq {H:Hp} {b:Nat} {x y:Blk} (h:H.get b=some y):(H.set b x).get b=some x:=by
 rw [get_set,h];simp
theorem push_lt {H:Hp} {d:Nat} {x:Blk} (h:d<H.blks.length):(H.push x).get d=H.get d:=by
 have:H.get d=some (H.blks[d]'h):=by simp [Hp.get,nth_eq,h]
 rw [get_push_some this,this]
theorem edge_ne {H:Hp} {b c:Nat} {x:Blk} {v:V} (h:c≠b):((H.set b x).edge b v).get c=H.get c:=by rw [get_edge,set_ne h]
theorem edge_eq {H:Hp} {b:Nat} {x y:Blk} {v:V} (h:H.get b=some y):((H.set b x).edge b v).get b=some x:=by rw [get_edge,set_eq h]
theorem len_se {H:Hp} {b:Nat} {x:Blk} {v:V}:((H.set b x).edge b v).blks.length=H.blks.length:=by rw [len_edge,len_set]
theorem nth_set {l:List V} {i j:Nat} {v:V}:nth (l.set i v) j=if i=j then (if i<l.length then some v else none) else nth l j:=by
 rw [nth_eq,nth_eq,List.getElem?_set]
def mixP (p q:Nat→Bool) (i:Nat):Nat→Bool:=fun n=>p n || (decide (n / 64<i) && q n)
theorem word_mix {p q:Nat→Bool} {i:Nat}:word (mixP p q i) i=word p i:=by
 refine (bitsN_eq word_lt fun j hj=>?_).symm
 rw [word_test hj]
 have:¬ ((64 * i+j) / 64<i):=by omega
 simp [mixP,this]
theorem mix_step {p q:Nat→Bool} {m i:Nat}:(pv m (mixP p q i)).set i (.int .u64 ((word p i ||| word q i:Nat):Int))=pv m (mixP p q (i+1)):=by
 apply List.ext_getElem?
 intro k
 rw [List.getElem?_set']
 by_cases hk:k<m
 ·rw [pv_get hk,pv_get hk]
  by_cases e:i=k
  ·subst e
   simp only [if_true,Option.map_some,Function.const,Option.map_eq_map]
   congr 3
   refine bitsN_eq (Nat.or_lt_two_pow word_lt word_lt) fun j hj=>?_
   rw [Nat.testBit_or,word_test hj,word_test hj]
   have:(64 * i+j) / 64<i+1:=by omega
   simp [mixP,this]
  ·rw [if_neg e]
   congr 3
   refine (bitsN_eq word_lt fun j hj=>?_)
   rw [word_test hj]
   have:((64 * k+j) / 64<i) ↔ ((64 * k+j) / 64<i+1):=by omega
   simp [mixP,this]
 ·have h1:(pv m (mixP p q i))[k]?=none:=by simp [pv];omega
  have h2:(pv m (mixP p q (i+1)))[k]?=none:=by simp [pv];omega
  rw [h1,h2];simp
theorem mix_end {p q:Nat→Bool} {m:Nat}:pv m (mixP p q m)=pv m (joinP p q):=by
 apply List.map_congr_left
 intro i hi
 have hi:=List.mem_range.1 hi
 congr 2
 refine bitsN_eq word_lt fun j hj=>?_
 rw [word_test hj]
 have:(64 * i+j) / 64<m:=by omega
 simp [mixP,joinP,this]
theorem mix_zero {p q:Nat→Bool} {m:Nat}:pv m (mixP p q 0)=pv m p:=by
 apply List.map_congr_left
 intro i hi
 congr 2
 refine bitsN_eq word_lt fun j hj=>?_
 rw [word_test hj]
 simp [mixP]
theorem set_same' {α:Type} {l:List α} {d:Nat} {v:α} (h:nth l d=some v):l.set d v=l:=by
 rw [nth_eq] at h
 apply List.ext_getElem?
 intro t
 rw [List.getElem?_set']
 split
 ·rename_i e;subst e;rw [h];rfl
 ·rfl
theorem load_ulp1 {P:Program} {t:TypeId} {H:Hp} {gl:Nat→Nat→Option V} {b u k sz:Nat} {cs:List V} {e:TypeId} {v:V} (ha:aggT P t=some false) (hb:H.get b=some (.ul u sz cs e)) (hn:nth cs k=some v):loadA P H gl t (.ulp b u k)=some v:=by
 have:Nat.beq u u=true:=Nat.beq_refl u
 simp [loadA,hb,partA_eq,ha,partO_f,hn]
theorem storX_ulp {P:Program} {t n:TypeId} {H:Hp} {lk:List (Nat×Nat)} {df:List (V×List V)} {b k u sz:Nat} {v:V} {env:List V} {cs:List V} {e:TypeId} (hs:szOf P t=some n) (hb:H.get b=some (.ul u sz cs e)) (hv:clr v=v) (h1:okC v=true) (h2:v.cells.length=n) (h3:k+n≤cs.length) :
  storX P t H lk df (some (v,env)) (some (.ulp b u k))=some (.skip,⟨env,(H.set b (.ul u sz (Vm.storeCells cs k v.cells) e)).edge b v,lk,df⟩):=by
 simp only [storX,hs,hb,hv,h1,h2,h3,and_self,if_true]
def ownL (n:Nat) (e:TypeId) (xs:List V):V:=match xs with|[]=>.snil|xs=>.sl n xs (.yes e)
theorem take_own {env:List V} {t n:Nat} {e:TypeId} {xs:List V} (h:nth env t=some (ownL n e xs)):take env (.tmp t)=some (ownL n e xs,env.set t (clr (ownL n e xs))):=by
 rw [take_tmp,h]
 cases xs with
 | nil =>
  have h':nth env t=some .snil:=h
  simp only [ownL,takeV_snil,clr_snil]
  rw [set_same' h']
 | cons x xs=>rfl
theorem append_own {P:Program} {t e n by':Nat} (h:RowT P t e n by') {H:Hp} {xs ys:List V} {o:Own} (hy:ys≠[]) (hroom:roomA (xs.length+ys.length) by'=true):appendA P H t (ownL n e xs) (.sl n ys o)=some (ownL n e (xs++ys)):=by
 have hi:=h.i
 cases hi1:P.info? e with
 | none=>rw [hi1] at hi;cases hi
 | some ti =>
  rw [hi1] at hi
  simp only [Option.bind_some] at hi
  cases hz:ti.zero with
  | none=>rw [hz] at hi;cases hi
  | some z =>
   rw [hz] at hi
   simp only [Option.map_some,Option.some.injEq,Prod.mk.injEq] at hi
   have hn0:Nat.beq n 0=false:=by
    have:=h.n0.1
    cases n with
    | zero=>exact absurd rfl this
    | succ n=>rfl
   obtain ⟨y,ys,rfl⟩:∃ y l,ys=y::l:=by
    cases ys with
    | nil=>exact absurd rfl hy
    | cons y l=>exact ⟨y,l,rfl⟩
   simp only [appendA,h.u,h.s,hi1,hz,hi.1,elemsA,Option.bind_eq_bind,Option.bind_some,Nat.beq_refl,Bool.not_true,Bool.false_eq_true,if_false,if_true]
   cases xs with
   | nil =>
    simp only [ownL,List.nil_append]
    rw [hi.2,hn0]
    simp only [List.length_nil,Nat.zero_add,List.length_cons] at hroom
    simp [hroom]
   | cons x xs =>
    simp only [ownL,List.cons_append]
    rw [hi.2,hn0]
    simp only [List.length_cons] at hroom
    simp [hroom]
theorem bin_mulI {P:Program} {t:TypeId} {x y:Operand} {a b:Nat} (h:a * b<2 ^ 60):binV P .mul t x y (some (.int .i64 a)) (some (.int .i64 b))=some (.int .i64 ((a * b:Nat):Int)):=by
 rw [bin_mul,← Int.natCast_mul,wrap_i64 (by omega) (by omega)]
theorem bin_addI {P:Program} {t:TypeId} {x y:Operand} {a b:Nat} (h:a+b<2 ^ 60):binV P .add t x y (some (.int .i64 a)) (some (.int .i64 b))=some (.int .i64 ((a+b:Nat):Int)):=by
 rw [bin_add,← Int.natCast_add,wrap_i64 (by omega) (by omega)]
theorem bin_subI {P:Program} {t:TypeId} {x y:Operand} {a b:Nat} (h:a<2 ^ 60) (hb:b≤a):binV P .sub t x y (some (.int .i64 a)) (some (.int .i64 b))=some (.int .i64 ((a - b:Nat):Int)):=by
 rw [bin_sub,← Int.natCast_sub hb,wrap_i64 (by omega) (by omega)]
theorem lenA_own {P:Program} {H:Hp} {t e n:Nat} {xs:List V} (hu:P.underlying t=some (.slice e)):lenA P H t (clr (ownL n e xs))=some (xs.length:Int):=by
 cases xs with
 | nil=>simp [ownL,clr,lenA,hu]
 | cons x xs=>simp [ownL,clr,lenA,hu]
theorem iaddr_own {P:Program} {t e n k:Nat} {xs:List V} {x:V} (hu:P.underlying t=some (.slice e)) (hs:szOf P e=some n) (hx:nth xs k=some x):indexAddrA P t (clr (ownL n e xs)) (k:Int)=some (.vp x.cells):=by
 cases xs with
 | nil=>cases hx
 | cons y xs =>
  have:¬ ((k:Int)<0):=by omega
  simp [ownL,clr,indexAddrA,hu,hs,this,hx]
theorem load_vp1 {P:Program} {t:TypeId} {H:Hp} {gl:Nat→Nat→Option V} {x:V} {cs:List V} (ha:aggT P t=some false):loadA P H gl t (.vp (x::cs))=some x:=by
 simp [loadA,partA_eq,ha,partO_f,nth]
theorem clr_own2 {n:Nat} {e:TypeId} {xs:List V}:clr (clr (ownL n e xs))=clr (ownL n e xs):=by cases xs<;>rfl
def lkL (n:Nat) (xs:List V):V:=match xs with|[]=>.snil|xs=>.sl n xs .lock
def lckM (b off:Nat) (xs:List V):List (Nat×Nat):=match xs with|[]=>[]|_=>[(b,off)]
theorem lodT_own {P:Program} {t:TypeId} {env:List V} {H:Hp} {df:List (V×List V)} {b off n:Nat} {e:TypeId} {xs cs:List V} {ty:TypeId} (ha:aggT P t=some false) (hb:H.get b=some (.cells cs ty)) (hn:nth cs off=some (ownL n e xs)) :
  lodT P t env H [] df (some (.ptr b off))=some (.val (ownL n e xs),⟨env,H.set b (.cells (cs.set off (lkL n xs)) ty),lckM b off xs,df⟩):=by
 cases xs with
 | nil =>
  simp only [lodT,ha,hb,hn,ownL,lkL,lckM]
  have h1:cs.set off .snil=cs:=set_same' hn
  have h2:H.set b (.cells cs ty)=H:=by
   obtain ⟨bs,es⟩:=H
   simp only [Hp.set]
   rw [set_same' hb]
  rw [h1,h2]
 | cons x xs =>
  simp only [lodT,ha,hb,hn,ownL,lkL,lckM]
  rw [edge0 (by simp [V.top])]
theorem mayA_own {b off n:Nat} {xs cs:List V} (h:off<cs.length):mayA (lckM b off xs) b off 1 ((cs.set off (lkL n xs)).drop off)=true:=by
 have h2:(cs.set off (lkL n xs)).drop off=lkL n xs::cs.drop (off+1):=by
  rw [List.drop_eq_getElem_cons (by simpa using h)]
  simp [List.drop_set]
 rw [h2]
 cases xs<;>simp [mayA,lkL,lckM,locked]
theorem lckM_ne {b off d:Nat} {xs:List V} (h:d≠b):(lckM b off xs).all (fun p=>!(Nat.beq p.1 d))=true:=by
 cases xs with
 | nil=>rfl
 | cons x xs =>
  have:Nat.beq b d=false:=by
   cases hx:Nat.beq b d with
   | false=>rfl
   | true=>exact absurd (Nat.eq_of_beq_eq_true hx).symm h
  simp [lckM,this]
theorem okC_own {n:Nat} {e:TypeId} {xs:List V}:okC (ownL n e xs)=true:=by cases xs<;>rfl
theorem laid_own {n:Nat} {e:TypeId} {xs:List V}:(ownL n e xs).laid=[ownL n e xs]:=by cases xs<;>rfl
theorem bin_addk {P:Program} {t:TypeId} {x y:Operand} {k:Nat} (h:k<2 ^ 60):binV P .add t x y (some (.int .i64 k)) (some (.int .i64 1))=some (.int .i64 ((k+1:Nat):Int)):=by
 rw [bin_add,wrap_i64 (by omega) (by omega)];simp
def ownF (env:List V) (t n:Nat) (e:TypeId) (xs:List V):Option (V×List V):=takeV env t (some (ownL n e xs))
open Classical in
theorem takeV_own {env:List V} {t n:Nat} {e:TypeId} {xs:List V}:takeV env t (some (ownL n e xs))=if nth env t=some (ownL n e xs) then some (ownL n e xs,env.set t (clr (ownL n e xs))) else ownF env t n e xs:=by
 split
 ·rename_i h
  rw [← h,← take_tmp];exact take_own h
 ·rfl
theorem takeV_ownc {env:List V} {t n:Nat} {e:TypeId} {xs:List V}:takeV env t (some (clr (ownL n e xs)))=some (clr (ownL n e xs),env):=by cases xs<;>rfl
def wantO (want:Bool) (env:List V):Option (Option Tmp)→Option Bool
 | some (some d)=>wantB want (nth env d)
 | _=>none
theorem wanted_nth {l:List Oper} {dst:Option Tmp} {op:Op} {type:TypeId} {pos:String} {after:Array Edge} {j:Nat} {want:Bool} {env:List V}:wantedA l.toArray ⟨dst,op,type,pos,after,some (j,want)⟩ env=wantO want env ((nth l j).map (·.dst)):=by
 have hj:l.toArray[j]?=nth l j:=by rw [nth_eq,List.getElem?_toArray]
 cases hd:nth l j with
 | none =>
  unfold wantedA
  simp only [hj,hd]
  rfl
 | some o =>
  cases ho:o.dst with
  | none =>
   unfold wantedA
   simp only [hj,hd,Option.bind_some,ho]
   simp only [Option.map_some,ho,wantO]
  | some d =>
   rw [wanted_eq (d:=d) (by rw [hj,hd];exact ho)]
   simp only [Option.map_some,ho,wantO]
theorem wantO_s {want:Bool} {env:List V} {d:Tmp}:wantO want env (some (some d))=wantB want (nth env d):=rfl
theorem wantB_tt:wantB true (some (.bool true))=some true:=rfl
theorem wantB_tf:wantB true (some (.bool false))=some false:=rfl
theorem wantB_ft:wantB false (some (.bool true))=some false:=rfl
theorem wantB_ff:wantB false (some (.bool false))=some true:=rfl
theorem gdQ_t {a b:Prop}:gdQ a b (some true) ↔ a:=Iff.rfl
theorem gdQ_f {a b:Prop}:gdQ a b (some false) ↔ b:=Iff.rfl
theorem pickV_t {a b:Option V}:pickV a b (some (.bool true))=a:=rfl
theorem pickV_f {a b:Option V}:pickV a b (some (.bool false))=b:=rfl
end Go.Vm
namespace Go.Vm
open Go
variable {cx:Cx} {all:Array Oper} {takes:List Tmp}
def pendOk (cx:Cx) (takes:List Tmp) (c:Cfg):List (Oper×List V×V)→Prop
 | []=>True
 | p::ps=>cx.valC takes p.1 p.2.1 p.2.2 c=true∧pendOk cx takes c ps
theorem pend_mem {c:Cfg} {ps:List (Oper×List V×V)} (h:pendOk cx takes c ps) (p:Oper×List V×V) (hp:p∈ps):cx.valC takes p.1 p.2.1 p.2.2 c=true:=by
 induction ps with
 | nil=>cases hp
 | cons a ps ih =>
  cases hp with
  | head=>exact h.1
  | tail _ hp=>exact ih h.2 hp
def pendA (b:Bool) (p:Oper×List V×V) (ps:List (Oper×List V×V)):List (Oper×List V×V):=bif b then p::ps else ps
def ojQ (cx:Cx) (all:Array Oper) (takes:List Tmp) (P:St→Prop):List (Oper×List V×V)→List (Bool×Bool)→List Oper→St→Prop
 | _,_,[],s=>P s
 | _,[],_::_,_=>False
 | pend,(ld,hp)::fl,o::os,⟨env,H,lk,df⟩=>match wantedA all o env with
  | none=>False
  | some false=>ojQ cx all takes P pend fl os ⟨putA env o.dst (.tup []),H,lk,df⟩
  | some true=>ldChk cx o env lk=true∧match cx.op takes o env H lk df with
   | some (.val v,⟨env1,H1,lk1,df1⟩)=>(hp=true→pendOk cx takes ⟨0,H1,lk1,df1⟩ pend)∧ojQ cx all takes P (pendA ld (o,env,v) pend) fl os ⟨putA env1 o.dst v,H1,lk1,df1⟩
   | some (.skip,⟨env1,H1,lk1,df1⟩)=>(hp=true→pendOk cx takes ⟨0,H1,lk1,df1⟩ pend)∧ojQ cx all takes P pend fl os ⟨putA env1 o.dst (.tup []),H1,lk1,df1⟩
   | _=>False
def ordJ (js:List Nat) (r q:SR):Bool :=
 match bit r.m q.idx with
 | true=>true
 | false=>!(r.hp && q.hp) && (!(q.hp && r.lk) || (q.tk && r.ld)) && (!(r.hp && q.lk) || (r.al && q.ld) || (js.any (Nat.beq q.idx) && q.ld))
def seqJ (P:Program) (uq:TypeId→Bool) (all:Array Oper) (takes:List Tmp) (js:List Nat):Nat→List SR→List (Bool×Bool)→List Oper→Bool
 | _,_,_,[]=>true
 | _,_,[],_::_=>false
 | i,rs,(ld,hp)::fl,o::os=>match maskS rs o.after.toList with
  | none=>false
  | some m =>
   let r:SR:=⟨i,m,tmM takes o,Nat.lor (tmM takes o) (lkM all o),heapOp P uq takes o,looksH P uq o,allocOp o,ldOp takes o,tkLoad takes o⟩
   ((!heapOp P uq takes o || hp) && (!(js.any (Nat.beq i)) || ld)) && ((!r.tk || allA (fun q=>!q.tk) rs) && allA (slotsS r) rs && (allA (ordJ js r) rs && seqJ P uq all takes js (i+1) (r::rs) fl os))
theorem seq_opsJ {js:List Nat} {P:St→Prop}:∀ (os:List Oper) (fl:List (Bool×Bool)) (pend:List (Oper×List V×V)) (i:Nat) (rs:List Rec) (ts:List SR) (c0:Cfg) (rest:List Cfg) (s:St),SqI cx takes i rs ts c0 rest s→seqJ cx.P cx.uq all takes js i ts fl os=true→(∀ q∈rs,q.hp=false→q.free=false→js.any (Nat.beq q.idx)=true→(q.o,q.env,q.v)∈pend)→ojQ cx all takes P pend fl os s→∃ s',cx.opsD all takes i rs (c0::rest) os s=some (.normal,s')∧P s'
 | [],fl,pend,i,rs,ts,c0,rest,s,_,_,_,hc=>by
  simp only [ojQ] at hc
  exact ⟨s,by simp only [Cx.opsD],hc⟩
 | _::_,[],pend,i,rs,ts,c0,rest,s,_,_,_,hc=>by
  simp only [ojQ] at hc
 | o::os,(ld,fhp)::fl,pend,i,rs,ts,c0,rest,⟨env,H,lk,df⟩,hI,hst,hpd,hc=>by
  simp only [seqJ] at hst
  split at hst<;>try (cases hst;done)
  rename_i m hm
  simp only [Bool.and_eq_true] at hst
  obtain ⟨⟨hfl1,hfl2⟩,⟨htk,hsl⟩,hord,hst⟩:=hst
  have hslots:∀ (hp free:Bool) (v:V),allA (slotsOk ⟨i,o,m,tmM takes o,Nat.lor (tmM takes o) (lkM all o),hp,free,env,v⟩) rs=true:=fun hp free v =>
   all_same hI.pr (fun q t hqt hg=>by simp only [slotsS] at hg;simp only [slotsOk,hqt.idx,hqt.tm,hqt.lm];exact hg) hsl
  have key:∀ (hp free:Bool) (v:V) (pend1:List (Oper×List V×V)) (H1:Hp) (lk1:List (Nat×Nat)) (df1:List (V×List V)) (env1:List V),
    (hp=true→heapOp cx.P cx.uq takes o=true)→(hp=false→free=false→looksH cx.P cx.uq o=true) →
    (hp=false→H1=H∧lk1=lk∧df1=df)→(hp=false→free=false→∀ D,cx.valC takes o env v ⟨D,H,lk,df⟩=true) →
    (hp=true→allocOp o=true→∃ x,H1=H.push x∧lk1=lk∧df1=df) →
    (hp=true→tkLoad takes o=true→∀ D,LockR ⟨D,H,lk,df⟩ ⟨env1,H1,lk1,df1⟩) →
    (hp=false→free=false→ldOp takes o=true→∀ c,LockR c ⟨env,H,lk,df⟩→cx.valC takes o env v c=true) →
    (hp=true→∀ D,∀ p∈pend,cx.valC takes p.1 p.2.1 p.2.2 ⟨D,H1,lk1,df1⟩=true) →
    (∀ q∈pend,q∈pend1)→(hp=false→free=false→js.any (Nat.beq i)=true→(o,env,v)∈pend1) →
    ojQ cx all takes P pend1 fl os ⟨env1,H1,lk1,df1⟩ →
    ∃ s',(match allA (slotsOk ⟨i,o,m,tmM takes o,Nat.lor (tmM takes o) (lkM all o),hp,free,env,v⟩) rs,c0::rest with
     | true,c0::cs=>cx.cfgsK takes rs ⟨i,o,m,tmM takes o,Nat.lor (tmM takes o) (lkM all o),hp,free,env,v⟩ c0 ⟨Nat.lor c0.D (Nat.pow 2 i),H1,lk1,df1⟩ cs fun cs =>
      cx.opsD all takes (i+1) (⟨i,o,m,tmM takes o,Nat.lor (tmM takes o) (lkM all o),hp,free,env,v⟩::rs) cs os ⟨env1,H1,lk1,df1⟩
     | _,_=>none)=some (.normal,s')∧P s':=by
   intro hp free v pend1 H1 lk1 df1 env1 h1 h2 h3 h4 h5 h5a h5b hpe hsub hnewp h6
   rw [hslots]
   simp only
   have hlt:∀ q∈rs,q.idx≠i:=fun q hq e=>by have:=hI.lt q hq;omega
   have hc1:∀ b,(∃ q∈rs,q.hp=true∧q.idx=b)→bit (Nat.lor c0.D (Nat.pow 2 i)) b=true:=fun b hb=>by rw [bit_or,(hI.cD b).2 hb];rfl
   have hordq:=forall2_mem hI.pr hord
   have hlook:hp=true→∀ q∈rs,q.hp=false→q.free=false→bit m q.idx=true∨(∃ c∈rs,c.hp=true∧bit c.m q.idx=true)∨∀ D,cx.valC takes q.o q.env q.v ⟨D,H1,lk1,df1⟩=true:=fun hr q hq hqh hqf=>by
    obtain ⟨t,ht,hg⟩:=hordq q hq
    simp only [ordJ] at hg
    split at hg
    ·rename_i hb;exact .inl (by rw [ht.idx];exact hb)
    ·rw [h1 hr,ht.lk hqh hqf] at hg
     simp only [Bool.true_and,Bool.not_true,Bool.false_or,Bool.and_eq_true,Bool.or_eq_true] at hg
     obtain ⟨_,⟨hal,hld⟩|⟨hjs,hld⟩⟩:=hg
     ·rcases hI.vals q hq hqh hqf with h|h
      ·exact .inr (.inl h)
      ·obtain ⟨x,e1,e2,e3⟩:=h5 hr hal
       subst e1 e2 e3
       rw [ht.ld] at hld
       exact .inr (.inr fun D=>valC_push hld (h D))
     ·exact .inr (.inr fun D=>hpe hr D _ (hpd q hq hqh hqf (by rw [ht.idx];exact hjs)))
   have hnotk:tkLoad takes o=true→∀ q∈rs,tkLoad takes q.o=false:=fun ht q hq=>by
    rw [ht] at htk
    simp only [Bool.not_true,Bool.false_or] at htk
    obtain ⟨t,h7,h8⟩:=forall2_mem hI.pr htk q hq
    rw [← h7.tk]
    simpa using h8
   have hafter:(hp=true∨(hp=false∧free=false))→∀ q∈rs,q.hp=true→bit m q.idx=true∨(hp=false∧tkLoad takes q.o=true∧ldOp takes o=true):=fun hr q hq hqh=>by
    obtain ⟨t,ht,hg⟩:=hordq q hq
    simp only [ordJ] at hg
    split at hg
    ·rename_i hb;exact .inl (by rw [ht.idx];exact hb)
    ·rw [ht.hp hqh] at hg
     simp only [Bool.and_true,Bool.true_and,Bool.and_eq_true,Bool.not_eq_true'] at hg
     obtain ⟨⟨g1,g2⟩,_⟩:=hg
     rcases hr with hr|⟨hr,hf⟩
     ·rw [h1 hr] at g1;cases g1
     ·rw [h2 hr hf] at g2
      simp only [Bool.not_true,Bool.false_or,Bool.and_eq_true] at g2
      exact .inr ⟨hr,by rw [← ht.tk];exact g2.1,g2.2⟩
   have hmiss:∀ c:Cfg,(∃ q∈rs,q.hp=true∧bit m q.idx=true∧bit c.D q.idx=false)→subM (Nat.land m (chgM rs)) c.D=false:=fun c hc=>by
    obtain ⟨q,hq,e1,e2,e3⟩:=hc
    cases hs:subM (Nat.land m (chgM rs)) c.D with
    | false=>rfl
    | true =>
     have:=subM_spec.1 hs q.idx (by rw [bit_and,e2,bit_chgM.2 ⟨q,hq,e1,rfl⟩];rfl)
     rw [this] at e3
     cases e3
   have hci:∀ c:Cfg,(∀ b,bit c.D b=true→∃ q∈rs,q.idx=b)→bit c.D i=false:=fun c hc=>by
    cases hb:bit c.D i with
    | false=>rfl
    | true =>
     obtain ⟨q,hq,e⟩:=hc i hb
     exact absurd e (hlt q hq)
   rw [cfg_seq (r:=⟨i,o,m,tmM takes o,Nat.lor (tmM takes o) (lkM all o),hp,free,env,v⟩) ?_ ?_ hc1 ?_]
   ·have hnewI:SqI cx takes (i+1) (⟨i,o,m,tmM takes o,Nat.lor (tmM takes o) (lkM all o),hp,free,env,v⟩::rs) (⟨i,m,tmM takes o,Nat.lor (tmM takes o) (lkM all o),heapOp cx.P cx.uq takes o,looksH cx.P cx.uq o,allocOp o,ldOp takes o,tkLoad takes o⟩::ts)
      (bif hp then ⟨Nat.lor c0.D (Nat.pow 2 i),H1,lk1,df1⟩ else c0) (bif hp then c0::rest else rest) ⟨env1,H1,lk1,df1⟩:=by
     refine ⟨.cons ⟨rfl,rfl,rfl,rfl,h1,h2,rfl,rfl⟩ hI.pr,?_,?_,?_,?_,?_,?_⟩
     ·intro q hq
      rcases List.mem_cons.1 hq with rfl|hq
      ·exact Nat.lt_succ_self _
      ·have:=hI.lt q hq;omega
     ·intro b
      cases hp with
      | false =>
       simp only [cond_false]
       rw [hI.cD]
       constructor
       ·rintro ⟨q,hq,e⟩;exact ⟨q,List.mem_cons_of_mem _ hq,e⟩
       ·rintro ⟨q,hq,e1,e2⟩
        rcases List.mem_cons.1 hq with rfl|hq
        ·cases e1
        ·exact ⟨q,hq,e1,e2⟩
      | true =>
       simp only [cond_true]
       rw [bit_or,Bool.or_eq_true,hI.cD,bit_pow,decide_eq_true_eq]
       constructor
       ·rintro (⟨q,hq,e⟩|rfl)
        ·exact ⟨q,List.mem_cons_of_mem _ hq,e⟩
        ·exact ⟨_,List.mem_cons_self ..,rfl,rfl⟩
       ·rintro ⟨q,hq,e1,e2⟩
        rcases List.mem_cons.1 hq with rfl|hq
        ·exact .inr e2
        ·exact .inl ⟨q,hq,e1,e2⟩
     ·cases hp with
      | false=>obtain ⟨e1,e2,e3⟩:=h3 rfl;subst e1 e2 e3;exact hI.c0
      | true=>exact ⟨rfl,rfl,rfl⟩
     ·intro c hc' b hb
      cases hp with
      | false=>obtain ⟨q,hq,e⟩:=hI.rD c hc' b hb;exact ⟨q,List.mem_cons_of_mem _ hq,e⟩
      | true =>
       rcases List.mem_cons.1 hc' with rfl|hc'
       ·obtain ⟨q,hq,_,e⟩:=(hI.cD b).1 hb;exact ⟨q,List.mem_cons_of_mem _ hq,e⟩
       ·obtain ⟨q,hq,e⟩:=hI.rD c hc' b hb;exact ⟨q,List.mem_cons_of_mem _ hq,e⟩
     ·intro c hc'
      cases hp with
      | false =>
       obtain ⟨e1,e2,e3⟩:=h3 rfl
       subst e1 e2 e3
       rcases hI.rest c hc' with ⟨q,hq,e⟩|⟨⟨q,hq,e⟩,hL⟩
       ·exact .inl ⟨q,List.mem_cons_of_mem _ hq,e⟩
       ·exact .inr ⟨⟨q,List.mem_cons_of_mem _ hq,e⟩,hL⟩
      | true =>
       have hc0i:bit c0.D i=false:=hci c0 fun b hb=>by obtain ⟨q,hq,_,e⟩:=(hI.cD b).1 hb;exact ⟨q,hq,e⟩
       cases htl:tkLoad takes o with
       | false =>
        rcases List.mem_cons.1 hc' with rfl|hc'
        ·exact .inl ⟨_,List.mem_cons_self ..,rfl,htl,hc0i⟩
        ·exact .inl ⟨_,List.mem_cons_self ..,rfl,htl,hci c (hI.rD c hc')⟩
       | true =>
        rcases List.mem_cons.1 hc' with rfl|hc'
        ·refine .inr ⟨⟨_,List.mem_cons_self ..,rfl,htl,hc0i⟩,?_⟩
         obtain ⟨D0,H0,lk0,df0⟩:=c
         obtain ⟨e1,e2,e3⟩:=hI.c0
         simp only at e1 e2 e3
         subst e1 e2 e3
         exact h5a rfl htl D0
        ·rcases hI.rest c hc' with ⟨q,hq,e⟩|⟨⟨q,hq,e1,e2,_⟩,_⟩
         ·exact .inl ⟨q,List.mem_cons_of_mem _ hq,e⟩
         ·rw [hnotk htl q hq] at e2;cases e2
     ·intro q hq hqh hqf
      rcases List.mem_cons.1 hq with rfl|hq'
      ·obtain ⟨e1,e2,e3⟩:=h3 hqh
       subst e1 e2 e3
       exact .inr (h4 hqh hqf)
      ·clear hq
       cases hp with
       | false =>
        obtain ⟨e1,e2,e3⟩:=h3 rfl
        subst e1 e2 e3
        rcases hI.vals q hq' hqh hqf with ⟨c,hc,e⟩|h
        ·exact .inl ⟨c,List.mem_cons_of_mem _ hc,e⟩
        ·exact .inr h
       | true =>
        rcases hlook rfl q hq' hqh hqf with h|⟨c,hc,e⟩|h
        ·exact .inl ⟨_,List.mem_cons_self ..,rfl,h⟩
        ·exact .inl ⟨c,List.mem_cons_of_mem _ hc,e⟩
        ·exact .inr h
    have:=seq_opsJ os fl pend1 _ _ _ _ _ _ hnewI hst (fun q hq hqh hqf hj=>by
     rcases List.mem_cons.1 hq with rfl|hq
     ·exact hnewp hqh hqf hj
     ·exact hsub _ (hpd q hq hqh hqf hj)) h6
    cases hp<;>exact this
   ·intro hr c hc'
    refine hmiss c ?_
    rcases hI.rest c hc' with ⟨q,hq,e1,_,e2⟩|⟨⟨q,hq,e1,_,e2⟩,_⟩
    ·rcases hafter (.inl hr) q hq e1 with h|⟨h,_⟩
     ·exact ⟨q,hq,e1,h,e2⟩
     ·exact absurd (hr.symm.trans h) (by simp)
    ·rcases hafter (.inl hr) q hq e1 with h|⟨h,_⟩
     ·exact ⟨q,hq,e1,h,e2⟩
     ·exact absurd (hr.symm.trans h) (by simp)
   ·intro hr hf c hc'
    rcases hI.rest c hc' with ⟨q,hq,e1,e3,e2⟩|⟨⟨q,hq,e1,e3,e2⟩,hL⟩
    ·rcases hafter (.inr ⟨hr,hf⟩) q hq e1 with h|⟨_,h,_⟩
     ·exact .inl (hmiss c ⟨q,hq,e1,h,e2⟩)
     ·rw [e3] at h;cases h
    ·rcases hafter (.inr ⟨hr,hf⟩) q hq e1 with h|⟨_,_,h⟩
     ·exact .inl (hmiss c ⟨q,hq,e1,h,e2⟩)
     ·exact .inr (h5b hr hf h c hL)
   ·intro hr q hq hqh hqf
    rcases hlook hr q hq hqh hqf with h|h|h
    ·exact .inl h
    ·exact .inr (.inl h)
    ·exact .inr (.inr (h _))
  simp only [Cx.opsD,mask_same hI.pr,hm,fNat_eq,fV_eq,putK_eq]
  simp only [ojQ] at hc
  split at hc<;>try (cases hc;done)
  ·rename_i hw
   simp only [hw]
   exact key false true (.tup []) pend H lk df _ (fun h=>by cases h) (fun _ h=>by cases h) (fun _=>⟨rfl,rfl,rfl⟩) (fun _ h=>by cases h) (fun h=>by cases h) (fun h=>by cases h) (fun _ h=>by cases h) (fun h=>by cases h) (fun _ h=>h) (fun _ h=>by cases h) hc
  ·rename_i hw
   simp only [hw]
   obtain ⟨hck,hc⟩:=hc
   split at hc<;>try (cases hc;done)
   ·rename_i v env1 H1 lk1 df1 hop
    simp only [hop]
    obtain ⟨hpk,hc⟩:=hc
    have hfh:heapOp cx.P cx.uq takes o=true→fhp=true:=fun h=>by rw [h] at hfl1;simpa using hfl1
    have hfj:js.any (Nat.beq i)=true→ld=true:=fun h=>by rw [h] at hfl2;simpa using hfl2
    refine key _ _ v _ H1 lk1 df1 _ (fun h=>h) (fun _ h=>by simpa using h) (fun hf=>?_) (fun hf _ D=>?_) (fun _ ha=>?_) (fun _ ht D=>?_) (fun _ _ hl c hL=>valC_lock hl hL hck hop) (fun h D p hp=>pend_mem (hpk (hfh h)) p hp) (fun q hq=>by unfold pendA;cases ld<;>simp [hq]) (fun _ _ hj=>by rw [hfj hj];simp [pendA]) hc
    ·obtain ⟨v',_,e2,_⟩:=op_calm hf hop
     cases e2
     exact ⟨rfl,rfl,rfl⟩
    ·simp [Cx.valC,Cx.runC,hop,V.same_refl]
    ·obtain ⟨x,e⟩:=alloc_op ha hop
     cases e
     exact ⟨x,rfl,rfl,rfl⟩
    ·rcases lock_op (D:=D) ht hop with h|h
     ·exact .inl h
     ·exact .inr h
   ·rename_i env1 H1 lk1 df1 hop
    simp only [hop]
    have hhp:heapOp cx.P cx.uq takes o=true:=by
     cases hb:heapOp cx.P cx.uq takes o with
     | true=>rfl
     | false=>obtain ⟨v',e1,_⟩:=op_calm hb hop;cases e1
    rw [hhp]
    obtain ⟨hpk,hc⟩:=hc
    have hfh:fhp=true:=by rw [hhp] at hfl1;simpa using hfl1
    refine key true false (.tup []) pend H1 lk1 df1 _ (fun _=>hhp) (fun h=>by cases h) (fun h=>by cases h) (fun h=>by cases h) (fun _ ha=>?_) (fun _ ht=>?_) (fun h=>by cases h) (fun _ D p hp=>pend_mem (hpk hfh) p hp) (fun _ h=>h) (fun h=>by cases h) hc
    ·obtain ⟨dst,op,type,pos,after,guard⟩:=o
     unfold allocOp at ha
     split at ha<;>try (cases ha;done)
     rename_i t hop'
     simp only at hop'
     subst hop'
     simp only [Cx.op] at hop
     split at hop<;>try (cases hop;done)
     split at hop<;>try (cases hop;done)
     simp [fV_eq,pushK_eq] at hop
    ·obtain ⟨dst,op,type,pos,after,guard⟩:=o
     unfold tkLoad at ht
     split at ht<;>try (cases ht;done)
     rename_i t a hop'
     simp only at hop'
     subst hop'
     cases dst with
     | none=>cases ht
     | some d =>
      simp only at ht
      rw [op_load_t ht] at hop
      unfold lodT at hop
      split at hop<;>try (cases hop;done)
      split at hop<;>try (cases hop;done)
      split at hop<;>try (cases hop;done)
      split at hop<;>cases hop
theorem go_drawJ {n id:Nat} {Q:Ex→St→Prop} {k:List It} {ops:Array Oper} {env:List V} {H:Hp} {lk:List (Nat×Nat)} {df:List (V×List V)} {tk:List Tmp} (js:List Nat) (fl:List (Bool×Bool)) (ht:takesOf ops=tk) (hst:seqJ cx.P cx.uq ops tk js 0 [] fl ops.toList=true)
  (h:ojQ cx ops tk (fun s=>go cx n Q k .normal s) [] fl ops.toList ⟨env,H,[],df⟩):go cx n Q (.c (.region id ops true)::k) .normal ⟨env,H,lk,df⟩:=by
 subst ht
 obtain ⟨s',h1,h2⟩:=seq_opsJ (js:=js) _ _ _ _ _ _ ⟨0,H,[],df⟩ [] _ ⟨.nil,fun q hq=>by simp at hq,fun b=>by simp [bit_zero],⟨rfl,rfl,rfl⟩,fun c hc=>by simp at hc,fun c hc=>by simp at hc,fun q hq=>by simp at hq⟩ hst (fun q hq=>by simp at hq) h
 simp only [go]
 exact ⟨.normal,s',by simp only [Cx.code,Cx.draw];exact h1,h2⟩
section
variable {P:St→Prop} {pend:List (Oper×List V×V)} {fl:List (Bool×Bool)} {os:List Oper} {env:List V} {H:Hp} {lk:List (Nat×Nat)} {df:List (V×List V)} {s:St} {dst:Option Tmp} {op:Op} {type:TypeId} {pos:String} {after:Array Edge} {ld hp:Bool}
theorem oj_nil:ojQ cx all takes P pend fl [] s ↔ P s:=by simp [ojQ]
def ojV (cx:Cx) (all:Array Oper) (takes:List Tmp) (P:St→Prop) (pend:List (Oper×List V×V)) (ld hp:Bool) (fl:List (Bool×Bool)) (o:Oper) (env:List V) (os:List Oper):Option (OR×St)→Prop
 | some (.val v,⟨env1,H1,lk1,df1⟩)=>(hp=true→pendOk cx takes ⟨0,H1,lk1,df1⟩ pend)∧ojQ cx all takes P (pendA ld (o,env,v) pend) fl os ⟨putA env1 o.dst v,H1,lk1,df1⟩
 | some (.skip,⟨env1,H1,lk1,df1⟩)=>(hp=true→pendOk cx takes ⟨0,H1,lk1,df1⟩ pend)∧ojQ cx all takes P pend fl os ⟨putA env1 o.dst (.tup []),H1,lk1,df1⟩
 | _=>False
theorem oj_cons:ojQ cx all takes P pend ((ld,hp)::fl) (⟨dst,op,type,pos,after,none⟩::os) ⟨env,H,lk,df⟩ ↔ (ldChk cx ⟨dst,op,type,pos,after,none⟩ env lk=true∧ojV cx all takes P pend ld hp fl ⟨dst,op,type,pos,after,none⟩ env os (cx.op takes ⟨dst,op,type,pos,after,none⟩ env H lk df)):=by
 simp only [ojQ,wantedA]
 cases cx.op takes ⟨dst,op,type,pos,after,none⟩ env H lk df with
 | none=>simp [ojV]
 | some r =>
  obtain ⟨r,s1⟩:=r
  obtain ⟨env1,H1,lk1,df1⟩:=s1
  cases r<;>simp [ojV]
theorem ojV_val {o:Oper} {v:V} {env1:List V} {H1:Hp} {lk1:List (Nat×Nat)} {df1:List (V×List V)}:ojV cx all takes P pend ld false fl o env os (some (.val v,⟨env1,H1,lk1,df1⟩)) ↔ ojQ cx all takes P (pendA ld (o,env,v) pend) fl os ⟨putA env1 o.dst v,H1,lk1,df1⟩:=by simp [ojV]
theorem ojV_valh {o:Oper} {v:V} {env1:List V} {H1:Hp} {lk1:List (Nat×Nat)} {df1:List (V×List V)}:ojV cx all takes P pend ld true fl o env os (some (.val v,⟨env1,H1,lk1,df1⟩)) ↔ pendOk cx takes ⟨0,H1,lk1,df1⟩ pend∧ojQ cx all takes P (pendA ld (o,env,v) pend) fl os ⟨putA env1 o.dst v,H1,lk1,df1⟩:=by simp [ojV]
theorem ojV_skip {o:Oper} {env1:List V} {H1:Hp} {lk1:List (Nat×Nat)} {df1:List (V×List V)}:ojV cx all takes P pend ld hp fl o env os (some (.skip,⟨env1,H1,lk1,df1⟩)) ↔ (hp=true→pendOk cx takes ⟨0,H1,lk1,df1⟩ pend)∧ojQ cx all takes P pend fl os ⟨putA env1 o.dst (.tup []),H1,lk1,df1⟩:=by simp [ojV]
theorem pendA_f {p:Oper×List V×V} {ps:List (Oper×List V×V)}:pendA false p ps=ps:=rfl
theorem pendA_t {p:Oper×List V×V} {ps:List (Oper×List V×V)}:pendA true p ps=p::ps:=rfl
theorem valC_of {D:Nat} {o:Oper} {v:V} {s1:St} (h:cx.op takes o env H lk df=some (.val v,s1)):cx.valC takes o env v ⟨D,H,lk,df⟩=true:=by simp [Cx.valC,Cx.runC,h,V.same_refl]
end
theorem go_env {n:Nat} {Q:Ex→St→Prop} {k:List It} {env:List V} {H:Hp} {lk:List (Nat×Nat)} {df:List (V×List V)} (F:List V→Prop) (h:F env) (h2:∀ env,F env→go cx n Q k .normal ⟨env,H,lk,df⟩):go cx n Q k .normal ⟨env,H,lk,df⟩:=h2 env h
theorem bq43:Nat.beq 4 3=false:=rfl
theorem bq53:Nat.beq 5 3=false:=rfl
theorem bq54:Nat.beq 5 4=false:=rfl
theorem bq24:Nat.beq 2 4=false:=rfl
theorem bq25:Nat.beq 2 5=false:=rfl
theorem bq12:Nat.beq 1 2=false:=rfl
theorem go_gen {n:Nat} {Q:Ex→St→Prop} {k:List It} {s:St} (F:St→Prop) (h:F s) (h2:∀ s,F s→go cx n Q k .normal s):go cx n Q k .normal s:=h2 s h
theorem pend_load {D:Nat} {env:List V} {H:Hp} {lk:List (Nat×Nat)} {df:List (V×List V)} {d:Tmp} {t type:TypeId} {a:Operand} {pos:String} {after:Array Edge} {guard:Option (Nat×Bool)} {p v0 v:V} (h1:peek env a=some p) (h2:loadA cx.P H cx.gl t p=some v0) (h3:clr v0=v):pendOk cx [] ⟨D,H,lk,df⟩ [(⟨some d,.load t a,type,pos,after,guard⟩,env,v)]:=by
 refine ⟨?_,trivial⟩
 show cx.valC [] ⟨some d,.load t a,type,pos,after,guard⟩ env v ⟨D,H,lk,df⟩=true
 have:cx.op [] ⟨some d,.load t a,type,pos,after,guard⟩ env H lk df=some (.val v,⟨env,H,lk,df⟩):=by
  rw [op_load0,h1,Option.bind_some,h2,Option.map_some,h3,rdQ_some]
 exact valC_of this
end Go.Vm
namespace Go.Vm
open Go
variable {cx:Cx} {takes:List Tmp} {dst:Option Tmp} {type:TypeId} {pos:String} {after:Array Edge} {guard:Option (Nat×Bool)} {env:List V} {H:Hp} {lk:List (Nat×Nat)} {df:List (V×List V)}
theorem op_bsl2 {t e n:Nat} {x y:Operand} {z v u:V} (h1:cx.P.underlying t=some (.slice e)) (h2:szOf cx.P e=some n) (h3:zeroA cx.P e=some z) (hn:n≠0∧2 * n≤16777216) (hz:z.cells.length=n) (hz':okC z=true) (hx:peek env x=some v) (hy:peek env y=some u) (hv:okC v=true) (hu:okC u=true) (hvl:v.cells.length=n) (hul:u.cells.length=n) :
  cx.op takes ⟨dst,.buildSlice t 2 #[(0,x),(1,y)],type,pos,after,guard⟩ env H lk df=some (.val (.sl n [v,u] (.yes e)),⟨env,H,lk,df⟩):=by
 have e1:Nat.beq n 0=false:=by
  cases n with
  | zero=>exact absurd rfl hn.1
  | succ n=>rfl
 have e2:Nat.blt 16777216 (2 * n)=false:=by
  cases hb:Nat.blt 16777216 (2 * n) with
  | false=>rfl
  | true=>have:=Nat.le_of_ble_eq_true hb;omega
 simp [Cx.op,readA,h1,h2,h3,hz,hz',rowA,hx,hy,hv,hu,hvl,hul,fV_eq,fSet_eq,Nat.blt,List.replicate]
 rw [if_neg (by omega)]
theorem op_make {t e n k:Nat} {lo co:Operand} {z:V} {i:TypeInfo} (h1:cx.P.underlying t=some (.slice e)) (h2:szOf cx.P e=some n) (h3:zeroA cx.P e=some z) (h4:cx.P.info? e=some i) (hn:n≠0) (hz:z.cells.length=n) (hz':okC z=true) (hl:peek env lo=some (.int .i64 (k:Int))) (hc:peek env co=some (.int .i64 (k:Int))) (hr:roomA k i.bytes=true) (hk:k≠0) :
  cx.op takes ⟨dst,.makeSlice t lo co,type,pos,after,guard⟩ env H lk df=some (.val (.sr H.blks.length 0 k),⟨env,H.push (.cells (List.replicate k z.cells).flatten e),lk,df⟩):=by
 have e1:Nat.beq n 0=false:=by
  cases n with
  | zero=>exact absurd rfl hn
  | succ n=>rfl
 have e2:¬ ((k:Int)<0):=by omega
 have e3:¬ ((k:Int)=0):=by omega
 simp [Cx.op,h1,h2,h3,h4,e1,e2,hz,hz',hl,hc,hr,hk,fCs_eq,pushK_eq]
theorem op_copy_sr {t u e b off len:Nat} {x y:Operand} {ys cs:List V} {ty:TypeId} {o:Own} (h1:cx.P.underlying t=some (.slice e)) (h2:szOf cx.P e=some 1) (hx:peek env x=some (.sr b off len)) (hy:peek env y=some (.sl 1 ys o)) (hb:H.get b=some (.cells cs ty)) (hl:ys.length=len) (hf:(flatV ys).map clr=ys) (hr:off+len≤cs.length) (hm:mayA lk b off len (cs.drop off)=true) :
  cx.op takes ⟨dst,.call ⟨.builtin .copy,#[x,y],#[t,u]⟩,type,pos,after,guard⟩ env H lk df=some (.val (.int .i64 (len:Nat)),⟨env,(H.set b (.cells (storeCells cs off ys) ty)).edge b (.tup ys),lk,df⟩):=by
 have e1:ys.take len=ys:=by rw [← hl,List.take_length]
 have e2:Nat.ble (off+len) cs.length=true:=Nat.ble_eq_true_of_le hr
 have e3:(flatV ys).length=len:=by rw [← hl,← congrArg List.length hf,List.length_map]
 simp [Cx.op,Cx.copyA,h1,h2,hx,hy,elemsA,hb,hl,e1,hf,hm,fCs_eq,setK_eq,e3,hr]
end Go.Vm
namespace Go.Vm.Sx
open Go Go.Vm
def lv (sz:Nat) (nl:Bool) (l:List V):V:=if nl && l.isEmpty then .snil else .sl sz l .no
theorem lv_cases (sz:Nat) (nl:Bool) (l:List V):lv sz nl l=.sl sz l .no∨(l=[]∧lv sz nl l=.snil):=by
 unfold lv
 split
 ·rename_i h
  rw [Bool.and_eq_true] at h
  exact .inr ⟨by simpa using h.2,rfl⟩
 ·exact .inl rfl
theorem clr_lv {sz:Nat} {nl:Bool} {l:List V}:clr (lv sz nl l)=lv sz nl l:=by
 rcases lv_cases sz nl l with h|⟨_,h⟩<;>rw [h]<;>rfl
theorem top_lv {sz:Nat} {nl:Bool} {l:List V}:(lv sz nl l).top=tops l:=by
 rcases lv_cases sz nl l with h|⟨hl,h⟩<;>rw [h]
 ·rfl
 ·rw [hl];rfl
theorem k_lv (sz:Nat) (nl:Bool) (l:List V):kOk (.sl sz) (lv sz nl l)=true:=by
 rcases lv_cases sz nl l with h|⟨_,h⟩<;>rw [h]<;>simp [kOk,locked]
theorem vL_lv (sz:Nat) (nl:Bool) (l:List V):vL (lv sz nl l)=l:=by
 rcases lv_cases sz nl l with h|⟨h0,h⟩<;>rw [h]
 ·simp [vL]
 ·rw [h0];simp [vL]
def acc (sz:Nat) (e:TypeId) (l:List V):V:=match l with|[]=>.snil|_=>.sl sz l (.yes e)
theorem k_acc (sz:Nat) (e:TypeId) (l:List V):kOk (.sl sz) (acc sz e l)=true:=by cases l<;>simp [acc,kOk,locked]
theorem acc_vL (sz:Nat) (e:TypeId) (l:List V):vL (acc sz e l)=l:=by cases l<;>simp [acc,vL]
theorem acc_own (sz:Nat) (e:TypeId) (l:List V):ownV e (acc sz e l)=true:=by cases l<;>simp [acc,ownV]
theorem acc_clr (sz:Nat) (e:TypeId) (l:List V):clr (acc sz e l)=lv sz true l:=by cases l<;>simp [acc,clr,lv]
theorem acc_snoc (sz:Nat) (e:TypeId) (l:List V) (a:V):V.sl sz (l++[a]) (.yes e)=acc sz e (l++[a]):=by cases l<;>simp [acc]
theorem roomA_of {n b:Nat} (h1:n≤140737488355328) (h2:n * b≤140737488355328):roomA n b=true:=by
 simp only [roomA,Bool.and_eq_true]
 exact ⟨Nat.ble_eq_true_of_le h1,Nat.ble_eq_true_of_le h2⟩
theorem wrap64 {x:Int} (h1:-9223372036854775808≤x) (h2:x≤9223372036854775807):IntKind.i64.wrap x=x:=by
 simp only [IntKind.wrap,IntKind.bits,IntKind.signed]
 simp
 omega
theorem wrapS {i:Nat} (h:i<9223372036854775807):IntKind.i64.wrap ((i:Int)+1)=((i+1:Nat):Int):=by
 rw [wrap64 (by omega) (by omega)];omega
section
variable {pc:FuncId→List AV→List (List V×TypeId)→Option (V×List (List V))} {gl:Nat→Nat→Option V} {N:Nat} {ρ:List V} {body:Tree}
end
end Go.Vm.Sx
namespace Go.Vm
open Go
variable {cx:Cx} {all:Array Oper} {takes:List Tmp}
theorem go_drawR {n id:Nat} {Q:Ex→St→Prop} {k:List It} {ops:Array Oper} {env:List V} {H:Hp} {lk:List (Nat×Nat)} {df:List (V×List V)} {tk:List Tmp} (ht:takesOf ops=tk) (h:∃ s',cx.opsD ops tk 0 [] [⟨0,H,[],df⟩] ops.toList ⟨env,H,[],df⟩=some (.normal,s')∧go cx n Q k .normal s'):go cx n Q (.c (.region id ops true)::k) .normal ⟨env,H,lk,df⟩:=by
 subst ht
 obtain ⟨s',h1,h2⟩:=h
 simp only [go]
 exact ⟨.normal,s',by simp only [Cx.code,Cx.draw];exact h1,h2⟩
section
variable {i m:Nat} {rs:List Rec} {c0:Cfg} {cs cs':List Cfg} {o:Oper} {os:List Oper} {env env1:List V} {H H1:Hp} {lk lk1:List (Nat×Nat)} {df df1:List (V×List V)} {v:V} {r:Option (Ex×St)}
def recOf (all:Array Oper) (takes:List Tmp) (i:Nat) (o:Oper) (m:Nat) (hp free:Bool) (env:List V) (v:V):Rec:=⟨i,o,m,tmM takes o,Nat.lor (tmM takes o) (lkM all o),hp,free,env,v⟩
theorem opsD_free (hm:maskOf rs o.after.toList=some m) (hg:wantedA all o env=some true) (hop:cx.op takes o env H lk df=some (.val v,⟨env1,H1,lk1,df1⟩)) (h1:heapOp cx.P cx.uq takes o=false) (h2:looksH cx.P cx.uq o=false)
  (hs:allA (slotsOk (recOf all takes i o m false true env v)) rs=true) (k:cx.opsD all takes (i+1) (recOf all takes i o m false true env v::rs) (c0::cs) os ⟨putA env1 o.dst v,H1,lk1,df1⟩=r):cx.opsD all takes i rs (c0::cs) (o::os) ⟨env,H,lk,df⟩=r:=by
 simp only [recOf] at hs k
 simp only [Cx.opsD,hm,fNat_eq,hg,hop,fV_eq,putK_eq,h1,h2,Bool.not_false,hs]
 simp only [Cx.cfgsK,Bool.true_or]
 exact k
theorem opsD_look (hm:maskOf rs o.after.toList=some m) (hg:wantedA all o env=some true) (hop:cx.op takes o env H lk df=some (.val v,⟨env1,H1,lk1,df1⟩)) (h1:heapOp cx.P cx.uq takes o=false) (h2:looksH cx.P cx.uq o=true)
  (hs:allA (slotsOk (recOf all takes i o m false false env v)) rs=true) (hc:allA (fun c=>match subM (Nat.land m (chgM rs)) c.D with|true=>cx.valC takes o env v c|false=>true) cs=true)
  (k:cx.opsD all takes (i+1) (recOf all takes i o m false false env v::rs) (c0::cs) os ⟨putA env1 o.dst v,H1,lk1,df1⟩=r):cx.opsD all takes i rs (c0::cs) (o::os) ⟨env,H,lk,df⟩=r:=by
 simp only [recOf] at hs k
 simp only [Cx.opsD,hm,fNat_eq,hg,hop,fV_eq,putK_eq,h1,h2,Bool.not_true,hs]
 simp only [Cx.cfgsK,Bool.false_or]
 split
 ·exact k
 ·rename_i h
  exact absurd (hc.symm.trans h) (by decide)
theorem opsD_heap (hm:maskOf rs o.after.toList=some m) (hg:wantedA all o env=some true) (hop:cx.op takes o env H lk df=some (.val v,⟨env1,H1,lk1,df1⟩)) (h1:heapOp cx.P cx.uq takes o=true) (h2:looksH cx.P cx.uq o=true)
  (hs:allA (slotsOk (recOf all takes i o m true false env v)) rs=true) (hc:∀ K,cx.cfgsK takes rs (recOf all takes i o m true false env v) c0 ⟨Nat.lor c0.D (Nat.pow 2 i),H1,lk1,df1⟩ cs K=K cs')
  (k:cx.opsD all takes (i+1) (recOf all takes i o m true false env v::rs) cs' os ⟨putA env1 o.dst v,H1,lk1,df1⟩=r):cx.opsD all takes i rs (c0::cs) (o::os) ⟨env,H,lk,df⟩=r:=by
 have hc':=fun K=>hc K
 simp only [recOf] at hs k hc'
 simp only [Cx.opsD,hm,fNat_eq,hg,hop,fV_eq,putK_eq,h1,h2,Bool.not_true,hs]
 rw [hc']
 exact k
theorem opsD_store (hm:maskOf rs o.after.toList=some m) (hg:wantedA all o env=some true) (hop:cx.op takes o env H lk df=some (.skip,⟨env1,H1,lk1,df1⟩)) (h1:heapOp cx.P cx.uq takes o=true)
  (hs:allA (slotsOk (recOf all takes i o m true false env (.tup []))) rs=true) (hc:∀ K,cx.cfgsK takes rs (recOf all takes i o m true false env (.tup [])) c0 ⟨Nat.lor c0.D (Nat.pow 2 i),H1,lk1,df1⟩ cs K=K cs')
  (k:cx.opsD all takes (i+1) (recOf all takes i o m true false env (.tup [])::rs) cs' os ⟨putA env1 o.dst (.tup []),H1,lk1,df1⟩=r):cx.opsD all takes i rs (c0::cs) (o::os) ⟨env,H,lk,df⟩=r:=by
 have hc':=fun K=>hc K
 simp only [recOf] at hs k hc'
 simp only [Cx.opsD,hm,fNat_eq,hg,hop,fV_eq,putK_eq,h1,hs]
 rw [hc']
 exact k
theorem opsD_nil {s:St}:cx.opsD all takes i rs cs [] s=some (.normal,s):=by simp only [Cx.opsD]
theorem cfgs_last {R:Rec} {c1:Cfg} {k:List Cfg→Option (Ex×St)} (hp:R.hp=true) (hrun:∀ c∈cs,subM (Nat.land R.m (chgM rs)) c.D=false)
  (hnew:cx.newOk takes rs (chgM rs) R (c1::c0::cs) c1=true):cx.cfgsK takes rs R c0 c1 cs k=k (c1::c0::cs):=by
 have hr:∀ l:List Cfg,(∀ c∈l,subM (Nat.land R.m (chgM rs)) c.D=false)→cx.runAll takes R.o R.env R.v (Nat.land R.m (chgM rs)) (Nat.pow 2 R.idx) l=some []:=by
  intro l
  induction l with
  | nil=>intro _;rfl
  | cons c l ih=>intro h;simp only [Cx.runAll,h c (List.mem_cons_self ..)];exact ih fun c hc=>h c (List.mem_cons_of_mem _ hc)
 unfold Cx.cfgsK
 rw [hp]
 simp only [hr cs hrun,List.cons_append,List.nil_append,allA,hnew]
end
theorem sameBs_refl:∀ (l:List Blk),sameBs l l=true
 | []=>rfl
 | a::l=>by
  have h:sameBlk a a=true:=by
   cases a with
   | cells a t=>simp [sameBlk,sames_refl]
   | map a =>
    have:∀ (l:List (V×V)),sameP l l=true:=by
     intro l
     induction l with
     | nil=>rfl
     | cons x l ih=>obtain ⟨a,b⟩:=x;simp [sameP,V.same_refl,ih]
    simp [sameBlk,this]
   | iter a i =>
    have:∀ (l:List Nat),eqL l l=true:=by
     intro l
     induction l with
     | nil=>rfl
     | cons x l ih=>simp [eqL,ih]
    simp [sameBlk,this]
   | ul a b c d=>simp [sameBlk,sames_refl]
  simp [sameBs,h,sameBs_refl l]
theorem sameNN_refl:∀ (l:List (Nat×Nat)),sameNN l l=true
 | []=>rfl
 | (a,b)::l=>by simp [sameNN,sameNN_refl l]
theorem sameDf_refl:∀ (l:List (V×List V)),sameDf l l=true
 | []=>rfl
 | (a,b)::l=>by simp [sameDf,V.same_refl,sames_refl,sameDf_refl l]
theorem sameCfg_of {D D':Nat} {H:Hp} {lk:List (Nat×Nat)} {df:List (V×List V)}:sameCfg ⟨D,H,lk,df⟩ ⟨D',H,lk,df⟩=true:=by
 simp [sameCfg,sameNN_refl,sameDf_refl,sameBs_refl]
theorem cfgs_call {r2 r1 r0 R:Rec} {c0 c1 d c2 e:Cfg} {k:List Cfg→Option (Ex×St)} (hp:R.hp=true) (h2:r2.hp=false) (h2f:r2.free=true) (h0:r0.hp=false) (h0f:r0.free=true) (h1:r1.hp=true)
  (hs:subM (Nat.land R.m (chgM [r2,r1,r0])) d.D=true) (hr:cx.runC takes R.o R.env d (Nat.lor d.D (Nat.pow 2 R.idx))=some (R.v,c2)) (hb1:bit c1.D r1.idx=true) (hb2:bit c2.D r1.idx=false)
  (hq:cx.runC takes r1.o r1.env c2 0=some (r1.v,e)) (hf:findCfg (Nat.lor c2.D (Nat.pow 2 r1.idx)) [c1,c2,c0,d]=some c1) (he:sameCfg e c1=true) :
  cx.cfgsK takes [r2,r1,r0] R c0 c1 [d] k=k [c1,c2,c0,d]:=by
 have hn1:cx.newOk takes [r2,r1,r0] (chgM [r2,r1,r0]) R [c1,c2,c0,d] c1=true:=by
  unfold Cx.newOk
  refine allA_of fun q hq=>?_
  split
  ·rfl
  ·rcases List.mem_cons.1 hq with rfl|hq
   ·simp [h2,h2f]
   ·rcases List.mem_cons.1 hq with rfl|hq
    ·simp [h1,hb1]
    ·obtain rfl:q=r0:=by simpa using hq
     simp [h0,h0f]
 have hn2:cx.newOk takes [r2,r1,r0] (chgM [r2,r1,r0]) R [c1,c2,c0,d] c2=true:=by
  unfold Cx.newOk
  refine allA_of fun q hq'=>?_
  split
  ·rfl
  ·rcases List.mem_cons.1 hq' with rfl|hq'
   ·simp [h2,h2f]
   ·rcases List.mem_cons.1 hq' with rfl|hq'
    ·simp only [h1,hb2,hq,hf,V.same_refl,he,Bool.and_self]
    ·obtain rfl:q=r0:=by simpa using hq'
     simp [h0,h0f]
 unfold Cx.cfgsK
 rw [hp]
 simp only [Cx.runAll,hs,hr,V.same_refl,List.cons_append,List.nil_append,allA,hn1,hn2]
theorem cfgs_last' {rs:List Rec} {cs:List Cfg} {R:Rec} {c0 c1 c1':Cfg} {k:List Cfg→Option (Ex×St)} (e:c1=c1') (hp:R.hp=true) (hrun:∀ c∈cs,subM (Nat.land R.m (chgM rs)) c.D=false)
  (hnew:cx.newOk takes rs (chgM rs) R (c1'::c0::cs) c1'=true):cx.cfgsK takes rs R c0 c1 cs k=k (c1'::c0::cs):=by
 subst e;exact cfgs_last hp hrun hnew
theorem cfgs_call' {r2 r1 r0 R:Rec} {c0 c1 c1' d c2 e:Cfg} {k:List Cfg→Option (Ex×St)} (e1:c1=c1') (hp:R.hp=true) (h2:r2.hp=false) (h2f:r2.free=true) (h0:r0.hp=false) (h0f:r0.free=true) (h1:r1.hp=true)
  (hs:subM (Nat.land R.m (chgM [r2,r1,r0])) d.D=true) (hr:cx.runC takes R.o R.env d (Nat.lor d.D (Nat.pow 2 R.idx))=some (R.v,c2)) (hb1:bit c1'.D r1.idx=true) (hb2:bit c2.D r1.idx=false)
  (hq:cx.runC takes r1.o r1.env c2 0=some (r1.v,e)) (hf:findCfg (Nat.lor c2.D (Nat.pow 2 r1.idx)) [c1',c2,c0,d]=some c1') (he:sameCfg e c1'=true) :
  cx.cfgsK takes [r2,r1,r0] R c0 c1 [d] k=k [c1',c2,c0,d]:=by
 subst e1;exact cfgs_call hp h2 h2f h0 h0f h1 hs hr hb1 hb2 hq hf he
end Go.Vm
namespace Go.Vm
open Go
theorem callFunc_extern {P:Program} {f:FuncId} {fn:Func} {e:Array Value→Sem Value} {args:Array Value} {w w':World} {v:Value} (hf:P.funcs[f]?=some fn) (hname:(fn.name == "runtime.NumGoroutine")=false) (hb:fn.body=none) (hn:Extern.findNext fn=none) (he:Extern.find fn=some e)
  (hr:(e args).run P w=.ok v w'):(callFunc f args).run P w=.ok (.value v) w':=by
 unfold callFunc
 have hne:¬ fn.name= "runtime.NumGoroutine":=by simpa using hname
 simp [hf,hne,hb,hn,he,hr]
theorem idx_eq:∀ (s:List Nat) (c:Nat),(∀ b∈s,b<256)→c<256→Lib.indexByte (s.map UInt8.ofNat) c.toUInt8=(match s.findIdx? (fun (b:Nat)=>Nat.beq b c) with|some i=>(i:Int)|none=>-1)
 | [],c,_,_=>rfl
 | b::s,c,hs,hc=>by
  have ih:=idx_eq s c (fun x hx=>hs x (List.mem_cons_of_mem _ hx)) hc
  have hb:=hs b (List.mem_cons_self ..)
  simp only [List.map_cons,Lib.indexByte,List.findIdx?_cons]
  have e:(UInt8.ofNat b == c.toUInt8)=Nat.beq b c:=by
   cases h:Nat.beq b c with
   | true =>
    have:=Nat.eq_of_beq_eq_true h
    subst this
    simp
   | false =>
    have:=Nat.ne_of_beq_eq_false h
    rw [beq_eq_false_iff_ne]
    intro he
    have:=congrArg UInt8.toNat he
    simp at this
    omega
  rw [e,ih]
  cases Nat.beq b c with
  | true=>rfl
  | false =>
   simp only [Bool.false_eq_true,if_false]
   cases hfi:s.findIdx? (fun (b:Nat)=>Nat.beq b c) with
   | none=>simp
   | some i =>
    simp only [Option.map_some]
    have:((i:Int) == -1)=false:=by rw [beq_eq_false_iff_ne];omega
    rw [this]
    simp
theorem primOk_of {P:Program} {k:FuncId} {fk:Func} (huniq:(List.range P.funcs.size).all (fun f=>match P.funcs[f]? with|some fn=>fn.name != "internal/bytealg.IndexByteString" || f == k|none=>true)=true)
  (hfk:P.funcs[k]?=some fk) (hname:(fk.name == "runtime.NumGoroutine")=false) (hn:Extern.findNext fk=none) (he:Extern.find fk=some Extern.BytealgIndexByte.indexByte):PrimOk P:=by
 intro f fn args v hf hb hp g n cargs w ha
 unfold primA at hp
 split at hp<;>try (cases hp;done)
 rename_i nm l s c hnm
 split at hp<;>try (cases hp;done)
 rename_i hc
 simp only [Option.some.injEq] at hp
 have hlt:f<P.funcs.size:=(Array.getElem?_eq_some_iff.1 hf).1
 have h1:=List.all_eq_true.1 huniq f (List.mem_range.2 hlt)
 rw [hf] at h1
 have hfk':f=k:=by
  simp only [hnm,bne_self_eq_false,Bool.false_or] at h1
  simpa using h1
 subst hfk'
 rw [hf] at hfk
 cases hfk
 obtain ⟨al,ar,_,_⟩:=ha
 match cargs,al,ar with
 | ⟨[c0,c1]⟩,_,ar =>
  have r0:=ar 0 _ c0 rfl rfl
  have r1:=ar 1 _ c1 rfl rfl
  cases r1
  have hs:∀ b∈s,b<256:=by cases r0;assumption
  cases r0
  refine ⟨_,callFunc_extern hf hname hb hn he (Lib.run_indexByteString (bytes s) c w),?_,by rw [← hp];rfl,fun _ _=>by rw [← hp];trivial⟩
  have e1:(bytes s).data.toList=s.map UInt8.ofNat:=by simp [bytes]
  rw [e1,idx_eq s c.toNat hs (by omega),← hp]
  exact .int _ _
 | ⟨[]⟩,al,_=>simp at al
 | ⟨[_]⟩,al,_=>simp at al
 | ⟨_::_::_::_⟩,al,_=>simp at al
def numB (P:Program):Bool:=P.funcs.toList.all fun fn=>!(fn.name == "runtime.NumGoroutine")
theorem numOk_of {P:Program} (h:numB P=true):NumOk P:=fun f fn hf=>by
 have:=List.all_eq_true.1 h fn (by
  have:=Array.mem_of_getElem? hf
  simpa using this)
 simpa using this
end Go.Vm
namespace Go.Vm
open Go Go.ChangeShapes Go.WideShapes Go.ChangeAt Go.RowKit
end Go.Vm
namespace Go.Vm
open Go
def Gh.bare (g:Gh):Gh:={ g with own:=fun _=>none }
def Gh.over (n:Nat) (g g':Gh):Gh :=
 {M:=fun c o=>if c<n then g.M c o else g'.M c o,blk:=g.blk,obj:=g.obj,own:=fun c=>if c<n then g.own c else g'.own c,lk:=g.lk,hdr:=g.hdr }
theorem cell_lt_heap {w:World} {c o:Nat} {v:Value} (h:w.cell? ⟨c,o,none⟩=some v):c<w.heap.size:=by
 rcases Nat.lt_or_ge c w.heap.size with hc|hc
 ·exact hc
 ·have:w.heap[c]?=none:=Array.getElem?_eq_none hc
  simp [World.cell?,this] at h
variable {P:Program} {gl:Gl} {d:Nat} {H:Hp} {g g':Gh} {w w':World}
theorem bare_wok {bs:List Blk} (hw:Wok g bs w):Wok g.bare [] w :=
 {mem:=hw.mem,lt:=fun b h=>by simp at h,inj:=fun b _ h=>by simp at h,apart:=fun b h=>by simp at h,ownlt:=(fun c l h=>by cases h),unowned:=fun b h=>by simp at h,ok:=fun b x h=>by simp at h,tops:=fun b x h=>by simp at h,laid:=fun c hc=>⟨(hw.laid c hc).1,rfl,fun b hb=>by simp at hb⟩ }
theorem bare_le:Gh.Le 0 g g.bare:=⟨fun _ _ _ h=>h,fun b h=>by omega,rfl,fun _ _ _ h=>by omega⟩
theorem bare_old {dd:Nat} (hf:Fr dd [] g.bare w g' w') {c:Nat} (hc:c<w.heap.size):w'.heap[c]?=w.heap[c]?∧g'.own c=none∧∀ o,g'.M c o=g.M c o:=by
 have hp:Prot dd ([]:List Blk).length g.bare w c:=⟨hc,fun b hb=>by simp at hb,.inl rfl⟩
 exact ⟨hf.heap c hp,hf.own c hp,hf.M c hp⟩
theorem over_new {dd:Nat} (hf:Fr dd [] g.bare w g' w'):Gh.Le 0 g' (Gh.over w.heap.size g g'):=by
 refine ⟨fun c o v h=>?_,fun b h=>by omega,hf.le.obj.symm,fun _ _ _ h=>by omega⟩
 simp only [Gh.over]
 split
 ·rename_i hc
  rw [← (bare_old hf hc).2.2 o];exact h
 ·exact h
theorem over_same {n dd:Nat} {bs:List Blk} (hw:Wok g bs w) (hf:Fr dd [] g.bare w g' w'):Same d none none n g w (Gh.over w.heap.size g g') w':=by
 refine ⟨⟨fun c o v h=>?_,fun _ _=>rfl,rfl,fun _ _ _ _ h=>h⟩,fun c hc _ _=>(bare_old hf hc).1,fun c hc _=>by simp [Gh.over,hc],fun c hc _ o=>by simp [Gh.over,hc],hf.size,fun _ _ _=>rfl,fun _ h=>(by cases h),fun _ h=>(by cases h),fun _ _ _ _=>rfl,hf.os,hf.tape,hf.output⟩
 have:=cell_lt_heap (hw.mem c o v h)
 simp [Gh.over,this,h]
theorem over_after {dd:Nat} (hw:Wok g H.blks w) {bs':List Blk} (hw':Wok g' bs' w') (hf:Fr dd [] g.bare w g' w'):After d H g w H (Gh.over w.heap.size g g') w' where
 wok :=
  {mem:=fun c o v h=>by
    simp only [Gh.over] at h
    split at h
    ·rename_i hc
     have h0:=hw.mem c o v h
     simp only [World.cell?,(bare_old hf hc).1] at h0 ⊢
     exact h0
    ·exact hw'.mem c o v h
   lt:=fun b h=>Nat.lt_of_lt_of_le (hw.lt b h) hf.size
   inj:=hw.inj
   apart:=fun b h o=>by simp only [Gh.over,hw.lt b h,if_true];exact hw.apart b h o
   ownlt:=fun c l h=>by
    simp only [Gh.over] at h
    split at h
    ·exact Nat.lt_of_lt_of_le (hw.ownlt c l h) hf.size
    ·exact hw'.ownlt c l h
   unowned:=fun b h=>by simp only [Gh.over,hw.lt b h,if_true];exact hw.unowned b h
   ok:=fun b x hx=>by
    have hlt:b<H.blks.length:=(List.getElem?_eq_some_iff.1 hx).1
    exact BlkOk.same (d:=d) (over_same hw hf) (by simp) hlt (hw.lt b hlt) (hw.unowned b hlt) (fun _ h=>by cases h) (fun c h1 h2=>by omega) (hw.tops b x hx) (hw.ok b x hx)
   tops:=hw.tops
   laid:=fun c hc=>by
    obtain ⟨⟨cs,t,h1⟩,h2,h3⟩:=hw.laid c hc
    have hlt:=(Array.getElem?_eq_some_iff.1 h1).1
    exact ⟨⟨cs,t,by rw [(bare_old hf hlt).1];exact h1⟩,by simp only [Gh.over,hlt,if_true];exact h2,h3⟩ }
 fr:=⟨(over_same (d:=d) (n:=H.blks.length) hw hf).le,fun c hc=>(bare_old hf hc.1).1,fun c hc=>by simp [Gh.over,hc.1],fun c hc o=>by simp [Gh.over,hc.1],hf.size,fun _ _ _=>rfl,hf.os,hf.tape,hf.output⟩
 len:=Nat.le_refl _
 newer:=fun b h1 h2=>by omega
 edges:=fun b x hx=>.inr (.inr ⟨x,hx,Nat.le_refl _⟩)
 keep:=fun _ h=>h
 lks:=fun _ _ h=>h
theorem over_own {dd:Nat} (hw:Wok g H.blks w) (hf:Fr dd [] g.bare w g' w') {n:Nat} {l:Loc} {v:V} {cv:Value} (h:OwnV g' n w' l v cv):OwnV (Gh.over w.heap.size g g') H.blks.length w' l v cv:=by
 unfold OwnV at *
 split
 ·rename_i sz xs e
  have h':OwnAt g' n w' l e sz xs.length cv:=h
  obtain ⟨vs,h1,h2⟩:=h'
  refine ⟨vs,h1,fun c hc=>?_⟩
  have hge:¬ c<w.heap.size:=fun hlt=>by
   have:=(h2 c hc).1
   rw [(bare_old hf hlt).2.1] at this
   cases this
  refine ⟨by simp only [Gh.over,hge,if_false];exact (h2 c hc).1,fun o ho=>by simp only [Gh.over,hge,if_false];exact (h2 c hc).2.1 o ho,fun b hb e=>?_⟩
  have:=hw.lt b hb
  rw [show (Gh.over w.heap.size g g').blk b=g.blk b from rfl] at e
  omega
 ·trivial
theorem hk_pure (hmix:P.follows .mixedOrders=true) (hnum:NumOk P) (hprim:PrimOk P) (hhk:HkOk P gl) {n:Nat} {f:FuncId} {args:List V} {v:V} {H':Hp}
  (hc:callA P gl n f args ⟨[],[]⟩=some (.ret v,H')) (ht:tops args=0) (hv:v.top=0) {cargs:Array Value} {l:Loc} (h1:GlOk P gl g) (h2:Wok g H.blks w) (h3:ArgsOk g H.blks.length args cargs) :
  Calls P f cargs w (CallPost d H g w l (.ret v) H):=by
 refine Calls.mono (callA_sound hmix hnum hprim hhk n f args ⟨[],[]⟩ _ _ hc g.bare w cargs l (h1.le bare_le) (bare_wok h2) ⟨h3.len,fun j x c hx hcv=>(h3.rel j x c hx hcv).le bare_le (Nat.le_trans (top_le_tops (mem_of_get hx)) (by omega)),by simp [ht],h3.no⟩) fun e w' he=>?_
 cases e with
 | returned cv =>
  obtain ⟨v',g',e1,e2,e3,e4,_⟩:=he
  cases e1
  exact ⟨v,_,rfl,over_after h2 e2.wok e2.fr,e3.le (over_new e2.fr) (by omega),over_own h2 e2.fr e4,by omega⟩
 | panicked chain =>
  obtain ⟨v',cv,g',e1,_⟩:=he
  cases e1
 | outgrown=>exact he.elim
abbrev Hooks:=List (FuncId×List V×V)
def hkOf:Hooks→FuncId→List V→Option V
 | [],_,_=>none
 | (f,xs,v)::r,f',ys=>match Nat.beq f' f with
  | true=>match sames ys xs with
   | true=>some v
   | false=>hkOf r f' ys
  | false=>hkOf r f' ys
def HooksOk (P:Program) (g0:Nat→Nat→Option V) (l:Hooks):Prop:=HkOk P { g:=g0,hk:=hkOf l }
theorem hooks_nil {g0:Nat→Nat→Option V}:HooksOk P g0 []:=⟨fun f args v h=>(by cases h),fun n f args H out H' h=>(by cases h)⟩
theorem sames_eq' {a b:List V} (h:sames a b=true):a=b:=by
 have:V.same (.tup a) (.tup b)=true:=h
 have:=V.same_eq this
 cases this;rfl
structure Memo where
 n:Nat
 f:FuncId
 args:List V
 H:Hp
 out:Out
 H':Hp
def sameHp (a b:Hp):Bool:=sameNN a.edges b.edges && sameBs a.blks b.blks
def hk2Of:List Memo→Nat→FuncId→List V→Hp→Option (Out×Hp)
 | [],_,_,_,_=>none
 | m::r,n,f,args,H=>match Nat.beq f m.f with
  | true=>match Nat.ble m.n (n+1) && (sames args m.args && sameHp H m.H) with
   | true=>some (m.out,m.H')
   | false=>hk2Of r n f args H
  | false=>hk2Of r n f args H
def KnownOk (P:Program) (g0:Nat→Nat→Option V) (l:Hooks) (ms:List Memo):Prop:=HkOk P { g:=g0,hk:=hkOf l,hk2:=hk2Of ms }
theorem known_cons (hmix:P.follows .mixedOrders=true) (hnum:NumOk P) (hprim:PrimOk P) {g0:Nat→Nat→Option V} {l:Hooks} {ms:List Memo} (hl:KnownOk P g0 l ms) {n:Nat} {f:FuncId} {args:List V} {v:V} {H':Hp}
  {uq:TypeId→Bool} (hc:callA P { g:=g0,hk:=hkOf l,uq:=uq,hk2:=hk2Of ms } n f args ⟨[],[]⟩=some (.ret v,H')) (ht:tops args=0) (hv:v.top=0):KnownOk P g0 ((f,args,v)::l) ms:=by
 refine ⟨fun f' args' v' h d H g w cargs lc h1 h2 h3=>?_,hl.heap⟩
 simp only [hkOf] at h
 cases hb:Nat.beq f' f with
 | false=>rw [hb] at h;exact hl.pure f' args' v' h d H g w cargs lc h1 h2 h3
 | true =>
  rw [hb] at h
  cases hs:sames args' args with
  | false=>rw [hs] at h;exact hl.pure f' args' v' h d H g w cargs lc h1 h2 h3
  | true =>
   rw [hs] at h
   cases h
   have:=Nat.eq_of_beq_eq_true hb
   subst this
   have:=sames_eq' hs
   subst this
   exact hk_pure (gl:={ g:=g0,hk:=hkOf l,uq:=uq,hk2:=hk2Of ms }) hmix hnum hprim ⟨hl.pure,hl.heap⟩ hc ht hv h1 h2 h3
theorem After.mono {d d':Nat} (h:d≤d') {H H':Hp} {g g':Gh} {w w':World} (hA:After d H g w H' g' w'):After d' H g w H' g' w':={ hA with fr:=hA.fr.mono h }
theorem CallPost.mono {d d':Nat} (h:d≤d') {H H':Hp} {g:Gh} {w w':World} {l:Loc} {out:Out} {e:Ending} (hp:CallPost d H g w l out H' e w'):CallPost d' H g w l out H' e w':=by
 cases e with
 | returned cv =>
  obtain ⟨v,g',h1,h2,h3,h4,h5⟩:=hp
  exact ⟨v,g',h1,h2.mono h,h3,h4,h5⟩
 | panicked chain =>
  obtain ⟨v,cv,g',h1,h2,h3,h4⟩:=hp
  exact ⟨v,cv,g',h1,h2,h3.mono h,h4⟩
 | outgrown=>exact hp.elim
theorem hooks_cons (hmix:P.follows .mixedOrders=true) (hnum:NumOk P) (hprim:PrimOk P) {g0:Nat→Nat→Option V} {l:Hooks} (hl:HooksOk P g0 l) {n:Nat} {f:FuncId} {args:List V} {v:V} {H':Hp}
  {uq:TypeId→Bool} (hc:callA P { g:=g0,hk:=hkOf l,uq:=uq } n f args ⟨[],[]⟩=some (.ret v,H')) (ht:tops args=0) (hv:v.top=0):HooksOk P g0 ((f,args,v)::l) :=
 known_cons (ms:=[]) hmix hnum hprim hl hc ht hv
end Go.Vm
namespace Go.Vm
open Go
def Gh.ice (n:Nat) (g:Gh) (w':World):Gh :=
 {M:=fun c o=>if c<n then g.M c o else w'.cell? ⟨c,o,none⟩,blk:=g.blk,obj:=g.obj,own:=fun c=>if c<n then g.own c else none,lk:=g.lk,hdr:=g.hdr }
variable {P:Program} {gl:Gl} {d:Nat} {H:Hp} {g g':Gh} {w w':World}
theorem ice_new {dd:Nat} {bs':List Blk} (hw':Wok g' bs' w') (hf:Fr dd [] g.bare w g' w'):Gh.Le 0 g' (Gh.ice w.heap.size g w'):=by
 refine ⟨fun c o v h=>?_,fun b h=>by omega,hf.le.obj.symm,fun _ _ _ h=>by omega⟩
 simp only [Gh.ice]
 split
 ·rename_i hc
  rw [← (bare_old hf hc).2.2 o];exact h
 ·exact hw'.mem c o v h
theorem ice_same {n dd:Nat} {bs:List Blk} (hw:Wok g bs w) (hf:Fr dd [] g.bare w g' w'):Same d none none n g w (Gh.ice w.heap.size g w') w':=by
 refine ⟨⟨fun c o v h=>?_,fun _ _=>rfl,rfl,fun _ _ _ _ h=>h⟩,fun c hc _ _=>(bare_old hf hc).1,fun c hc _=>by simp [Gh.ice,hc],fun c hc _ o=>by simp [Gh.ice,hc],hf.size,fun _ _ _=>rfl,fun _ h=>(by cases h),fun _ h=>(by cases h),fun _ _ _ _=>rfl,hf.os,hf.tape,hf.output⟩
 have:=cell_lt_heap (hw.mem c o v h)
 simp [Gh.ice,this,h]
theorem ice_after {dd:Nat} (hw:Wok g H.blks w) {bs':List Blk} (_hw':Wok g' bs' w') (hf:Fr dd [] g.bare w g' w'):After d H g w H (Gh.ice w.heap.size g w') w' where
 wok :=
  {mem:=fun c o v h=>by
    simp only [Gh.ice] at h
    split at h
    ·rename_i hc
     have h0:=hw.mem c o v h
     simp only [World.cell?,(bare_old hf hc).1] at h0 ⊢
     exact h0
    ·exact h
   lt:=fun b h=>Nat.lt_of_lt_of_le (hw.lt b h) hf.size
   inj:=hw.inj
   apart:=fun b h o=>by simp only [Gh.ice,hw.lt b h,if_true];exact hw.apart b h o
   ownlt:=fun c l h=>by
    simp only [Gh.ice] at h
    split at h
    ·exact Nat.lt_of_lt_of_le (hw.ownlt c l h) hf.size
    ·cases h
   unowned:=fun b h=>by simp only [Gh.ice,hw.lt b h,if_true];exact hw.unowned b h
   ok:=fun b x hx=>by
    have hlt:b<H.blks.length:=(List.getElem?_eq_some_iff.1 hx).1
    exact BlkOk.same (d:=d) (ice_same hw hf) (by simp) hlt (hw.lt b hlt) (hw.unowned b hlt) (fun _ h=>by cases h) (fun c h1 h2=>by omega) (hw.tops b x hx) (hw.ok b x hx)
   tops:=hw.tops
   laid:=fun c hc=>by
    obtain ⟨⟨cs,t,h1⟩,h2,h3⟩:=hw.laid c hc
    have hlt:=(Array.getElem?_eq_some_iff.1 h1).1
    exact ⟨⟨cs,t,by rw [(bare_old hf hlt).1];exact h1⟩,by simp only [Gh.ice,hlt,if_true];exact h2,h3⟩ }
 fr:=⟨(ice_same (d:=d) (n:=H.blks.length) hw hf).le,fun c hc=>(bare_old hf hc.1).1,fun c hc=>by simp [Gh.ice,hc.1],fun c hc o=>by simp [Gh.ice,hc.1],hf.size,fun _ _ _=>rfl,hf.os,hf.tape,hf.output⟩
 len:=Nat.le_refl _
 newer:=fun b h1 h2=>by omega
 edges:=fun b x hx=>.inr (.inr ⟨x,hx,Nat.le_refl _⟩)
 keep:=fun _ h=>h
 lks:=fun _ _ h=>h
inductive Frz (H:Hp):V→V→Prop where
 |same {v:V}:v.top=0→Frz H v v
 |sr {b off len:Nat} {cs:List V} {t:TypeId}:H.blks[b]?=some (.cells cs t)→tops cs=0→off+len≤cs.length→Frz H (.sr b off len) (.sl 1 ((cs.drop off).take len) .no)
 |sl {xs ys:List V} {o:Own}:xs.length=ys.length→(∀ (j:Nat) (x:V),xs[j]?=some x→x.cells=[x]∧x.one=true)→(∀ (j:Nat) (y:V),ys[j]?=some y→y.cells=[y]∧y.one=true)→(∀ (j:Nat) (x y:V),xs[j]?=some x→ys[j]?=some y→Frz H x y)→Frz H (.sl 1 xs o) (.sl 1 ys .no)
 |agg {xs ys:List V}:xs.length=ys.length→(∀ (j:Nat) (y:V),ys[j]?=some y→y.one=true)→(∀ (j:Nat) (x y:V),xs[j]?=some x→ys[j]?=some y→Frz H x y)→Frz H (.agg xs) (.agg ys)
 |tup {xs ys:List V}:xs.length=ys.length→(∀ (j:Nat) (x y:V),xs[j]?=some x→ys[j]?=some y→Frz H x y)→Frz H (.tup xs) (.tup ys)
theorem flat_ones:∀ {xs:List V},(∀ (j:Nat) (x:V),xs[j]?=some x→x.cells=[x])→flat xs=xs
 | [],_=>rfl
 | x::xs,h=>by
  have h0:=h 0 x rfl
  have ih:=flat_ones (xs:=xs) fun j y hy=>h (j+1) y hy
  simp only [flat,List.flatMap_cons] at ih ⊢
  rw [h0,ih]
  rfl
theorem one_cells {x:V} (h:x.one=true):x.cells=[x]:=by
 cases x<;>first|rfl|(simp [V.one,oneV] at h)
theorem Frz.top {v v':V} (h:Frz H v v'):v'.top=0:=by
 have hz:∀ {l:List V},(∀ y∈l,y.top=0)→tops l=0:=fun {l} hl=>Nat.le_zero.1 (tops_le fun y hy=>by rw [hl y hy];exact Nat.le_refl _)
 induction h with
 | same h=>exact h
 | sr hb hc hl =>
  simp only [V.top]
  refine hz fun y hy=>?_
  have:=top_le_tops (List.mem_of_mem_drop (List.mem_of_mem_take hy))
  omega
 | sl hl h1 h2 h3 ih =>
  simp only [V.top]
  refine hz fun y hy=>?_
  obtain ⟨j,hj,e⟩:=List.getElem_of_mem hy
  exact ih j _ y (List.getElem?_eq_getElem (by omega)) (by rw [List.getElem?_eq_getElem hj,e])
 | agg hl h1 h2 ih =>
  simp only [V.top]
  refine hz fun y hy=>?_
  obtain ⟨j,hj,e⟩:=List.getElem_of_mem hy
  exact ih j _ y (List.getElem?_eq_getElem (by omega)) (by rw [List.getElem?_eq_getElem hj,e])
 | tup hl h2 ih =>
  simp only [V.top]
  refine hz fun y hy=>?_
  obtain ⟨j,hj,e⟩:=List.getElem_of_mem hy
  exact ih j _ y (List.getElem?_eq_getElem (by omega)) (by rw [List.getElem?_eq_getElem hj,e])
theorem Frz.rel {dd:Nat} {H':Hp} (hw':Wok g' H'.blks w') (hf:Fr dd [] g.bare w g' w') (hnew:∀ b,b<H'.blks.length→w.heap.size≤g'.blk b) {v v':V} (h:Frz H' v v'):∀ {cv:Value},RelV g' v cv→RelV (Gh.ice w.heap.size g w') v' cv:=by
 have hle:=ice_new hw' hf
 induction h with
 | same h=>intro cv hr;exact hr.le hle (by omega)
 | sr hb hc hl =>
  rename_i b off len cs t
  intro cv hr
  cases hr with
  | sr hcap =>
   rename_i cap
   have hlt:b<H'.blks.length:=(List.getElem?_eq_some_iff.1 hb).1
   obtain ⟨arr,h1,h2,h3⟩:=hw'.ok b _ hb
   have hlen:((cs.drop off).take len).length=len:=by simp;omega
   have hcell:∀ (j:Nat) (x:V),((cs.drop off).take len)[j]?=some x→cs[off+j]?=some x∧j<len:=fun j x hx=>by
    rw [List.getElem?_take] at hx
    split at hx
    ·rw [List.getElem?_drop] at hx;exact ⟨hx,by assumption⟩
    ·cases hx
   have hone:∀ (j:Nat) (x:V),((cs.drop off).take len)[j]?=some x→x.one=true∧∃ a,arr[off+j]?=some a∧RelV g' x a:=fun j x hx=>by
    obtain ⟨e1,e2⟩:=hcell j x hx
    have hj:off+j<arr.size:=by rw [← h2];exact (List.getElem?_eq_some_iff.1 e1).1
    have:=h3 (off+j) x _ e1 (Array.getElem?_eq_getElem hj)
    exact ⟨this.1,_,Array.getElem?_eq_getElem hj,this.2.1⟩
   have hfl:flat ((cs.drop off).take len)=(cs.drop off).take len:=flat_ones fun j x hx=>one_cells (hone j x hx).1
   have:=RelV.sl (g:=Gh.ice w.heap.size g w') (sz:=1) (xs:=(cs.drop off).take len) (ow:=.no) (a:=some ⟨g'.blk b,off,none⟩) (cap:=cap) (c:=g'.blk b) (o:=off) (fun j=>arr[off+j]?.getD (.bool false))
    (fun x hx=>by
     obtain ⟨j,hj,e⟩:=List.getElem_of_mem hx
     rw [one_cells (hone j x (by rw [List.getElem?_eq_getElem hj,e])).1];rfl)
    (by rw [hlen];exact hcap) (fun _=>rfl)
    (fun j x hx=>(hone j x (by rwa [hfl] at hx)).1)
    (fun j x hx=>by
     rw [hfl] at hx
     obtain ⟨_,a,ha,_⟩:=hone j x hx
     have hge:=hnew b hlt
     simp only [Gh.ice,show ¬ (g'.blk b<w.heap.size) by omega,if_false]
     simp only [World.cell?,h1,ha]
     simp [])
    (fun j x hx=>by
     rw [hfl] at hx
     obtain ⟨_,a,ha,hr⟩:=hone j x hx
     simp only [ha,Option.getD_some]
     refine hr.le hle ?_
     have:=top_le_tops (List.mem_of_mem_drop (List.mem_of_mem_take (List.mem_of_getElem? hx)))
     omega)
   rw [hlen] at this
   exact this
 | sl hl h1 h2 h3 ih =>
  rename_i xs ys o
  intro cv hr
  have hfx:flat xs=xs:=flat_ones fun j x hx=>(h1 j x hx).1
  have hfy:flat ys=ys:=flat_ones fun j y hy=>(h2 j y hy).1
  cases hr with
  | sl f e1 e2 e3 e4 e5 e6 =>
   rw [hfx] at e4 e5 e6
   rw [hl]
   have hx:∀ (j:Nat) (y:V),ys[j]?=some y→∃ x,xs[j]?=some x:=fun j y hy=>⟨_,List.getElem?_eq_getElem (by rw [hl];exact (List.getElem?_eq_some_iff.1 hy).1)⟩
   refine .sl f (fun y hy=>?_) (by rw [← hl];exact e2) (fun hne=>e3 fun e=>hne (List.eq_nil_of_length_eq_zero (by rw [← hl,e];rfl))) (fun j y hy=>?_) (fun j y hy=>?_) (fun j y hy=>?_)
   ·obtain ⟨j,hj,e⟩:=List.getElem_of_mem hy
    rw [(h2 j y (by rw [List.getElem?_eq_getElem hj,e])).1];rfl
   ·rw [hfy] at hy;exact (h2 j y hy).2
   ·rw [hfy] at hy
    obtain ⟨x,hx⟩:=hx j y hy
    exact hle.M _ _ _ (e5 j x hx)
   ·rw [hfy] at hy
    obtain ⟨x,hx⟩:=hx j y hy
    exact ih j x y hx hy (e6 j x hx)
 | agg hl h1 h2 ih =>
  rename_i xs ys
  intro cv hr
  cases hr with
  | agg e1 e2 e3 =>
   refine .agg (by rw [← hl,e1]) (fun j y hy=>h1 j y hy) fun j y v hy hv=>?_
   have hxj:xs[j]?=some (xs[j]'(by rw [hl];exact (List.getElem?_eq_some_iff.1 hy).1)):=List.getElem?_eq_getElem _
   exact ih j _ y hxj hy (e3 j _ v hxj hv)
 | tup hl h2 ih =>
  rename_i xs ys
  intro cv hr
  cases hr with
  | tup e1 e3 =>
   refine .tup (by rw [← hl,e1]) fun j y v hy hv=>?_
   have hxj:xs[j]?=some (xs[j]'(by rw [hl];exact (List.getElem?_eq_some_iff.1 hy).1)):=List.getElem?_eq_getElem _
   exact ih j _ y hxj hy (e3 j _ v hxj hv)
theorem hk_frz (hmix:P.follows .mixedOrders=true) (hnum:NumOk P) (hprim:PrimOk P) (hhk:HkOk P gl) {n:Nat} {f:FuncId} {args:List V} {v v':V} {H':Hp}
  (hc:callA P gl n f args ⟨[],[]⟩=some (.ret v,H')) (ht:tops args=0) (hv:Frz H' v v') (hno:∀ sz xs e,v'≠.sl sz xs (.yes e)) {cargs:Array Value} {l:Loc} (h1:GlOk P gl g) (h2:Wok g H.blks w) (h3:ArgsOk g H.blks.length args cargs) :
  Calls P f cargs w (CallPost d H g w l (.ret v') H):=by
 refine Calls.mono (callA_sound hmix hnum hprim hhk n f args ⟨[],[]⟩ _ _ hc g.bare w cargs l (h1.le bare_le) (bare_wok h2) ⟨h3.len,fun j x c hx hcv=>(h3.rel j x c hx hcv).le bare_le (Nat.le_trans (top_le_tops (mem_of_get hx)) (by omega)),by simp [ht],h3.no⟩) fun e w' he=>?_
 cases e with
 | returned cv =>
  obtain ⟨u,g',e1,e2,e3,e4,_⟩:=he
  cases e1
  refine ⟨v',_,rfl,ice_after h2 e2.wok e2.fr,hv.rel e2.wok e2.fr (fun b hb=>e2.newer b (Nat.zero_le _) hb) e3,?_,by rw [hv.top];exact Nat.zero_le _⟩
  unfold OwnV
  split
  ·rename_i sz xs e
   exact absurd rfl (hno sz xs e)
  ·trivial
 | panicked chain =>
  obtain ⟨u,cv,g',e1,_⟩:=he
  cases e1
 | outgrown=>exact he.elim
end Go.Vm
