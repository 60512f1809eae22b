/- Vm: a run at the empty heap whose answer holds lists that it made: behind it they are plain data: nobody else has them; Vm: the machine run with values that are not known: one step at a time; Vm: each operation's equation; and what follows from it. Conditions: none but those that each theorem names. -/
import Derived.Test.YthohlnmcjkjeiaaGreatDoorVmD
namespace Go.Vm
open Go
def Gh.ice (n:Nat) (g:Gh) (w':World):Gh :=
 {M:=fun c o=>if c<n then g.M c o else w'.cell? ⟨c,o,none⟩,blk:=g.blk,obj:=g.obj,own:=fun c=>if c<n then g.own c else none,lk:=g.lk,hdr:=g.hdr }
variable {P:Program} {gl:Gl} {d:Nat} {H:Hp} {g g':Gh} {w w':World}
theorem zox {dd:Nat} {bs':List Blk} (hw':Wok g' bs' w') (hf:Fr dd [] g.bare w g' w'):Gh.Le 0 g' (Gh.ice w.heap.size g w'):=by
 refine ⟨fun c o v h=>?_,fun b h=>by omega,hf.le.obj.symm,fun _ _ _ h=>by omega⟩
 simp only [Gh.ice];split
 ·rename_i hc;rw [<- (jh hf hc).2.2 o];exact h
 ·exact hw'.mem c o v h
theorem zhO {n dd:Nat} {bs:List Blk} (hw:Wok g bs w) (hf:Fr dd [] g.bare w g' w'):Same d none none n g w (Gh.ice w.heap.size g w') w':=by
 refine ⟨⟨fun c o v h=>?_,fun _ _=>rfl,rfl,fun _ _ _ _ h=>h⟩,fun c hc _ _=>(jh hf hc).1,fun c hc _=>by simp [Gh.ice,hc],fun c hc _ o=>by simp [Gh.ice,hc],hf.size,fun _ _ _=>rfl,fun _ h=>(by cases h),fun _ h=>(by cases h),fun _ _ _ _=>rfl,hf.os,hf.tape,hf.output⟩
 have:=zbp (hw.mem c o v h);simp [Gh.ice,this,h]
theorem zlc {dd:Nat} (hw:Wok g H.blks w) {bs':List Blk} (_hw':Wok g' bs' w') (hf:Fr dd [] g.bare w g' w'):After d H g w H (Gh.ice w.heap.size g w') w' where
 wok :=
  {mem:=fun c o v h=>by
    simp only [Gh.ice] at h;split at h
    ·rename_i hc;have h0:=hw.mem c o v h;simp only [World.cell?,(jh hf hc).1] at h0 ⊢;exact h0
    ·exact h
   lt:=fun b h=>zAh (hw.lt b h) hf.size
   inj:=hw.inj
   apart:=fun b h o=>by simp only [Gh.ice,hw.lt b h,if_true];exact hw.apart b h o
   ownlt:=fun c l h=>by
    simp only [Gh.ice] at h;split at h
    ·exact zAh (hw.ownlt c l h) hf.size
    ·cases h
   unowned:=fun b h=>by simp only [Gh.ice,hw.lt b h,if_true];exact hw.unowned b h
   ok:=fun b x hx=>by
    have hlt:b<H.blks.length:=(zAB.1 hx).1;exact BlkOk.same (d:=d) (zhO hw hf) (by simp) hlt (hw.lt b hlt) (hw.unowned b hlt) (fun _ h=>by cases h) (fun c h1 h2=>by omega) (hw.tops b x hx) (hw.ok b x hx)
   tops:=hw.tops
   laid:=fun c hc=>by
    obtain ⟨⟨cs,t,h1⟩,h2,h3⟩:=hw.laid c hc;have hlt:=(zAX.1 h1).1
    exact ⟨⟨cs,t,by rw [(jh hf hlt).1];exact h1⟩,by simp only [Gh.ice,hlt,if_true];exact h2,h3⟩ }
 fr:=⟨(zhO (d:=d) (n:=H.blks.length) hw hf).le,fun c hc=>(jh hf hc.1).1,fun c hc=>by simp [Gh.ice,hc.1],fun c hc o=>by simp [Gh.ice,hc.1],hf.size,fun _ _ _=>rfl,hf.os,hf.tape,hf.output⟩
 len:=zAO _
 newer:=fun b h1 h2=>by omega
 edges:=fun b x hx=>.inr (.inr ⟨x,hx,zAO _⟩)
 keep:=fun _ h=>h
 lks:=fun _ _ h=>h
inductive Frz (H:Hp):V->V->Prop where
 |same {v:V}:v.top=0->Frz H v v
 |sr {b off len cap:Nat} {cs:List V} {t:TypeId}:H.blks[b]?=some (.cells cs t)->tops cs=0->off+len<=cs.length->Frz H (.sr b off len cap) (.sl 1 ((cs.drop off).take len) .no)
 |ul {b u len:Nat} {cs:List V} {e:TypeId}:H.blks[b]?=some (.ul u 1 cs e)->tops cs=0->Frz H (.ulr b u len) (.sl 1 cs .no)
 |sl {xs ys:List V} {o:Own}:xs.length=ys.length->(∀ (j:Nat) (x:V),xs[j]?=some x->x.cells=[x]/\x.one=true)->(∀ (j:Nat) (y:V),ys[j]?=some y->y.cells=[y]/\y.one=true)->(∀ (j:Nat) (x y:V),xs[j]?=some x->ys[j]?=some y->Frz H x y)->Frz H (.sl 1 xs o) (.sl 1 ys .no)
 |agg {xs ys:List V}:xs.length=ys.length->(∀ (j:Nat) (y:V),ys[j]?=some y->y.one=true)->(∀ (j:Nat) (x y:V),xs[j]?=some x->ys[j]?=some y->Frz H x y)->Frz H (.agg xs) (.agg ys)
 |tup {xs ys:List V}:xs.length=ys.length->(∀ (j:Nat) (x y:V),xs[j]?=some x->ys[j]?=some y->Frz H x y)->Frz H (.tup xs) (.tup ys)
theorem flat_ones:∀ {xs:List V},(∀ (j:Nat) (x:V),xs[j]?=some x->x.cells=[x])->zo xs=xs
 | [],_=>rfl
 | x::xs,h=>by
  have h0:=h 0 x rfl;have ih:=flat_ones (xs:=xs) fun j y hy=>h (j+1) y hy;simp only [zo,zBK] at ih ⊢;rw [h0,ih];rfl
theorem zao {x:V} (h:x.one=true):x.cells=[x]:=by
 cases x<;>first|rfl|(simp [V.one,oneV] at h)
theorem Frz.top {v v':V} (h:Frz H v v'):v'.top=0:=by
 have hz:∀ {l:List V},(∀ y∈l,y.top=0)->tops l=0:=fun {l} hl=>Nat.le_zero.1 (zN fun y hy=>by rw [hl y hy];exact zAO _)
 induction h with
 | same h=>exact h
 | sr hb hc hl =>
  simp only [V.top];refine hz fun y hy=>?_;have:=zg (zA1 (zAw hy));omega
 | ul hb hc=>simp only [V.top];exact hc
 | sl hl h1 h2 h3 ih =>
  simp only [V.top];refine hz fun y hy=>?_;obtain ⟨j,hj,e⟩:=List.getElem_of_mem hy;exact ih j _ y (zAS (by omega)) (by rw [zAS hj,e])
 | agg hl h1 h2 ih =>
  simp only [V.top];refine hz fun y hy=>?_;obtain ⟨j,hj,e⟩:=List.getElem_of_mem hy;exact ih j _ y (zAS (by omega)) (by rw [zAS hj,e])
 | tup hl h2 ih =>
  simp only [V.top];refine hz fun y hy=>?_;obtain ⟨j,hj,e⟩:=List.getElem_of_mem hy;exact ih j _ y (zAS (by omega)) (by rw [zAS hj,e])
theorem Frz.rel0 {H':Hp} {G:Gh} (hw':Wok g' H'.blks w') (hle:Gh.Le 0 g' G) (hcell:∀ b,b<H'.blks.length->∀ o v,w'.cell? ⟨g'.blk b,o,none⟩=some v->G.M (g'.blk b) o=some v)
  (hrow:∀ b c,b<H'.blks.length->(c=g'.blk b\/g'.own c=some (.cell b 0))->∀ o v,w'.cell? ⟨c,o,none⟩=some v->G.M c o=some v) {v v':V} (h:Frz H' v v'):∀ {cv:Value},RelV g' v cv->RelV G v' cv:=by
 induction h with
 | same h=>intro cv hr;exact hr.le hle (by omega)
 | sr hb hc hl =>
  rename_i b off len cap cs t;intro cv hr;cases hr with
  | sr hcap =>
   have hlt:b<H'.blks.length:=(zAB.1 hb).1;obtain ⟨arr,h1,h2,h3⟩:=hw'.ok b _ hb;have hlen:((cs.drop off).take len).length=len:=by simp;omega
   have hcl:∀ (j:Nat) (x:V),((cs.drop off).take len)[j]?=some x->cs[off+j]?=some x/\j<len:=fun j x hx=>by
    rw [zA4] at hx;split at hx
    ·rw [zBQ] at hx;exact ⟨hx,by assumption⟩
    ·cases hx
   have hone:∀ (j:Nat) (x:V),((cs.drop off).take len)[j]?=some x->x.one=true/\∃ a,arr[off+j]?=some a/\RelV g' x a:=fun j x hx=>by
    obtain ⟨e1,e2⟩:=hcl j x hx;have hj:off+j<arr.size:=by rw [<- h2];exact (zAB.1 e1).1
    have:=h3 (off+j) x _ e1 (zAy hj);exact ⟨this.1,_,zAy hj,this.2.1⟩
   have hfl:zo ((cs.drop off).take len)=(cs.drop off).take len:=flat_ones fun j x hx=>zao (hone j x hx).1;have:=RelV.sl (g:=G) (sz:=1) (xs:=(cs.drop off).take len) (ow:=.no) (a:=some ⟨g'.blk b,off,none⟩) (cap:=cap) (c:=g'.blk b) (o:=off) (fun j=>arr[off+j]?.getD (.bool false))
    (fun x hx=>by
     obtain ⟨j,hj,e⟩:=List.getElem_of_mem hx
     rw [zao (hone j x (by rw [zAS hj,e])).1];rfl)
    (by rw [hlen];exact hcap) (fun _=>rfl)
    (fun j x hx=>(hone j x (by rwa [hfl] at hx)).1)
    (fun j x hx=>by
     rw [hfl] at hx;obtain ⟨_,a,ha,_⟩:=hone j x hx;refine hcell b hlt _ _ ?_;simp only [World.cell?,h1,ha]
     simp [])
    (fun j x hx=>by
     rw [hfl] at hx;obtain ⟨_,a,ha,hr⟩:=hone j x hx;simp only [ha,zAs];refine hr.le hle ?_;have:=zg (zA1 (zAw (zAb hx)))
     omega)
   rw [hlen] at this;exact this
 | ul hb hc =>
  rename_i b u len cs e;intro cv hr;have hlt:b<H'.blks.length:=(zAB.1 hb).1;obtain ⟨c,l0,cap,vs,hu⟩:=hw'.ok b _ hb;cases hr with
  | ulr hh =>
   rw [hu.hdr] at hh;cases hh;obtain ⟨hvl,hr|⟨c',cap',cur,hv,h0,hcur,h5,h6,h7,h8⟩⟩:=hu.row
   ·cases hr.1
   cases hv;have hlen:cs.length=len:=by rw [hu.len,hvl,zBz]
   have hv1:∀ (j:Nat) (x:V),cs[j]?=some x->∃ v,vs[j]?=some v/\x.one=true/\RelV g' x v/\w'.cell? ⟨c,j,none⟩=some v:=fun j x hx=>by
    have hj:=(zAB.1 hx).1;obtain ⟨v0,hvj⟩:∃ v0,vs[j]?=some v0:=⟨vs[j]'(by rw [<- hu.len];exact hj),zAS _⟩
    obtain ⟨k1,k2⟩:=hu.cells j x _ hx hvj;refine ⟨_,hvj,k1,k2,?_⟩;rw [<- h8,zA4] at hvj;split at hvj<;>try (cases hvj;done)
    rw [cell_of_row w' c j cur e (0,0) hcur];simpa using hvj
   have hfl:zo cs=cs:=flat_ones fun j x hx=>zao (hv1 j x hx).choose_spec.2.1;rw [<- hlen];refine .sl (sz:=1) (xs:=cs) (ow:=.no) (c:=c) (o:=0) (fun j=>vs[j]?.getD (.bool false)) (fun x hx=>?_) (by rw [hlen];exact h5) (fun _=>rfl) (fun j x hx=>?_) (fun j x hx=>?_) (fun j x hx=>?_)
   ·obtain ⟨j,hj⟩:=List.getElem?_of_mem hx;rw [zao (hv1 j x hj).choose_spec.2.1];rfl
   ·rw [hfl] at hx;exact (hv1 j x hx).choose_spec.2.1
   ·rw [hfl] at hx;obtain ⟨v,k0,_,_,k3⟩:=hv1 j x hx;rw [k0,zA0];exact hrow b c hlt hu.mine j v k3
   ·rw [hfl] at hx;obtain ⟨v,k0,_,k2,_⟩:=hv1 j x hx;rw [k0];exact k2.le hle (by have:=zg (zl hx);omega)
 | sl hl h1 h2 h3 ih =>
  rename_i xs ys o;intro cv hr;have hfx:zo xs=xs:=flat_ones fun j x hx=>(h1 j x hx).1;have hfy:zo ys=ys:=flat_ones fun j y hy=>(h2 j y hy).1;cases hr with
  | sl f e1 e2 e3 e4 e5 e6 =>
   rw [hfx] at e4 e5 e6;rw [hl];have hx:∀ (j:Nat) (y:V),ys[j]?=some y->∃ x,xs[j]?=some x:=fun j y hy=>⟨_,zAS (by rw [hl];exact (zAB.1 hy).1)⟩
   refine .sl f (fun y hy=>?_) (by rw [<- hl];exact e2) (fun hne=>e3 fun e=>hne (List.eq_nil_of_length_eq_zero (by rw [<- hl,e];rfl))) (fun j y hy=>?_) (fun j y hy=>?_) (fun j y hy=>?_)
   ·obtain ⟨j,hj,e⟩:=List.getElem_of_mem hy;rw [(h2 j y (by rw [zAS hj,e])).1];rfl
   ·rw [hfy] at hy;exact (h2 j y hy).2
   ·rw [hfy] at hy;obtain ⟨x,hx⟩:=hx j y hy;exact hle.M _ _ _ (e5 j x hx)
   ·rw [hfy] at hy;obtain ⟨x,hx⟩:=hx j y hy;exact ih j x y hx hy (e6 j x hx)
 | agg hl h1 h2 ih =>
  rename_i xs ys;intro cv hr;cases hr with
  | agg e1 e2 e3 =>
   refine .agg (by rw [<- hl,e1]) (fun j y hy=>h1 j y hy) fun j y v hy hv=>?_
   have hxj:xs[j]?=some (xs[j]'(by rw [hl];exact (zAB.1 hy).1)):=zAS _
   exact ih j _ y hxj hy (e3 j _ v hxj hv)
 | tup hl h2 ih =>
  rename_i xs ys;intro cv hr;cases hr with
  | tup e1 e3 =>
   refine .tup (by rw [<- hl,e1]) fun j y v hy hv=>?_
   have hxj:xs[j]?=some (xs[j]'(by rw [hl];exact (zAB.1 hy).1)):=zAS _
   exact ih j _ y hxj hy (e3 j _ v hxj hv)
theorem Frz.rel {dd:Nat} {H':Hp} (hw':Wok g' H'.blks w') (hf:Fr dd [] g.bare w g' w') (hnew:∀ b,b<H'.blks.length->w.heap.size<=g'.blk b) {v v':V} (h:Frz H' v v') {cv:Value} (hr:RelV g' v cv):RelV (Gh.ice w.heap.size g w') v' cv:=by
 refine h.rel0 hw' (zox hw' hf) (fun b hb o v hv=>?_) (fun b c hb hc o v hv=>?_) hr
 ·simp only [Gh.ice,if_neg (Nat.not_lt.2 (hnew b hb))];exact hv
 ·have hge:¬ c<w.heap.size:=fun hlt=>by
   rcases hc with e|e
   ·have:=hnew b hb;omega
   ·rw [(jh hf hlt).2.1] at e;cases e
  simp only [Gh.ice,if_neg hge];exact hv
theorem zmv (hmix:P.follows .mixedOrders=true) (hnum:vM P) (hprim:kz P) (hhk:HkOk P gl) {n:Nat} {f:FuncId} {args:List V} {v v':V} {H':Hp}
  (hc:zk P gl n f args ⟨[],[]⟩=some (.ret v,H')) (ht:tops args=0) (hv:Frz H' v v') (hno:∀ sz xs e,v'≠.sl sz xs (.yes e)) {cargs:Array Value} {l:Loc} (h1:GlOk P gl g) (h2:Wok g H.blks w) (h3:ArgsOk g H.blks.length args cargs) :
  Calls P f cargs w (CallPost d H g w l (.ret v') H):=by
 refine Calls.mono (xG hmix hnum hprim hhk n f args ⟨[],[]⟩ _ _ hc g.bare w cargs l (h1.le bare_le) (zhN h2) ⟨h3.len,fun j x c hx hcv=>(h3.rel j x c hx hcv).le bare_le (zAM (zg (zl hx)) (by omega)),by simp [ht],h3.no⟩) fun e w' he=>?_
 cases e with
 | returned cv =>
  obtain ⟨u,g',e1,e2,e3,e4,_⟩:=he;cases e1;refine ⟨v',_,rfl,zlc h2 e2.wok e2.fr,hv.rel e2.wok e2.fr (fun b hb=>e2.newer b (zAW _) hb) e3,?_,by rw [hv.top];exact zAW _⟩
  unfold OwnV;split
  ·rename_i sz xs e;exact absurd rfl (hno sz xs e)
  ·trivial
 | panicked chain =>
  obtain ⟨u,cv,g',e1,_⟩:=he;cases e1
 | outgrown=>exact he.elim
end Go.Vm
namespace Go.Vm
open Go
variable {cx:Cx} {n:Nat} {all:Array Oper} {takes:List Tmp}
def W (cx:Cx) (n:Nat) (c:Code) (s:St) (Q:Ex->St->Prop):Prop:=∃ ex s',cx.code n c s=some (ex,s')/\Q ex s'
def O (cx:Cx) (all:Array Oper) (takes:List Tmp) (ops:List Oper) (s:St) (Q:Ex->St->Prop):Prop:=∃ ex s',cx.ops all takes ops s=some (ex,s')/\Q ex s'
theorem ex2 {α β:Type} {a:α} {b:β} {Q:α->β->Prop}:(∃ x y,(a=x/\b=y)/\Q x y) ↔ Q a b :=
 ⟨fun ⟨_,_,⟨h1,h2⟩,h⟩=>by subst h1 h2;exact h,fun h=>⟨_,_,⟨rfl,rfl⟩,h⟩⟩
def thn (K:St->Prop) (Q:Ex->St->Prop):Ex->St->Prop
 | .normal,s=>K s
 | ex,s=>Q ex s
@[simp] theorem thn_normal {K:St->Prop} {Q:Ex->St->Prop} {s:St}:thn K Q .normal s=K s:=rfl
@[simp] theorem thn_exit {K:St->Prop} {Q:Ex->St->Prop} {s:St} {i:Nat}:thn K Q (.exit i) s=Q (.exit i) s:=rfl
@[simp] theorem thn_ret {K:St->Prop} {Q:Ex->St->Prop} {s:St}:thn K Q .ret s=Q .ret s:=rfl
@[simp] theorem thn_pan {K:St->Prop} {Q:Ex->St->Prop} {s:St} {v:V}:thn K Q (.pan v) s=Q (.pan v) s:=rfl
@[simp] theorem thn_goto {K:St->Prop} {Q:Ex->St->Prop} {s:St} {i:Nat}:thn K Q (.goto i) s=Q (.goto i) s:=rfl
def blk (id:Nat) (Q:Ex->St->Prop):Ex->St->Prop
 | .exit i,s=>Q (if Nat.beq i id then .normal else .exit i) s
 | ex,s=>Q ex s
@[simp] theorem blk_normal {id:Nat} {Q:Ex->St->Prop} {s:St}:blk id Q .normal s=Q .normal s:=rfl
@[simp] theorem blk_exit {id i:Nat} {Q:Ex->St->Prop} {s:St}:blk id Q (.exit i) s=Q (if Nat.beq i id then .normal else .exit i) s:=rfl
@[simp] theorem blk_ret {id:Nat} {Q:Ex->St->Prop} {s:St}:blk id Q .ret s=Q .ret s:=rfl
@[simp] theorem blk_pan {id:Nat} {Q:Ex->St->Prop} {s:St} {v:V}:blk id Q (.pan v) s=Q (.pan v) s:=rfl
@[simp] theorem blk_goto {id i:Nat} {Q:Ex->St->Prop} {s:St}:blk id Q (.goto i) s=Q (.goto i) s:=rfl
theorem zqb {s:St} {Q:Ex->St->Prop}:W cx n .skip s Q ↔ Q .normal s:=by
 unfold W;simp [Cx.code,ex2]
theorem zqX {s:St} {Q:Ex->St->Prop}:W cx n .ret s Q ↔ Q .ret s:=by
 unfold W;simp [Cx.code,ex2]
theorem zqc {s:St} {i:Nat} {Q:Ex->St->Prop}:W cx n (.exit i) s Q ↔ Q (.exit i) s:=by
 unfold W;simp [Cx.code,ex2]
theorem zqY {a b:Code} {s:St} {Q:Ex->St->Prop}:W cx n (.seq a b) s Q ↔ W cx n a s (thn (fun s=>W cx n b s Q) Q):=by
 unfold W;simp only [Cx.code];cases h:cx.code n a s with
 | none=>simp
 | some r =>
  obtain ⟨ex,s1⟩:=r;cases ex<;>simp [ex2]
theorem zoy {id:Nat} {c:Code} {s:St} {Q:Ex->St->Prop}:W cx n (.block id c) s Q ↔ W cx n c s (blk id Q):=by
 unfold W;simp only [Cx.code];cases h:cx.code n c s with
 | none=>simp
 | some r =>
  obtain ⟨ex,s1⟩:=r;cases ex<;>simp [ex2]
theorem zmw {id:Nat} {ops:Array Oper} {env:List V} {H:Hp} {lk:List (Nat×Nat)} {df:List (V×List V)} {Q:Ex->St->Prop} :
  W cx n (.region id ops false) ⟨env,H,lk,df⟩ Q ↔ O cx ops (qb ops) ops.toList ⟨env,H,[],df⟩ Q:=by
 unfold W O;simp only [Cx.code]
theorem zqZ {s:St} {Q:Ex->St->Prop}:O cx all takes [] s Q ↔ Q .normal s:=by
 unfold O;simp [Cx.ops,ex2]
def opQ (dst:Option Tmp) (K:St->Prop) (Q:Ex->St->Prop):Option (OR×St)->Prop
 | some (.val v,⟨env,H,lk,df⟩)=>K ⟨putA env dst v,H,lk,df⟩
 | some (.skip,⟨env,H,lk,df⟩)=>K ⟨putA env dst (.tup []),H,lk,df⟩
 | some (.pan v,s)=>Q (.pan v) s
 | none=>False
@[simp] theorem opQ_val {dst:Option Tmp} {K:St->Prop} {Q:Ex->St->Prop} {v:V} {env:List V} {H:Hp} {lk:List (Nat×Nat)} {df:List (V×List V)}:opQ dst K Q (some (.val v,⟨env,H,lk,df⟩))=K ⟨putA env dst v,H,lk,df⟩:=rfl
@[simp] theorem opQ_skip {dst:Option Tmp} {K:St->Prop} {Q:Ex->St->Prop} {env:List V} {H:Hp} {lk:List (Nat×Nat)} {df:List (V×List V)}:opQ dst K Q (some (.skip,⟨env,H,lk,df⟩))=K ⟨putA env dst (.tup []),H,lk,df⟩:=rfl
@[simp] theorem opQ_pan {dst:Option Tmp} {K:St->Prop} {Q:Ex->St->Prop} {v:V} {s:St}:opQ dst K Q (some (.pan v,s))=Q (.pan v) s:=rfl
@[simp] theorem opQ_none {dst:Option Tmp} {K:St->Prop} {Q:Ex->St->Prop}:opQ dst K Q none=False:=rfl
theorem zoz {dst:Option Tmp} {op:Op} {type:TypeId} {pos:String} {after:Array Edge} {os:List Oper} {env:List V} {H:Hp} {lk:List (Nat×Nat)} {df:List (V×List V)} {Q:Ex->St->Prop} :
  O cx all takes (⟨dst,op,type,pos,after,none⟩::os) ⟨env,H,lk,df⟩ Q ↔ opQ dst (fun s=>O cx all takes os s Q) Q (cx.op takes ⟨dst,op,type,pos,after,none⟩ env H lk df):=by
 unfold O;simp only [Cx.ops,zq];cases h:cx.op takes ⟨dst,op,type,pos,after,none⟩ env H lk df with
 | none=>simp
 | some r =>
  obtain ⟨r,s1⟩:=r;obtain ⟨env1,H1,lk1,df1⟩:=s1;cases r<;>simp [zS,ex2]
end Go.Vm
namespace Go.Vm
open Go
variable {cx:Cx} {takes:List Tmp} {P:Program} {gl:Nat->Nat->Option V} {dst:Option Tmp} {type:TypeId} {pos:String} {after:Array Edge} {guard:Option (Nat×Bool)} {env:List V} {H:Hp} {lk:List (Nat×Nat)} {df:List (V×List V)}
def rdQ (env:List V) (H:Hp) (lk:List (Nat×Nat)) (df:List (V×List V)):Option V->Option (OR×St)
 | some v=>some (.val v,⟨env,H,lk,df⟩)
 | none=>none
theorem yu {v:V}:rdQ env H lk df (some v)=some (.val v,⟨env,H,lk,df⟩):=rfl
theorem jK {x y:Option V}:x=y->(match x with|none=>none|some v=>some (OR.val v,(⟨env,H,lk,df⟩:St)))=rdQ env H lk df y:=by
 rintro rfl;cases x<;>rfl
def qE (env:List V) (t:Nat):Option V->Option (V×List V)
 | some (.sl sz xs (.yes e))=>some (.sl sz xs (.yes e),env.set t (.sl sz xs .no))
 | some v=>some (clr v,env)
 | none=>none
theorem jQ {t:Nat}:take env (.tmp t)=qE env t (nth env t):=by
 simp only [take,qE,fSet_eq];rfl
theorem zdM {v:Value}:take env (.const v)=(ofVal v).map (·,env):=rfl
theorem zcg {t:Nat} {k:IntKind} {n:Int}:qE env t (some (.int k n))=some (.int k n,env):=rfl
theorem zdN {t:Nat} {b:Bool}:qE env t (some (.bool b))=some (.bool b,env):=rfl
theorem zfe {t:Nat} {s:List V}:qE env t (some (.agg s))=some (.agg s,env):=rfl
theorem zff {t b o:Nat}:qE env t (some (.ptr b o))=some (.ptr b o,env):=rfl
theorem zaW {t:Nat}:qE env t (some .snil)=some (.snil,env):=rfl
theorem zhP {t sz:Nat} {xs:List V}:qE env t (some (.sl sz xs .no))=some (.sl sz xs .no,env):=rfl
theorem zgn {d:Tmp} {x:Operand} (h:takes.any (Nat.beq d)=false):cx.op takes ⟨some d,.move x,type,pos,after,guard⟩ env H lk df=rdQ env H lk df (peek env x):=by
 simp only [Cx.op,h];exact jK rfl
def tkQ (H:Hp) (lk:List (Nat×Nat)) (df:List (V×List V)):Option (V×List V)->Option (OR×St)
 | some (v,env)=>some (.val v,⟨env,H,lk,df⟩)
 | none=>none
theorem zdO {v:V}:tkQ H lk df (some (v,env))=some (.val v,⟨env,H,lk,df⟩):=rfl
theorem zhQ {d:Tmp} {x:Operand} (h:takes.any (Nat.beq d)=true):cx.op takes ⟨some d,.move x,type,pos,after,guard⟩ env H lk df=tkQ H lk df (take env x):=by
 simp only [Cx.op,h];cases take env x<;>rfl
theorem zap {x:Operand}:cx.op takes ⟨dst,.assign x,type,pos,after,guard⟩ env H lk df=tkQ H lk df (take env x):=by
 simp only [Cx.op];cases take env x<;>rfl
def zmx (a b:Option V):Option V->Option V
 | some (.bool true)=>a
 | some (.bool false)=>b
 | _=>none
theorem yM {c a b:Operand}:cx.op takes ⟨dst,.pick c a b,type,pos,after,guard⟩ env H lk df=rdQ env H lk df (zmx (peek env a) (peek env b) (peek env c)):=by
 simp only [Cx.op];refine jK ?_;simp only [zD];cases h:peek env c with
 | none=>rfl
 | some v=>cases v<;>first|rfl|(rename_i t;cases t<;>rfl)
theorem zdP {t:TypeId} {ps:Array (Nat×Operand)}:cx.op takes ⟨dst,.build t ps,type,pos,after,guard⟩ env H lk df=rdQ env H lk df (kV cx.P t ps env):=by
 simp only [Cx.op];exact jK rfl
theorem zbq {d:Tmp} {t:TypeId} {a:Operand} (h:takes.any (Nat.beq d)=false):cx.op takes ⟨some d,.load t a,type,pos,after,guard⟩ env H lk df=rdQ env H lk df (((peek env a).bind (zn cx.P H cx.gl t)).map clr):=by
 simp only [Cx.op,h];refine jK ?_;simp only [zD];cases peek env a with
 | none=>rfl
 | some v=>cases h:zn cx.P H cx.gl t v<;>simp [h]
theorem vP {x:Operand}:cx.op takes ⟨dst,.nilCheck x,type,pos,after,guard⟩ env H lk df=rdQ env H lk df ((peek env x).bind derefA):=by
 simp only [Cx.op];exact jK rfl
def zQ (P:Program) (op:BinOp) (t:TypeId) (x y:Operand):Option V->Option V->Option V
 | some u,some v=>if zM P op t x y u v then ja P op t u v else none
 | _,_=>none
theorem yx {o:BinOp} {t u:TypeId} {x y:Operand}:cx.op takes ⟨dst,.binOp o t x y u,type,pos,after,guard⟩ env H lk df=rdQ env H lk df (zQ cx.P o t x y (peek env x) (peek env y)):=by
 simp only [Cx.op];refine jK ?_;simp only [zD];cases peek env x<;>cases peek env y<;>rfl
theorem zc8 {o:UnOp} {t:TypeId} {x:Operand}:cx.op takes ⟨dst,.unOp o t x,type,pos,after,guard⟩ env H lk df=rdQ env H lk df ((peek env x).bind (unA o)):=by
 simp only [Cx.op];exact jK rfl
theorem zch {P:Program} {a b:TypeId} {x:Operand} {v:V} (hp:peek env x=some v) (hv:∀ sz xs o,v≠.sl sz xs o):jO P a b x env=none:=by
 unfold jO;split<;>try rfl
 split<;>try rfl
 rename_i ht;exfalso;cases x with
 | tmp t =>
  simp only [take,peek] at ht hp;split at ht
  ·rename_i hn;rw [hn] at hp;simp only [clr,zAA] at hp;exact hv _ _ _ hp.symm
  ·rename_i u _ hn;rw [hn] at hp;simp only [zAA,zAD] at hp ht;exact hv _ _ _ (hp.symm.trans ht.1)
  ·cases ht
 | _ =>
  simp only [take,hp,zAa,zAA,zAD] at ht;exact hv _ _ _ ht.1
theorem zoA {P:Program} {a b:TypeId} {x:Operand} (h:P.underlying a≠P.underlying b):jO P a b x env=none:=by
 unfold jO;split
 ·rename_i e0 _;exact absurd (congrArg P.underlying (zAJ e0)) h
 ·rfl
theorem vw {a b:TypeId} {x:Operand} {v:V} (hp:peek env x=some v) (hv:∀ b o l c,v≠.sr b o l c) (hm:jO cx.P a b x env=none):cx.op takes ⟨dst,.convert a b x,type,pos,after,guard⟩ env H lk df=rdQ env H lk df (jx cx.P a b v):=by
 simp only [Cx.op,hm];cases cx.uq (kb a) with
 | true =>
  simp only [xr,hp,zfO hv];cases jx cx.P a b v<;>rfl
 | false=>exact jK (by simp [zD,hp])
theorem vQ {a b:TypeId} {x:Operand} (hu:cx.uq (kb a)=false) (hm:Nat.beq a b=false):cx.op takes ⟨dst,.convert a b x,type,pos,after,guard⟩ env H lk df=rdQ env H lk df ((peek env x).bind (jx cx.P a b)):=by
 have hk:jO cx.P a b x env=none:=by
  unfold jO;rw [hm]
 simp only [Cx.op,hk,hu];exact jK rfl
theorem vx {x:Operand} {i:Nat}:cx.op takes ⟨dst,.extract x i,type,pos,after,guard⟩ env H lk df=rdQ env H lk df ((peek env x).bind fun v=>match v with|.tup vs=>(nth vs i).map clr|_=>none):=by
 simp only [Cx.op];refine jK ?_;simp only [zD];cases peek env x with
 | none=>rfl
 | some v=>cases v<;>first|rfl|(rename_i vs;cases h:nth vs i<;>simp [h])
def faddrV (off:Nat):V->Option V
 | .ptr b o=>some (.ptr b (o+off))
 | .gptr g o=>some (.gptr g (o+off))
 | .ulp b u k=>some (.ulp b u (k+off))
 | .vp cs=>some (.vp (cs.drop off))
 | _=>none
theorem zgo {t:TypeId} {x:Operand} {f:Nat} {fs:Array Field} {fd:Field} {sz:Nat} (h1:cx.P.underlying t=some (.struct fs)) (h2:fs[f]?=some fd) (h3:zy cx.P fd.type=some sz) (h4:Nat.beq sz 0=false) :
  cx.op takes ⟨dst,.fieldAddr t x f,type,pos,after,guard⟩ env H lk df=rdQ env H lk df ((peek env x).bind (faddrV fd.offset)):=by
 simp only [Cx.op];refine jK ?_;simp only [zD,h1];have h5:¬ sz=0:=Nat.ne_of_beq_eq_false h4;simp [h2,h3,h5];cases peek env x with
 | none=>rfl
 | some v=>cases v<;>rfl
theorem zmy {t:TypeId} {x:Operand} {f:Nat} {fs:Array Field} {fd:Field} (h1:cx.P.underlying t=some (.struct fs)) (h2:fs[f]?=some fd) :
  cx.op takes ⟨dst,.field t x f,type,pos,after,guard⟩ env H lk df=rdQ env H lk df ((peek env x).bind fun v=>match v with|.agg cs=>(qq cx.P fd.type cs fd.offset).map clr|_=>none):=by
 simp only [Cx.op];refine jK ?_;simp only [zD,h1];simp [h2];cases peek env x with
 | none=>rfl
 | some v=>cases v<;>rfl
def idxV (f:V->Int->Option V):Option V->Option V->Option V
 | some x,some (.int _ i)=>f x i
 | _,_=>none
theorem jd {t:TypeId} {x i:Operand}:cx.op takes ⟨dst,.indexAddr t x i,type,pos,after,guard⟩ env H lk df=rdQ env H lk df (idxV (zr cx.P t) (peek env x) (peek env i)):=by
 simp only [Cx.op];refine jK ?_;simp only [zD];cases h:peek env i with
 | none=>cases peek env x<;>rfl
 | some v=>cases v<;>cases peek env x<;>rfl
theorem zbr {t:TypeId} {x i:Operand}:cx.op takes ⟨dst,.index t x i,type,pos,after,guard⟩ env H lk df=rdQ env H lk df (idxV (xq cx.P t) (peek env x) (peek env i)):=by
 simp only [Cx.op];refine jK ?_;simp only [zD];cases h:peek env i with
 | none=>cases peek env x<;>rfl
 | some v=>cases v<;>cases peek env x<;>rfl
def zoB (t:TypeId) (H:Hp) (lk:List (Nat×Nat)) (df:List (V×List V)):Option (V×List V)->Option (OR×St)
 | some (v,env)=>if !okC v then none else some (.val (.ptr H.blks.length 0),⟨env,H.push (.cells v.laid t),lk,df⟩)
 | none=>none
theorem zi9 {t:TypeId} {x:Operand}:cx.op takes ⟨dst,.box t x,type,pos,after,guard⟩ env H lk df=zoB t H lk df (take env x):=by
 simp only [Cx.op,zoB,zI,fCs_eq,zB];cases take env x<;>rfl
theorem jG {t:TypeId} {v:V} (h:okC v=true):zoB t H lk df (some (v,env))=some (.val (.ptr H.blks.length 0),⟨env,H.push (.cells v.laid t),lk,df⟩):=by
 simp [zoB,h]
theorem zmz {t:TypeId} {z:V} (hz:zU cx.P t=some z) (hk:okC z=true):cx.op takes ⟨dst,.alloc t,type,pos,after,guard⟩ env H lk df=some (.val (.ptr H.blks.length 0),⟨env,H.push (.cells z.cells t),lk,df⟩):=by
 simp [Cx.op,hz,hk,zI,zB]
def zci (n:Nat) (H:Hp) (lk:List (Nat×Nat)) (df:List (V×List V)):Option V->Option (V×List V)->Option (OR×St)
 | some (.ptr b off),some (v,env)=>match H.get b with
  | some (.cells cs ty)=>if okC v && Nat.beq v.laid.length n && Nat.ble (off+n) cs.length && kQ lk b off n (cs.drop off) then some (.skip,⟨env,(H.set b (.cells (storeCells cs off v.laid) ty)).edge b v,lk,df⟩) else none
  | _=>none
 | _,_=>none
theorem zhR {t:TypeId} {a x:Operand} {n:Nat} (hn:zy cx.P t=some n) (hna:∀ b u k,peek env a≠some (.ulp b u k)):cx.op takes ⟨dst,.store t a x,type,pos,after,guard⟩ env H lk df=zci n H lk df (peek env a) (take env x):=by
 simp only [Cx.op,zI,fCs_eq,fL_eq,zR,hn];cases ha:peek env a with
 | none=>rfl
 | some p =>
  cases p<;>try rfl
  case ulp b u k=>exact absurd ha (hna b u k)
  rename_i b off;cases take env x with
  | none=>rfl
  | some q =>
   simp only [zci];cases H.get b with
   | none=>rfl
   | some y=>cases y<;>rfl
def callQ (lk:List (Nat×Nat)) (df:List (V×List V)) (env:List V):Option (OR×Hp)->Option (OR×St)
 | some (r,H)=>some (r,⟨env,H,lk,df⟩)
 | none=>none
theorem zv {r:OR}:callQ lk df env (some (r,H))=some (r,⟨env,H,lk,df⟩):=rfl
def zmA (cx:Cx) (f:FuncId) (H:Hp) (lk:List (Nat×Nat)) (df:List (V×List V)) (env:List V):Option (List V)->Option (OR×St)
 | some args=>callQ lk df env (cx.callF f (args.map clr) H)
 | none=>none
theorem yN {f:FuncId} {args:List V}:zmA cx f H lk df env (some args)=callQ lk df env (cx.callF f (args.map clr) H):=rfl
theorem zc9 {f:FuncId} {args:Array Operand} {ts:Array TypeId}:cx.op takes ⟨dst,.call ⟨.value (.func f),args,ts⟩,type,pos,after,guard⟩ env H lk df=zmA cx f H lk df env (peeks env args.toList):=by
 simp only [Cx.op,peek];cases peeks env args.toList with
 | none=>rfl
 | some l=>simp only [Cx.callV,fL_eq,zA7,zBB,zmA];cases cx.callF f (l.map clr) H<;>rfl
theorem zw {P:Program} {gl:Nat->Nat->Option V} {uq:TypeId->Bool} {call:FuncId->List V->Hp->Option (Out×Hp)} {f:FuncId} {fn:Func} {body:Code} {args:List V} {v:V} {H':Hp} (hf:P.funcs[f]?=some fn) (hb:fn.body=some body) (hc:call f args H=some (.ret v,H')) :
  Cx.callF ⟨P,gl,call,uq⟩ f args H=some (.val v,H'):=by
 simp only [Cx.callF,hf,hb,hc,orOf]
def zqd (H:Hp) (lk:List (Nat×Nat)) (df:List (V×List V)):Option (OR×List V)->Option (OR×St)
 | some (r,env)=>some (r,⟨env,H,lk,df⟩)
 | none=>none
theorem zcj {x:Operand} {t:TypeId}:cx.op takes ⟨dst,.call ⟨.builtin .len,#[x],#[t]⟩,type,pos,after,guard⟩ env H lk df=rdQ env H lk df (((peek env x).bind (qH cx.P H t)).map (.int .i64)):=by
 simp only [Cx.op,Cx.builtin];cases peek env x with
 | none=>rfl
 | some v=>cases h:qH cx.P H t v<;>simp [h,rdQ]
def zeU (P:Program) (H:Hp) (t:TypeId) (lk:List (Nat×Nat)) (df:List (V×List V)) (y:Option V):Option (V×List V)->Option (OR×St)
 | some (v,env)=>match y.bind (zV P H t v) with
  | some u=>some (.val u,⟨env,H,lk,df⟩)
  | none=>none
 | none=>none
theorem vd {x y:Operand} {t:TypeId} (hu:uqT cx.P cx.uq t=false):cx.op takes ⟨dst,.call ⟨.builtin .append,#[x,y],#[t,t]⟩,type,pos,after,guard⟩ env H lk df=zeU cx.P H t lk df (peek env y) (take env x):=by
 simp only [Cx.op,Cx.builtin,hu,zAu,zAg,zAH,if_false];cases hy:peek env y with
 | none=>cases hx:take env x<;>simp [zeU]
 | some v =>
  cases hx:take env x with
  | none=>simp [zeU]
  | some p =>
   obtain ⟨u,e⟩:=p;cases h:zV cx.P H t u v<;>simp [zeU,h]
end Go.Vm
namespace Go.Vm
open Go
variable {P:Program} {gl:Gl}
def Fin (P:Program) (rs:List ResultVar) (n0:Nat) (es:List (Nat×Nat)) (out:Out) (H':Hp):Ex->St->Prop
 | .normal,⟨env,H,_,df⟩|.ret,⟨env,H,_,df⟩=>df=[]/\∃ vs,zt P H env rs=some vs/\out=.ret (tupOf vs)/\H'=zL n0 es (tupOf vs).top H
 | .pan v,⟨_,H,_,df⟩=>df=[]/\out=.pan v/\H'=zL n0 es v.top H
 | _,_=>False
theorem xI {n:Nat} {f:FuncId} {fn:Func} {body:Code} {args:List V} {bs:List Blk} {es:List (Nat×Nat)} {out:Out} {H':Hp} (hk:gl.hk f args=none) (hk2:∀ H,gl.hk2 n f args H=none) (hf:P.funcs[f]?=some fn) (hb:fn.body=some body)
  (h:W ⟨P,gl,zk P gl n,gl.uq⟩ n body ⟨args++List.replicate (fn.ntmps - args.length) (.tup []),⟨bs++[],[]⟩,[],[]⟩ (Fin P fn.results.toList bs.length es out H')):zk P gl (n+1) f args ⟨bs,es⟩=some (out,H'):=by
 obtain ⟨ex,⟨env,H,lk,df⟩,h1,h2⟩:=h;rw [zBB] at h1;simp only [zk,hk,hk2,hf,hb,zH,fL_eq,h1];cases ex<;>simp only [Fin] at h2
 ·obtain ⟨rfl,vs,h3,h4,h5⟩:=h2;simp [endOf,zaf,kq,dropMarks,h3,h4,h5,zI,jW]
 ·obtain ⟨rfl,vs,h3,h4,h5⟩:=h2;simp [endOf,zaf,kq,dropMarks,h3,h4,h5,zI,jW]
 ·obtain ⟨rfl,h4,h5⟩:=h2;simp [endOf,zaf,kq,dropMarks,h4,h5,jW]
theorem qR {bs ls:List Blk} {es:List (Nat×Nat)} {t:Nat} (ht:t<=bs.length):zL bs.length es t ⟨bs++ls,[]⟩=⟨bs,es⟩:=by
 have:Nat.ble t bs.length=true:=zBa ht;simp [zL,this]
theorem get_at {bs ls:List Blk} {es:List (Nat×Nat)} {k:Nat}:Hp.get ⟨bs++ls,es⟩ (bs.length+k)=nth ls k:=by
 simp only [Hp.get,zd];rw [zAP (by omega)]
 congr 1
 omega
theorem zh {α:Type} {x:α} {xs:List α}:nth (x::xs) 0=some x:=rfl
theorem zi {α:Type} {x:α} {xs:List α} {n:Nat}:nth (x::xs) (n+1)=nth xs n:=rfl
end Go.Vm
namespace Go.Vm
open Go
variable {takes:List Tmp}
def kS (takes:List Tmp) (o:Oper):Bool :=
 match o.op with
 | .alloc _|.box ..|.store ..|.makeMap ..|.makeSlice ..|.mapUpdate ..|.insert ..|.range ..|.next ..|.defer _|.panic _=>true
 | .load ..=>match o.dst with
  | some d=>takes.any (Nat.beq d)
  | none=>false
 | .call c=>match c.callee with
  | .builtin .copy=>true
  | .builtin _=>false
  | _=>true
 | _=>false
def zck (o:Oper):Bool :=
 match o.op with
 | .load ..|.lookup ..|.call _=>true
 | _=>false
abbrev NoU (gl:Gl):Prop:=Nonempty ((∀ e,gl.uq e=false)/\∀ n f args H,gl.hk2 n f args H=none)
theorem NoU.out {gl:Gl} [h:NoU gl]:∀ e,gl.uq e=false:=h.elim And.left
theorem NoU.out2 {gl:Gl} [h:NoU gl]:∀ n f args H,gl.hk2 n f args H=none:=h.elim And.right
theorem zcP {P:Program} {uq:TypeId->Bool} (hu:∀ e,uq e=false) (t:TypeId):uqT P uq t=false:=by
 unfold uqT;split
 ·exact hu _
 ·rfl
theorem yy {P:Program} {uq:TypeId->Bool} (hu:∀ e,uq e=false) (o:Oper):z9 P uq takes o=kS takes o:=by
 obtain ⟨dst,op,type,pos,after,guard⟩:=o;cases op<;>try rfl
 case slice t x lo hi mx=>cases mx<;>simp [z9,kS,zcP hu]
 case call c =>
  cases hc:c.callee<;>simp [z9,kS,hc];rename_i b;cases b<;>simp;split<;>simp [zcP hu]
theorem zhS {P:Program} {uq:TypeId->Bool} (hu:∀ e,uq e=false) (o:Oper):jV P uq o=zck o:=by
 obtain ⟨dst,op,type,pos,after,guard⟩:=o;cases op<;>try rfl
 case slice t x lo hi mx=>cases mx<;>simp [jV,zck,zcP hu]
 case convert a b x=>simp [jV,zck,hu]
theorem vy {α:Type} {f:α->Bool}:∀ {l:List α},(∀ x∈l,f x=true)->qu f l=true
 | [],_=>rfl
 | y::l,h=>by simp only [qu,h y (zAL ..),vy fun x hx=>h x (zAE _ hx)]
end Go.Vm
namespace Go.Vm
open Go
variable {cx:Cx} {n:Nat} {takes:List Tmp} {P:Program} {gl:Nat->Nat->Option V} {dst:Option Tmp} {type:TypeId} {pos:String} {after:Array Edge} {guard:Option (Nat×Bool)} {env:List V} {H:Hp} {lk:List (Nat×Nat)} {df:List (V×List V)}
def ji (P:Program) (t:TypeId) (f:Nat):Option Nat :=
 match P.underlying t with
 | some (.struct fs)=>match fs[f]? with
  | some fd=>match zy P fd.type with
   | some m=>if Nat.beq m 0 then none else some fd.offset
   | none=>none
  | none=>none
 | _=>none
def xJ (v:Option V):Option Nat->Option V
 | some off=>v.bind (faddrV off)
 | none=>none
theorem vR {v:Option V} {off:Nat}:xJ v (some off)=v.bind (faddrV off):=rfl
theorem wj {t:TypeId} {x:Operand} {f:Nat}:cx.op takes ⟨dst,.fieldAddr t x f,type,pos,after,guard⟩ env H lk df=rdQ env H lk df (xJ (peek env x) (ji cx.P t f)):=by
 unfold ji;cases h1:cx.P.underlying t with
 | none=>simp [Cx.op,zD,h1,xJ,rdQ]
 | some d =>
  cases d<;>try (simp [Cx.op,zD,h1,xJ,rdQ];done)
  rename_i fs;cases h2:fs[f]? with
  | none=>simp [Cx.op,zD,h1,h2,xJ,rdQ]
  | some fd =>
   cases h3:zy cx.P fd.type with
   | none=>simp [Cx.op,zD,h1,h2,h3,xJ,rdQ]
   | some m =>
    cases m with
    | zero=>simp [Cx.op,zD,h1,h2,h3,xJ,rdQ]
    | succ m=>rw [zgo h1 h2 h3 rfl];simp [xJ,h2,h3]
def fieldAt (P:Program) (t:TypeId) (f:Nat):Option (TypeId×Nat) :=
 match P.underlying t with
 | some (.struct fs)=>(fs[f]?).map fun fd=>(fd.type,fd.offset)
 | _=>none
def zcl (P:Program) (v:Option V):Option (TypeId×Nat)->Option V
 | some (t,off)=>v.bind fun v=>match v with|.agg cs=>(qq P t cs off).map clr|_=>none
 | none=>none
theorem zhT {v:Option V} {t off:Nat}:zcl P v (some (t,off))=v.bind fun v=>match v with|.agg cs=>(qq P t cs off).map clr|_=>none:=rfl
theorem zld {t:TypeId} {x:Operand} {f:Nat}:cx.op takes ⟨dst,.field t x f,type,pos,after,guard⟩ env H lk df=rdQ env H lk df (zcl cx.P (peek env x) (fieldAt cx.P t f)):=by
 unfold fieldAt;cases h1:cx.P.underlying t with
 | none=>simp [Cx.op,zD,h1,zcl,rdQ]
 | some d =>
  cases d<;>try (simp [Cx.op,zD,h1,zcl,rdQ];done)
  rename_i fs;cases h2:fs[f]? with
  | none=>simp [Cx.op,zD,h1,h2,zcl,rdQ]
  | some fd =>
   rw [zmy h1 h2];simp only [h2,zAa,zcl]
   try rfl
def xK (cs:List V) (off:Nat):Option Bool->Option Nat->Option V
 | some true,some n=>if off+n<=cs.length then some (.agg ((cs.drop off).take n)) else none
 | some false,_=>nth cs off
 | _,_=>none
theorem jj {t:TypeId} {cs:List V} {off:Nat}:qq P t cs off=xK cs off (qC P t) (zy P t):=by
 unfold qq;cases qC P t with
 | none=>rfl
 | some b =>
  cases b with
  | false=>simp [xK]
  | true=>cases zy P t<;>simp [xK]
theorem zgp {cs:List V} {off:Nat} {s:Option Nat}:xK cs off (some false) s=nth cs off:=by cases s<;>rfl
theorem zoC {cs:List V} {off n:Nat}:xK cs off (some true) (some n)=if off+n<=cs.length then some (.agg ((cs.drop off).take n)) else none:=rfl
def zj0 (P:Program) (t:TypeId) (off:Nat):Option Blk->Option V
 | some (.cells cs _)=>qq P t cs off
 | _=>none
theorem qi {t u:TypeId} {off:Nat} {cs:List V}:zj0 P t off (some (.cells cs u))=qq P t cs off:=rfl
theorem qF {t:TypeId} {b off:Nat}:zn P H gl t (.ptr b off)=zj0 P t off (H.get b):=by
 cases h:H.get b with
 | none=>simp [zn,h,zj0]
 | some x=>cases x<;>simp [zn,h,zj0]
theorem zmB {t:TypeId} {cs:List V}:zn P H gl t (.vp cs)=qq P t cs 0:=rfl
theorem zqe {c:Code} {s:St} {Q:Ex->St->Prop} (Inv:Nat->St->Prop) (k:Nat) (hk:k<n) (h0:Inv k s) (hstep:∀ j s,Inv j s->W cx n c s (thn (fun s'=>∃ i,i<j/\Inv i s') Q)):W cx n (.loop c) s Q:=by
 unfold W;simp only [Cx.code];have key:∀ (m:Nat) (s:St) (j:Nat),j<m->Inv j s->∃ ex s',vK (cx.code n c) m s=some (ex,s')/\Q ex s':=by
  intro m
  induction m with
  | zero=>intro s j h;omega
  | succ m ih =>
   intro s j hj hI;obtain ⟨ex,s1,h1,h2⟩:=hstep j s hI;simp only [vK,h1];cases ex with
   | normal =>
    obtain ⟨i,hi,hI'⟩:=h2;exact ih s1 i (by omega) hI'
   | _=>exact ⟨_,_,rfl,h2⟩
 exact key n s k hk h0
end Go.Vm
namespace Go.Vm
open Go
variable {cx:Cx} {n:Nat} {all:Array Oper} {takes:List Tmp} {dst:Option Tmp} {op:Op} {type:TypeId} {pos:String} {after:Array Edge} {os:List Oper} {env env1 env2:List V} {H H1:Hp} {lk lk1:List (Nat×Nat)} {df df1:List (V×List V)} {v:V} {Q:Ex->St->Prop}
theorem zda {P:Program} {t:TypeId} {x y:Operand} {k:IntKind} {a b:Int}:zQ P .add t x y (some (.int k a)) (some (.int k b))=some (.int k (k.wrap (a+b))):=by simp [zQ,zM,ja,ql]
theorem zgq {P:Program} {t:TypeId} {x y:Operand} {k:IntKind} {a b:Int}:zQ P .sub t x y (some (.int k a)) (some (.int k b))=some (.int k (k.wrap (a - b))):=by simp [zQ,zM,ja,ql]
theorem zoD {P:Program} {t:TypeId} {x y:Operand} {k:IntKind} {a b:Int}:zQ P .mul t x y (some (.int k a)) (some (.int k b))=some (.int k (k.wrap (a * b))):=by simp [zQ,zM,ja,ql]
theorem zoE {P:Program} {t:TypeId} {x y:Operand} {k:IntKind} {a b:Int}:zQ P .eql t x y (some (.int k a)) (some (.int k b))=some (.bool (a == b)):=by simp [zQ,zM,jp,ja,ql]
theorem zoF {P:Program} {t:TypeId} {x y:Operand} {k:IntKind} {a b:Int}:zQ P .neq t x y (some (.int k a)) (some (.int k b))=some (.bool (a != b)):=by simp [zQ,zM,jp,ja,ql]
theorem je {P:Program} {t:TypeId} {x y:Operand} {k:IntKind} {a b:Int}:zQ P .lss t x y (some (.int k a)) (some (.int k b))=some (.bool (a<b)):=by simp [zQ,zM,ja,ql]
theorem zdb {P:Program} {t:TypeId} {x y:Operand} {k:IntKind} {a b:Int}:zQ P .leq t x y (some (.int k a)) (some (.int k b))=some (.bool (a<=b)):=by simp [zQ,zM,ja,ql]
theorem zdc {P:Program} {t:TypeId} {x y:Operand} {k:IntKind} {a b:Int}:zQ P .gtr t x y (some (.int k a)) (some (.int k b))=some (.bool (a > b)):=by simp [zQ,zM,ja,ql]
theorem zj1 {P:Program} {t:TypeId} {x y:Operand} {k:IntKind} {a b:Int}:zQ P .geq t x y (some (.int k a)) (some (.int k b))=some (.bool (a ≥ b)):=by simp [zQ,zM,ja,ql]
theorem zmC {P:Program} {t:TypeId} {x y:Operand} {a b:List Nat}:zQ P .neq t x y (some (.str a)) (some (.str b))=some (.bool (!(eqL a b))):=by simp [zQ,zM,jp,ja,zb3]
theorem zhU {d:Tmp} {t:TypeId} {a:Operand} {guard:Option (Nat×Bool)}:cx.op [] ⟨some d,.load t a,type,pos,after,guard⟩ env H lk df=rdQ env H lk df (((peek env a).bind (zn cx.P H cx.gl t)).map clr):=zbq rfl
theorem zdQ {d:Tmp} {x:Operand} {guard:Option (Nat×Bool)}:cx.op [] ⟨some d,.move x,type,pos,after,guard⟩ env H lk df=rdQ env H lk df (peek env x):=zgn rfl
theorem jt {k:IntKind} {n:Int}:clr (.int k n)=.int k n:=rfl
theorem jk {b:Bool}:clr (.bool b)=.bool b:=rfl
theorem kB {s:List Nat}:clr (.str s)=.str s:=rfl
theorem qV {s:List V}:clr (.agg s)=.agg s:=rfl
theorem zmD {s:List V}:clr (.vp s)=.vp s:=rfl
theorem clr_tup {s:List V}:clr (.tup s)=.tup s:=rfl
theorem zj2 {a b:Nat}:clr (.ptr a b)=.ptr a b:=rfl
theorem clr_snil:clr .snil=.snil:=rfl
theorem clr_nili:clr .nili=.nili:=rfl
theorem vz {sz:Nat} {xs:List V} {o:Own}:clr (.sl sz xs o)=.sl sz xs .no:=rfl
theorem zcm {a b c d:Nat}:clr (.sr a b c d)=.sr a b c d:=rfl
theorem zhV {l:List V} {d:Nat} {v:V} (h:nth l d=some v):l.set d v=l:=by
 rw [zd] at h;apply zBP;intro t;rw [List.getElem?_set'];split
 ·rename_i e;subst e;rw [h];rfl
 ·rfl
end Go.Vm
namespace Go.Vm.Sx
open Go Go.Vm
mutual
inductive TI where
 |var (i:Nat)|lit (n:Int)|bin (op:BinOp) (k:IntKind) (a b:TI)|conv (k:IntKind) (a:TI)|len (l:TL)|slen (s:TS)|byte (s:TS) (i:TI)|ite (c:TB) (a b:TI)
inductive TB where
 |var (i:Nat)|lit (b:Bool)|not (a:TB)|and (a b:TB)|or (a b:TB)|ite (c a b:TB)|beq (a b:TB)|cmp (op:BinOp) (a b:TI)|scmp (op:BinOp) (a b:TS)|nili (i:Nat)|nill (i:Nat)|own (i:Nat) (e:TypeId)|rights (i:Nat)|room (l:TL) (n:Nat)|sroom (a b:TS)
inductive TS where
 |var (i:Nat)|lit (l:List Nat)|cat (a b:TS)|sub (s:TS) (lo hi:TI)|ofL (l:TL)
inductive TL where
 |var (i:Nat)|nil|snoc (l:TL) (i:Nat)|cat (a b:TL)|sub (l:TL) (lo hi:TI)|ofS (s:TS)
end
inductive C where
 |k (v:V)|v (i:Nat) (cl:Bool)|i (kd:IntKind) (t:TI)|b (t:TB)|s (t:TS)|sl (sz:Nat) (t:TL) (o:Own)|p (a off:Nat)|lkd (i:Nat)
inductive SC where
 |one (c:C)|agg (cs:List C)
inductive SV where
 |val (x:SC)|vp (cs:List C)|tup (xs:List SC)|gd (c:TB) (x:SC)|unk|fn (f:Fn) (cs:List C)
inductive CK where
 |raw|any|int (k:IntKind)|bool|str|sl (sz:Nat)|ifc
 deriving DecidableEq
inductive VE where
 |sc (x:SC)|app (c:C) (sz:Nat) (e:TypeId) (l:TL)|slc (i:Nat) (lo hi:TI)|ifc (t:TypeId) (x:SC)|tup (xs:List SC)
inductive AS where
 |d (x:SC)|p (j off:Nat)
inductive AV where
 |d (x:V)|p (j off:Nat)
inductive Tree where
 |out (vs:List C)
 |esc (t:Tree)
 |ite (c:TB) (a b:Tree)
 |need (c:TB) (t:Tree)
 |letv (e:VE) (t:Tree)
 |elem (l:TL) (i:TI) (t:Tree)
 |sel (cs:List C) (i:TI) (t:Tree)
 |opn (i:Nat) (ks:List CK) (t:Tree)
 |unt (i:Nat) (ks:List CK) (t:Tree)
 |kin (i:Nat) (k:CK) (t:Tree)
 |byt (l:TL) (t:Tree)
 |glob (g off:Nat) (t:Tree)
 |call (f:FuncId) (args:List AS) (lent:List (List C×TypeId)) (ks:List CK) (t:Tree)
 |loop (ini:List C) (body:Tree)
 |blk (body t:Tree)
def at' (ρ:List V) (i:Nat):V:=match nth ρ i with|some v=>v|none=>.junk
def vI:V->Int|.int _ n=>n|_=>0
def vB:V->Bool|.bool b=>b|_=>false
def vS:V->List Nat|.str s=>s|_=>[]
def vL:V->List V|.sl _ xs _=>xs|_=>[]
def biI (op:BinOp) (k:IntKind) (x y:Int):Int :=
 match op with
 | .add=>k.wrap (x+y)
 | .sub=>k.wrap (x - y)
 | .mul=>k.wrap (x * y)
 | .quo=>k.wrap (x.tdiv y)
 | .rem=>x.tmod y
 | .and=>k.wrap ((BitVec.ofInt k.bits x &&& BitVec.ofInt k.bits y).toNat)
 | .or=>k.wrap ((BitVec.ofInt k.bits x ||| BitVec.ofInt k.bits y).toNat)
 | .xor=>k.wrap ((BitVec.ofInt k.bits x ^^^ BitVec.ofInt k.bits y).toNat)
 | .andNot=>k.wrap ((BitVec.ofInt k.bits x &&& ~~~ (BitVec.ofInt k.bits y)).toNat)
 | .shl=>k.wrap (x * 2 ^ (min y.toNat k.bits))
 | .shr=>x.fdiv (2 ^ (min y.toNat k.bits))
 | _=>0
def cmI (op:BinOp) (x y:Int):Bool :=
 match op with
 | .eql=>x == y
 | .neq=>x != y
 | .lss=>x<y
 | .leq=>x<=y
 | .gtr=>x > y
 | .geq=>x ≥ y
 | _=>false
def cmS (op:BinOp) (x y:List Nat):Bool :=
 match op with
 | .eql=>eqL x y
 | .neq=>!(eqL x y)
 | .lss=>ltL x y
 | .leq=>ltL x y || eqL x y
 | .gtr=>!(ltL x y || eqL x y)
 | .geq=>!(ltL x y)
 | _=>false
def zmE (s:List Nat) (i:Int):Int:=match nth s i.toNat with|some b=>(b:Int)|none=>0
def isNili:V->Bool|.nili=>true|_=>false
def isNill:V->Bool|.snil=>true|_=>false
def zoG (e:TypeId):V->Bool|.snil=>true|.sl _ _ (.yes e')=>Nat.beq e e'|_=>false
def rightsV:V->Bool|.snil=>true|.sl _ _ (.yes _)=>true|_=>false
mutual
def evI (ρ:List V):TI->Int
 | .var i=>vI (at' ρ i)
 | .lit n=>n
 | .bin op k a b=>biI op k (evI ρ a) (evI ρ b)
 | .conv k a=>k.wrap (evI ρ a)
 | .len l=>((evL ρ l).length:Int)
 | .slen s=>((evS ρ s).length:Int)
 | .byte s i=>zmE (evS ρ s) (evI ρ i)
 | .ite c a b=>bif evB ρ c then evI ρ a else evI ρ b
def evB (ρ:List V):TB->Bool
 | .var i=>vB (at' ρ i)
 | .lit b=>b
 | .not a=>!(evB ρ a)
 | .and a b=>evB ρ a && evB ρ b
 | .or a b=>evB ρ a || evB ρ b
 | .ite c a b=>bif evB ρ c then evB ρ a else evB ρ b
 | .beq a b=>evB ρ a == evB ρ b
 | .cmp op a b=>cmI op (evI ρ a) (evI ρ b)
 | .scmp op a b=>cmS op (evS ρ a) (evS ρ b)
 | .nili i=>isNili (at' ρ i)
 | .nill i=>isNill (at' ρ i)
 | .own i e=>zoG e (at' ρ i)
 | .rights i=>rightsV (at' ρ i)
 | .room l n=>qG (evL ρ l).length n
 | .sroom a b=>Nat.ble ((evS ρ a).length+(evS ρ b).length) 140737488355328
def evS (ρ:List V):TS->List Nat
 | .var i=>vS (at' ρ i)
 | .lit l=>l
 | .cat a b=>evS ρ a++evS ρ b
 | .sub s lo hi=>((evS ρ s).take (evI ρ hi).toNat).drop (evI ρ lo).toNat
 | .ofL l=>match bytesA (evL ρ l) with|some s=>s|none=>[]
def evL (ρ:List V):TL->List V
 | .var i=>vL (at' ρ i)
 | .nil=>[]
 | .snoc l i=>evL ρ l++[at' ρ i]
 | .cat a b=>evL ρ a++evL ρ b
 | .sub l lo hi=>((evL ρ l).take (evI ρ hi).toNat).drop (evI ρ lo).toNat
 | .ofS s=>(evS ρ s).map fun (b:Nat)=>.int .u8 b
end
def pd (pa:List Nat) (a:Nat):Nat:=match nth pa a with|some b=>b|none=>0
def lockV:V->V|.sl sz xs _=>.sl sz xs .lock|v=>v
def evC (ρ:List V) (pa:List Nat):C->V
 | .k v=>v
 | .v i true=>clr (at' ρ i)
 | .v i false=>at' ρ i
 | .i k t=>.int k (evI ρ t)
 | .b t=>.bool (evB ρ t)
 | .s t=>.str (evS ρ t)
 | .sl sz t o=>.sl sz (evL ρ t) o
 | .p a off=>.ptr (pd pa a) off
 | .lkd i=>lockV (at' ρ i)
def evCs (ρ:List V) (pa:List Nat):List C->List V
 | []=>[]
 | c::cs=>evC ρ pa c::evCs ρ pa cs
def evSC (ρ:List V) (pa:List Nat):SC->V
 | .one c=>evC ρ pa c
 | .agg cs=>.agg (evCs ρ pa cs)
def evSCs (ρ:List V) (pa:List Nat):List SC->List V
 | []=>[]
 | c::cs=>evSC ρ pa c::evSCs ρ pa cs
def qp (ρ:List V) (pa:List Nat):SV->Option V
 | .val x=>some (evSC ρ pa x)
 | .vp cs=>some (.vp (evCs ρ pa cs))
 | .tup xs=>some (.tup (evSCs ρ pa xs))
 | .gd c x=>some (bif evB ρ c then evSC ρ pa x else .tup [])
 | .unk=>none
 | .fn f cs=>some (.fn f [] (evCs ρ pa cs))
def kOk:CK->V->Bool
 | .raw,_=>true
 | .any,v=>oneV v && !(locked v)
 | .int k,.int k' _=>if k=k' then true else false
 | .bool,.bool _=>true
 | .str,.str _=>true
 | .sl _,.snil=>true
 | .sl sz,.sl sz' xs o=>Nat.beq sz sz' && !(locked (.sl sz' xs o))
 | .ifc,.nili=>true
 | .ifc,.ifc _ _=>true
 | _,_=>false
def ksOk:List CK->List V->Bool
 | [],[]=>true
 | k::ks,v::vs=>kOk k v && ksOk ks vs
 | _,_=>false
def zgr (v:V) (sz:Nat) (e:TypeId) (ys:List V):V :=
 match v with
 | .snil=>match ys with
  | []=>.snil
  | ys=>.sl sz ys (.yes e)
 | .sl _ xs _=>.sl sz (xs++ys) (.yes e)
 | _=>.junk
def zqf (v:V) (lo hi:Int):V :=
 match v with
 | .snil=>.snil
 | .sl sz xs _=>.sl sz ((xs.take hi.toNat).drop lo.toNat) .no
 | _=>.junk
def evVE (ρ:List V):VE->V
 | .sc x=>evSC ρ [] x
 | .app c sz e l=>zgr (evC ρ [] c) sz e (evL ρ l)
 | .slc i lo hi=>zqf (at' ρ i) (evI ρ lo) (evI ρ hi)
 | .ifc t x=>.ifc t (evSC ρ [] x)
 | .tup xs=>.tup (evSCs ρ [] xs)
def zbs {α:Type} (step:α->Option (Nat×α)):Nat->α->Option (Nat×α)
 | 0,_=>none
 | n+1,a=>match step a with
  | none=>none
  | some (0,a)=>zbs step n a
  | some (j+1,a)=>some (j,a)
def evA (ρ:List V):AS->AV
 | .d x=>.d (evSC ρ [] x)
 | .p j off=>.p j off
def evAs (ρ:List V):List AS->List AV
 | []=>[]
 | x::xs=>evA ρ x::evAs ρ xs
def evLent (ρ:List V):List (List C×TypeId)->List (List V×TypeId)
 | []=>[]
 | (cs,t)::r=>(evCs ρ [] cs,t)::evLent ρ r
def joinL:List (List V)->List V
 | []=>[]
 | l::r=>l++joinL r
def sizesOk:List (List C×TypeId)->List (List V)->Bool
 | [],[]=>true
 | (cs,_)::r,l::ls=>Nat.beq cs.length l.length && sizesOk r ls
 | _,_=>false
def evT (pc:FuncId->List AV->List (List V×TypeId)->Option (V×List (List V))) (gl:Nat->Nat->Option V) (N:Nat):Tree->List V->Option (Nat×List V)
 | .out vs,ρ=>some (0,evCs ρ [] vs)
 | .esc t,ρ=>match evT pc gl N t ρ with
  | some (j,vs)=>some (j+1,vs)
  | none=>none
 | .ite c a b,ρ=>bif evB ρ c then evT pc gl N a ρ else evT pc gl N b ρ
 | .need c t,ρ=>bif evB ρ c then evT pc gl N t ρ else none
 | .letv e t,ρ=>evT pc gl N t (ρ++[evVE ρ e])
 | .elem l i t,ρ=>if evI ρ i<0 then none else match nth (evL ρ l) (evI ρ i).toNat with
  | some v=>evT pc gl N t (ρ++[v])
  | none=>none
 | .sel cs i t,ρ=>if evI ρ i<0 then none else match nth (evCs ρ [] cs) (evI ρ i).toNat with
  | some v=>evT pc gl N t (ρ++[v])
  | none=>none
 | .opn i ks t,ρ=>match at' ρ i with
  | .agg cs=>bif ksOk ks cs then evT pc gl N t (ρ++cs) else none
  | _=>none
 | .unt i ks t,ρ=>match at' ρ i with
  | .tup cs=>bif ksOk ks cs then evT pc gl N t (ρ++cs) else none
  | _=>none
 | .kin i k t,ρ=>bif kOk k (at' ρ i) then evT pc gl N t ρ else none
 | .byt l t,ρ=>match bytesA (evL ρ l) with
  | some s=>evT pc gl N t (ρ++[.str s])
  | none=>none
 | .glob g off t,ρ=>match gl g off with
  | some v=>evT pc gl N t (ρ++[v])
  | none=>none
 | .call f args lent ks t,ρ=>match pc f (evAs ρ args) (evLent ρ lent) with
  | some (v,out)=>bif sizesOk lent out && ksOk ks (joinL out) then evT pc gl N t (ρ++(v::joinL out)) else none
  | none=>none
 | .loop ini body,ρ=>zbs (fun vs=>evT pc gl N body (ρ++vs)) N (evCs ρ [] ini)
 | .blk body t,ρ=>match evT pc gl N body ρ with
  | some (0,vs)=>evT pc gl N t (ρ++vs)
  | some (j+1,vs)=>some (j,vs)
  | none=>none
mutual
def smI:TI->TI->Bool
 | .var i,.var j=>Nat.beq i j
 | .lit a,.lit b=>a == b
 | .bin op k a b,.bin op' k' a' b'=>(if op=op' then true else false) && (if k=k' then true else false) && smI a a' && smI b b'
 | .conv k a,.conv k' a'=>(if k=k' then true else false) && smI a a'
 | .len a,.len a'=>smL a a'
 | .slen a,.slen a'=>smS a a'
 | .byte a b,.byte a' b'=>smS a a' && smI b b'
 | .ite c a b,.ite c' a' b'=>smB c c' && smI a a' && smI b b'
 | _,_=>false
def smB:TB->TB->Bool
 | .var i,.var j=>Nat.beq i j
 | .lit a,.lit b=>a == b
 | .not a,.not b=>smB a b
 | .and a b,.and a' b'=>smB a a' && smB b b'
 | .or a b,.or a' b'=>smB a a' && smB b b'
 | .beq a b,.beq a' b'=>smB a a' && smB b b'
 | .ite c a b,.ite c' a' b'=>smB c c' && smB a a' && smB b b'
 | .cmp op a b,.cmp op' a' b'=>(if op=op' then true else false) && smI a a' && smI b b'
 | .scmp op a b,.scmp op' a' b'=>(if op=op' then true else false) && smS a a' && smS b b'
 | .nili i,.nili j=>Nat.beq i j
 | .nill i,.nill j=>Nat.beq i j
 | _,_=>false
def smS:TS->TS->Bool
 | .var i,.var j=>Nat.beq i j
 | .lit a,.lit b=>eqL a b
 | .cat a b,.cat a' b'=>smS a a' && smS b b'
 | .sub a b c,.sub a' b' c'=>smS a a' && smI b b' && smI c c'
 | .ofL a,.ofL b=>smL a b
 | _,_=>false
def smL:TL->TL->Bool
 | .var i,.var j=>Nat.beq i j
 | .nil,.nil=>true
 | .snoc a i,.snoc b j=>smL a b && Nat.beq i j
 | .cat a b,.cat a' b'=>smL a a' && smL b b'
 | .sub a b c,.sub a' b' c'=>smL a a' && smI b b' && smI c c'
 | .ofS a,.ofS b=>smS a b
 | _,_=>false
end
def smC:C->C->Bool
 | .k v,.k w=>V.same v w
 | .v i a,.v j b=>Nat.beq i j && (a == b)
 | .i k t,.i k' t'=>(if k=k' then true else false) && smI t t'
 | .b t,.b t'=>smB t t'
 | .s t,.s t'=>smS t t'
 | .sl a t o,.sl a' t' o'=>Nat.beq a a' && smL t t' && (if o=o' then true else false)
 | .p a b,.p a' b'=>Nat.beq a a' && Nat.beq b b'
 | .lkd i,.lkd j=>Nat.beq i j
 | _,_=>false
mutual
def ltI (m:Nat):TI->Bool
 | .var i=>Nat.blt i m
 | .lit _=>true
 | .bin _ _ a b=>ltI m a && ltI m b
 | .conv _ a=>ltI m a
 | .len l=>zbt m l
 | .slen s=>ltS m s
 | .byte s i=>ltS m s && ltI m i
 | .ite c a b=>ltB m c && ltI m a && ltI m b
def ltB (m:Nat):TB->Bool
 | .var i=>Nat.blt i m
 | .lit _=>true
 | .not a=>ltB m a
 | .and a b=>ltB m a && ltB m b
 | .or a b=>ltB m a && ltB m b
 | .beq a b=>ltB m a && ltB m b
 | .ite c a b=>ltB m c && ltB m a && ltB m b
 | .cmp _ a b=>ltI m a && ltI m b
 | .scmp _ a b=>ltS m a && ltS m b
 | .nili i=>Nat.blt i m
 | .nill i=>Nat.blt i m
 | .own i _=>Nat.blt i m
 | .rights i=>Nat.blt i m
 | .room l _=>zbt m l
 | .sroom a b=>ltS m a && ltS m b
def ltS (m:Nat):TS->Bool
 | .var i=>Nat.blt i m
 | .lit _=>true
 | .cat a b=>ltS m a && ltS m b
 | .sub s a b=>ltS m s && ltI m a && ltI m b
 | .ofL l=>zbt m l
def zbt (m:Nat):TL->Bool
 | .var i=>Nat.blt i m
 | .nil=>true
 | .snoc l i=>zbt m l && Nat.blt i m
 | .cat a b=>zbt m a && zbt m b
 | .sub l a b=>zbt m l && ltI m a && ltI m b
 | .ofS s=>ltS m s
end
def ltC (m:Nat):C->Bool
 | .k _=>true
 | .v i _=>Nat.blt i m
 | .i _ t=>ltI m t
 | .b t=>ltB m t
 | .s t=>ltS m t
 | .sl _ t _=>zbt m t
 | .p _ _=>true
 | .lkd i=>Nat.blt i m
end Go.Vm.Sx
namespace Go.Vm.Sx
open Go Go.Vm
structure Sg where
 env:List SV
 blks:List (Nat×List C×TypeId)
 na:Nat
 ks:List CK
 lk:List (Nat×Nat)
 as:List TB
 nf:Nat
def zO (takes:List Tmp):Option Tmp->Bool
 | some d=>takes.any (Nat.beq d)
 | none=>false
def ya {α:Type} (f:α->Bool):List α->Bool
 | []=>false
 | x::xs=>match f x with|true=>true|false=>ya f xs
def zaX (as:List TB):TB->Option Bool
 | .lit b=>some b
 | .not a=>match zaX as a with
  | some b=>some (!b)
  | none=>if ya (smB (.not a)) as then some true else none
 | .and a b=>match zaX as a,zaX as b with
  | some true,some true=>some true
  | some false,_=>some false
  | _,some false=>some false
  | _,_=>if ya (smB (.and a b)) as then some true else if ya (smB (.not (.and a b))) as then some false else none
 | t=>if ya (smB t) as then some true else if ya (smB (.not t)) as then some false else none
def mkNot:TB->TB|.lit b=>.lit !b|.not a=>a|t=>.not t
def addAs0:TB->List TB->List TB
 | .and a b,as=>.and a b::addAs0 a (addAs0 b as)
 | .not (.or a b),as=>.not (.or a b)::mkNot a::mkNot b::as
 | t,as=>t::as
def propag:List TB->List TB->List TB
 | as,[]=>as
 | as,.not (.and a b)::r=>match zaX as a,zaX as b with
  | some true,none=>propag (mkNot b::as) r
  | none,some true=>propag (mkNot a::as) r
  | _,_=>propag as r
 | as,_::r=>propag as r
def vT (t:TB) (as:List TB):List TB:=propag (addAs0 t as) (addAs0 t as)
def xL (a b:TB):TB :=
 match a with
 | .lit true=>b
 | .lit false=>.lit false
 | _=>match b with
  | .lit true=>a
  | .lit false=>.lit false
  | _=>.and a b
def zmF (a b:TB):TB :=
 match a with
 | .lit true=>.lit true
 | .lit false=>b
 | _=>match b with
  | .lit true=>.lit true
  | .lit false=>a
  | _=>.or a b
def zmG (c a b:TB):TB :=
 match smB c a with
 | true=>zmF c b
 | false=>match smB c b with
  | true=>xL c a
  | false=>match a,b with
   | .lit true,b=>zmF c b
   | a,.lit false=>xL c a
   | .lit false,b=>xL (mkNot c) b
   | a,.lit true=>zmF (mkNot c) a
   | a,b=>.ite c a b
def tup0:SV:=.val (.one (.k (.tup [])))
def clrC:C->C
 | .sl sz t _=>.sl sz t .no
 | .v i _=>.v i true
 | .lkd i=>.v i true
 | .k v=>.k (clr v)
 | c=>c
def clrSC:SC->SC|.one c=>.one (clrC c)|.agg cs=>.agg cs
def clrSV:SV->SV|.val x=>.val (clrSC x)|x=>x
def cC:V->C
 | .int k n=>.i k (.lit n)
 | .bool b=>.b (.lit b)
 | .str s=>.s (.lit s)
 | v=>.k v
def cCs:List V->List C
 | []=>[]
 | v::vs=>cC v::cCs vs
def cSC:V->SC
 | .agg cs=>.agg (cCs cs)
 | v=>.one (cC v)
def zj3 (as:List TB):SV->Option SV
 | .gd c x=>match zaX as c with
  | some true=>some (.val x)
  | some false=>some tup0
  | none=>none
 | .unk=>none
 | sv=>some sv
def slot (σ:Sg) (t:Tmp):Option SV :=
 match nth σ.env t with
 | some sv=>zj3 σ.as sv
 | none=>none
def pk (σ:Sg):Operand->Option SV
 | .tmp t=>match slot σ t with
  | some sv=>some (clrSV sv)
  | none=>none
 | .const v=>match ofVal v with
  | some v=>some (.val (cSC v))
  | none=>none
 | _=>none
def pkC (σ:Sg) (x:Operand):Option C :=
 match pk σ x with
 | some (.val (.one c))=>some c
 | _=>none
def asI (ks:List CK):C->Option (IntKind×TI)
 | .i k t=>some (k,t)
 | .v i _=>match nth ks i with
  | some (.int k)=>some (k,.var i)
  | _=>none
 | .k (.int k n)=>some (k,.lit n)
 | _=>none
def asB (ks:List CK):C->Option TB
 | .b t=>some t
 | .v i _=>match nth ks i with
  | some .bool=>some (.var i)
  | _=>none
 | .k (.bool b)=>some (.lit b)
 | _=>none
def asS (ks:List CK):C->Option TS
 | .s t=>some t
 | .v i _=>match nth ks i with
  | some .str=>some (.var i)
  | _=>none
 | .k (.str l)=>some (.lit l)
 | _=>none
def asL (ks:List CK) (sz:Nat):C->Option TL
 | .sl sz' t _=>if Nat.beq sz sz' then some t else none
 | .v i _=>match nth ks i with
  | some (.sl sz')=>if Nat.beq sz sz' then some (.var i) else none
  | _=>none
 | .k .snil=>some .nil
 | _=>none
def pkI (σ:Sg) (x:Operand):Option (IntKind×TI):=match pkC σ x with|some c=>asI σ.ks c|none=>none
def pkB (σ:Sg) (x:Operand):Option TB:=match pkC σ x with|some c=>asB σ.ks c|none=>none
def pkS (σ:Sg) (x:Operand):Option TS:=match pkC σ x with|some c=>asS σ.ks c|none=>none
def xM (P:Program) (t:TypeId) (cs:List C) (off:Nat):Option SC :=
 match qC P t with
 | some true=>match zy P t with
  | some n=>if off+n<=cs.length then some (.agg ((cs.drop off).take n)) else none
  | none=>none
 | some false=>match nth cs off with
  | some c=>some (.one c)
  | none=>none
 | none=>none
def qy (a:Nat):List (Nat×List C×TypeId)->Option (List C×TypeId)
 | []=>none
 | (b,x)::r=>if Nat.beq a b then some x else qy a r
def zdR (a:Nat) (cs:List C):List (Nat×List C×TypeId)->List (Nat×List C×TypeId)
 | []=>[]
 | (b,x,t)::r=>if Nat.beq a b then (b,cs,t)::r else (b,x,t)::zdR a cs r
def isCmp:BinOp->Bool
 | .eql|.neq|.lss|.leq|.gtr|.geq=>true
 | _=>false
def isTot:BinOp->Bool
 | .add|.sub|.mul|.and|.or|.xor|.andNot=>true
 | _=>false
def zqg (ks:List CK) (ds:TypeDesc) (x y:C):Option TB :=
 match ds with
 | .bool=>match asB ks x,asB ks y with
  | some a,some b=>some (.beq a b)
  | _,_=>none
 | .int _=>match asI ks x,asI ks y with
  | some (k,a),some (k',b)=>if k=k' then some (.cmp .eql a b) else none
  | _,_=>none
 | .string=>match asS ks x,asS ks y with
  | some a,some b=>some (.scmp .eql a b)
  | _,_=>none
 | _=>none
def zj4 (P:Program) (eq:TypeId->SC->SC->Option TB):List Field->List C->List C->Option TB
 | [],_,_=>some (.lit true)
 | f::fs,xs,ys =>
  if f.name= "_" then none else
  match xM P f.type xs f.offset,xM P f.type ys f.offset with
  | some a,some b=>match eq f.type a b,zj4 P eq fs xs ys with
   | some t,some r=>some (xL t r)
   | _,_=>none
  | _,_=>none
def zj5 (P:Program) (eq:TypeId->SC->SC->Option TB) (e:TypeId) (n:Nat) (xs ys:List C):Nat->Nat->Option TB
 | _,0=>some (.lit true)
 | i,k+1 =>
  match xM P e xs (i * n),xM P e ys (i * n) with
  | some a,some b=>match eq e a b,zj5 P eq e n xs ys (i+1) k with
   | some t,some r=>some (xL t r)
   | _,_=>none
  | _,_=>none
def zmH (P:Program) (ks:List CK):Nat->TypeId->SC->SC->Option TB
 | 0,_,_,_=>none
 | d+1,t,x,y=>match P.underlying t with
  | none=>none
  | some ds=>match x,y with
   | .agg xs,.agg ys=>match ds with
    | .struct fs=>if P.stoodInHeld t then none else zj4 P (zmH P ks d) fs.toList xs ys
    | .array len e=>match zy P e with
     | some n=>zj5 P (zmH P ks d) e n xs ys 0 len
     | none=>none
    | _=>none
   | .one x,.one y=>zqg ks ds x y
   | _,_=>none
def zoH (P:Program) (σ:Sg) (t:TypeId) (x y:Operand) (u v:SV):Option TB :=
 match u,v with
 | .val (.agg a),.val (.agg b)=>if P.eqGuardType P.depth t then none else zmH P σ.ks 100 t (.agg a) (.agg b)
 | .val (.one a),.val (.one b) =>
  match asI σ.ks a,asI σ.ks b with
  | some (k,a),some (k',b)=>if k=k' then some (.cmp .eql a b) else none
  | _,_=>match asS σ.ks a,asS σ.ks b with
   | some a,some b=>some (.scmp .eql a b)
   | _,_=>match P.underlying t with
    | some .bool=>match asB σ.ks a,asB σ.ks b with
     | some a,some b=>some (.beq a b)
     | _,_=>none
    | some (.interface _)=>match a,b with
     | .v i _,.k .nili=>match nth σ.ks i,isConst y with
      | some .ifc,true=>some (.nili i)
      | _,_=>none
     | .k .nili,.v i _=>match nth σ.ks i,isConst x with
      | some .ifc,true=>some (.nili i)
      | _,_=>none
     | .k .nili,.k .nili=>if isConst x || isConst y then some (.lit true) else none
     | _,_=>none
    | some (.pointer _)=>match a,b with
     | .p _ _,.k .nilp=>some (.lit false)
     | .k .nilp,.p _ _=>some (.lit false)
     | .k .nilp,.k .nilp=>some (.lit true)
     | _,_=>none
    | _=>none
 | _,_=>none
def zqh (P:Program) (σ:Sg) (op:BinOp) (t:TypeId) (x y:Operand):Option SV :=
 match pk σ x,pk σ y with
 | some u,some v =>
  match op with
  | .eql=>match zoH P σ t x y u v with
   | some b=>some (.val (.one (.b b)))
   | none=>none
  | .neq=>match zoH P σ t x y u v with
   | some b=>some (.val (.one (.b (mkNot b))))
   | none=>none
  | _=>match u,v with
   | .val (.one a),.val (.one b)=>match asI σ.ks a,asI σ.ks b with
    | some (k,a),some (k',b)=>match isTot op,isCmp op,(if k=k' then true else false) with
     | true,_,true=>some (.val (.one (.i k (.bin op k a b))))
     | _,true,true=>some (.val (.one (.b (.cmp op a b))))
     | _,_,_=>none
    | _,_=>match asS σ.ks a,asS σ.ks b with
     | some a,some b=>if isCmp op then some (.val (.one (.b (.scmp op a b)))) else none
     | _,_=>none
   | _,_=>none
 | _,_=>none
def ckT (P:Program) (t:TypeId):Option CK :=
 match P.underlying t with
 | some (.int k)=>some (.int k)
 | some .bool=>some .bool
 | some .string=>some .str
 | some (.slice e)=>match zy P e with
  | some n=>some (.sl n)
  | none=>none
 | some (.interface _)=>some .ifc
 | some _=>some .any
 | none=>none
def layR:Nat->List CK->List CK
 | 0,_=>[]
 | n+1,l=>l++layR n l
def zpO (lay:TypeId->Option (List CK)):List Field->Option (List CK)
 | []=>some []
 | f::fs=>match lay f.type,zpO lay fs with
  | some a,some b=>some (a++b)
  | _,_=>none
def zmI (P:Program):Nat->TypeId->Option (List CK)
 | 0,_=>none
 | d+1,t=>match P.underlying t with
  | some (.struct fs)=>zpO (zmI P d) fs.toList
  | some (.array n e)=>match zmI P d e with
   | some l=>some (layR n l)
   | none=>none
  | _=>match ckT P t with
   | some k=>some [k]
   | none=>none
def lits:List CK->Nat->List C
 | [],_=>[]
 | _::ks,i=>.v i false::lits ks (i+1)
def yO (P:Program) (σ:Sg) (t:TypeId) (i:Nat) (k:Sg->SC->Option Tree):Option Tree :=
 match qC P t with
 | some true=>match zmI P 20 t with
  | some ks=>match k { σ with ks:=σ.ks++ks } (.agg (lits ks σ.ks.length)) with
   | some t=>some (.opn i ks t)
   | none=>none
  | none=>none
 | some false=>match ckT P t with
  | some ck=>match k { σ with ks:=σ.ks.set i ck } (.one (.v i false)) with
   | some t=>some (.kin i ck t)
   | none=>none
  | none=>none
 | none=>none
def cellsSC:SC->List C|.one c=>[c]|.agg cs=>cs
def clrCs:List C->List C
 | []=>[]
 | c::cs=>clrC c::clrCs cs
def laidSC:SC->List C|.one c=>[c]|.agg cs=>clrCs cs
def xN (ks:List CK):C->Bool
 | .k v=>Nat.beq v.top 0 && !(locked v)
 | .v i _=>match nth ks i with|some .any=>true|some (.int _)=>true|some .bool=>true|some .str=>true|some (.sl _)=>true|some .ifc=>true|_=>false
 | .i _ _|.b _|.s _=>true
 | .sl _ _ .lock=>false
 | .sl _ _ _=>true
 | _=>false
def kY (ks:List CK):List C->Bool
 | []=>true
 | c::cs=>xN ks c && kY ks cs
def zaY (ks:List CK):SC->Bool
 | .one c=>xN ks c
 | .agg cs=>kY ks cs
def zdd (ks:List CK):List SC->Bool
 | []=>true
 | c::cs=>zaY ks c && zdd ks cs
def zqi (ks:List CK):C->Bool
 | .k v=>oneV v
 | .v i _=>match nth ks i with|some .any=>true|some (.int _)=>true|some .bool=>true|some .str=>true|some (.sl _)=>true|some .ifc=>true|_=>false
 | .lkd _=>false
 | _=>true
def zle (ks:List CK):SC->Bool
 | .one c=>zqi ks c
 | .agg _=>true
def zhW (σ:Sg) (cells:List C) (place:Nat->Option (Nat×Nat)):List (Nat×Operand)->Option (List C)
 | []=>some cells
 | (i,x)::r=>match pk σ x,place i with
  | some (.val v),some (off,n)=>if zle σ.ks v && Nat.beq (cellsSC v).length n && Nat.ble (off+n) cells.length then zhW σ (storeCells cells off (cellsSC v)) place r else none
  | _,_=>none
def zja (P:Program) (σ:Sg) (t:TypeId) (parts:List (Nat×Operand)):Option (List C) :=
 match zU P t with
 | some (.agg z)=>match P.underlying t with
  | some (.struct fs)=>match zfM P fs with
   | some ps=>zhW σ (cCs z) (nth ps) parts
   | none=>none
  | some (.array _ e)=>match P.info? e with
   | some ie=>zhW σ (cCs z) (fun i=>some (i * ie.size,ie.size)) parts
   | none=>none
  | _=>none
 | _=>none
def zcQ (P:Program) (σ:Sg) (o:Op):Option SV :=
 match o with
 | .move x=>pk σ x
 | .pick c a b=>match pkB σ c with
  | none=>none
  | some t=>match zaX σ.as t with
   | some true=>pk σ a
   | some false=>pk σ b
   | none=>match pkC { σ with as:=vT t σ.as } a,pkC { σ with as:=vT (mkNot t) σ.as } b with
    | some a,some b=>match asB σ.ks a,asB σ.ks b with
     | some a,some b=>some (.val (.one (.b (zmG t a b))))
     | _,_=>match asI σ.ks a,asI σ.ks b with
      | some (k,a),some (k',b)=>if k=k' then some (.val (.one (.i k (.ite t a b)))) else none
      | _,_=>none
    | _,_=>none
 | .build t parts=>match zja P σ t parts.toList with
  | some cs=>some (.val (.agg cs))
  | none=>none
 | .load t a=>match pk σ a with
  | some (.vp cs)=>match xM P t cs 0 with
   | some x=>some (.val (clrSC x))
   | none=>none
  | some (.val (.one (.p a off)))=>match qy a σ.blks with
   | some (cs,_)=>match xM P t cs off with
    | some x=>some (.val (clrSC x))
    | none=>none
   | none=>none
  | _=>none
 | .nilCheck x=>match pk σ x with
  | some (.vp cs)=>some (.vp cs)
  | some (.val (.one (.p a off)))=>some (.val (.one (.p a off)))
  | _=>none
 | .binOp op t x y _=>zqh P σ op t x y
 | .unOp op _ x=>match op,pkC σ x with
  | .neg,some c=>match asI σ.ks c with
   | some (k,t)=>some (.val (.one (.i k (.bin .sub k (.lit 0) t))))
   | none=>none
  | .not,some c=>match asB σ.ks c with
   | some t=>some (.val (.one (.b (mkNot t))))
   | none=>none
  | _,_=>none
 | .convert a b x=>match P.underlying a,P.underlying b,pkC σ x with
  | some _,some (.int k),some c=>match asI σ.ks c with
   | some (_,t)=>some (.val (.one (.i k (.conv k t))))
   | none=>none
  | some .string,some .string,some c=>match asS σ.ks c with
   | some t=>some (.val (.one (.s t)))
   | none=>none
  | some .string,some (.slice e),some c=>match P.underlying e,asS σ.ks c with
   | some (.int .u8),some t=>some (.val (.one (.sl 1 (.ofS t) .no)))
   | _,_=>none
  | _,_,_=>none
 | .fieldAddr t x f=>match ji P t f,pk σ x with
  | some off,some (.vp cs)=>some (.vp (cs.drop off))
  | some off,some (.val (.one (.p a o)))=>some (.val (.one (.p a (o+off))))
  | _,_=>none
 | .field t x f=>match fieldAt P t f,pk σ x with
  | some (ft,off),some (.val (.agg cs))=>match xM P ft cs off with
   | some x=>some (.val (clrSC x))
   | none=>none
  | _,_=>none
 | .indexAddr t x ix=>match P.underlying t,pkI σ ix with
  | some (.array len e),some (_,.lit (.ofNat i))=>match zy P e,pk σ x with
   | some n,some (.vp cs)=>if Nat.blt i len then some (.vp (cs.drop (i * n))) else none
   | some n,some (.val (.one (.p a off)))=>if Nat.blt i len then some (.val (.one (.p a (off+i * n)))) else none
   | _,_=>none
  | _,_=>none
 | .index t x ix=>match P.underlying t,pkI σ ix with
  | some (.array len e),some (_,.lit (.ofNat i))=>match zy P e,pk σ x with
   | some n,some (.val (.agg cs))=>if Nat.blt i len then (match xM P e cs (i * n) with
    | some x=>some (.val (clrSC x))
    | none=>none) else none
   | _,_=>none
  | _,_=>none
 | .extract x i=>match pk σ x with
  | some (.tup xs)=>match nth xs i with
   | some x=>some (.val (clrSC x))
   | none=>none
  | _=>none
 | .call c=>match c.callee,c.args.toList,c.argTypes.toList with
  | .builtin .len,[x],[t]=>match P.underlying t,pkC σ x with
   | some .string,some c=>match asS σ.ks c with
    | some s=>some (.val (.one (.i .i64 (.slen s))))
    | none=>none
   | some (.slice e),some c=>match zy P e with
    | some n=>match asL σ.ks n c with
     | some l=>some (.val (.one (.i .i64 (.len l))))
     | none=>none
    | none=>none
   | _,_=>none
  | .builtin .min,[x,y],_=>match pkI σ x,pkI σ y with
   | some (k,a),some (k',b)=>if k=k' then some (.val (.one (.i k (.ite (.cmp .lss b a) b a)))) else none
   | _,_=>none
  | .builtin .max,[x,y],_=>match pkI σ x,pkI σ y with
   | some (k,a),some (k',b)=>if k=k' then some (.val (.one (.i k (.ite (.cmp .gtr b a) b a)))) else none
   | _,_=>none
  | _,_,_=>none
 | _=>none
abbrev KT:=Sg->SV->Option Tree
def wI (c:TB) (t:Option Tree):Option Tree :=
 match c with
 | .lit true=>t
 | c=>match t with
  | some t=>some (.need c t)
  | none=>none
def zlf (e:VE) (t:Option Tree):Option Tree:=match t with|some t=>some (.letv e t)|none=>none
def noYesSC:SC->Bool|.one (.k (.sl _ _ _))=>false|_=>true
def vU (σ:Sg) (x:Operand) (k:Sg->SC->Option Tree):Option Tree :=
 match x with
 | .tmp t=>match slot σ t with
  | some (.val (.one (.sl sz l (.yes e))))=>k { σ with env:=σ.env.set t (.val (.one (.sl sz l .no))) } (.one (.sl sz l (.yes e)))
  | some (.val (.one (.v i false)))=>match xN σ.ks (.v i false) with
   | true=>k { σ with env:=σ.env.set t (.val (.one (.v i true))) } (.one (.v i false))
   | false=>none
  | some (.val x)=>match noYesSC x with
   | true=>k σ (clrSC x)
   | false=>none
  | _=>none
 | x=>match pk σ x with
  | some (.val x)=>k σ x
  | _=>none
def vV (σ:Sg) (cs:List C) (t:TypeId):Sg:={ σ with blks:=(σ.na,cs,t)::σ.blks,na:=σ.na+1 }
def zoI (ks:List CK):C->Bool
 | .k v=>!(locked v)
 | .sl _ _ .lock=>false
 | .lkd _=>false
 | .v i _=>xN ks (.v i false)
 | _=>true
def zj6 (ks:List CK):List C->Bool
 | []=>true
 | c::cs=>zoI ks c && zj6 ks cs
def zmJ (lk:List (Nat×Nat)) (ks:List CK) (b:Nat):Nat->Nat->List C->Bool
 | _,0,_=>true
 | _,_,[]=>false
 | off,n+1,c::cs=>(ya (fun p=>Nat.beq p.1 b && Nat.beq p.2 off) lk || zoI ks c) && zmJ lk ks b (off+1) n cs
def zlg (x y:TL):TL :=
 match y with
 | .nil=>x
 | .snoc .nil i=>.snoc x i
 | y=>.cat x y
def isSnoc:TL->Bool|.snoc _ _=>true|_=>false
def zgs (P:Program) (σ:Sg) (t:TypeId) (x y:Operand) (k:KT):Option Tree :=
 match P.underlying t with
 | some (.slice e)=>match zy P e,P.info? e,pkC σ y with
  | some n,some i,some yc=>match i.zero,asL σ.ks n yc with
   | some z,some l=>if !Nat.beq z.cells.size n || Nat.beq n 0 then none else
    vU σ x fun σ x=>match x with
     | .one (.k .snil)=>match isSnoc l with
      | true=>wI (.room l i.bytes) (k σ (.val (.one (.sl n l (.yes e)))))
      | false=>wI (.room l i.bytes) (zlf (.app (.k .snil) n e l) (k { σ with ks:=σ.ks++[.sl n] } (.val (.one (.v σ.ks.length false)))))
     | .one (.sl sz xs (.yes e'))=>if Nat.beq e e' && Nat.beq n sz then wI (.room (zlg xs l) i.bytes) (k σ (.val (.one (.sl n (zlg xs l) (.yes e))))) else none
     | .one (.v j false)=>match nth σ.ks j with
      | some (.sl sz)=>if Nat.beq n sz then wI (.own j e) (wI (.room (zlg (.var j) l) i.bytes) (match isSnoc l with
        | true=>k σ (.val (.one (.sl n (zlg (.var j) l) (.yes e))))
        | false=>zlf (.app (.v j false) n e l) (k { σ with ks:=σ.ks++[.sl n] } (.val (.one (.v σ.ks.length false)))))) else none
      | _=>none
     | _=>none
   | _,_=>none
  | _,_,_=>none
 | _=>none
def zoJ (σ:Sg) (n:Nat) (k:Sg->TL->Option Tree):Nat->TL->List (Nat×Operand)->Option Tree
 | _,l,[]=>k σ l
 | j,l,(i,x)::r=>match pk σ x with
  | some (.val v)=>if Nat.beq i j && zle σ.ks v && zaY σ.ks v && Nat.beq (cellsSC v).length n then
    zlf (.sc v) (zoJ { σ with ks:=σ.ks++[.raw] } n k (j+1) (.snoc l σ.ks.length) r)
   else none
  | _=>none
def zdS (a:Nat):List Nat->Option Nat
 | []=>none
 | b::r=>match Nat.beq a b with
  | true=>some 0
  | false=>match zdS a r with
   | some i=>some (i+1)
   | none=>none
def pks (σ:Sg):List Nat->List Operand->Option (List AS×List Nat)
 | ns,[]=>some ([],ns)
 | ns,x::xs=>match pk σ x with
  | some (.val (.one (.p a off)))=>match zdS a ns with
   | some j=>match pks σ ns xs with
    | some (vs,ns)=>some (.p j off::vs,ns)
    | none=>none
   | none=>match pks σ (ns++[a]) xs with
    | some (vs,ns')=>some (.p ns.length off::vs,ns')
    | none=>none
  | some (.val v)=>match zaY σ.ks v,pks σ ns xs with
   | true,some (vs,ns)=>some (.d v::vs,ns)
   | _,_=>none
  | _=>none
def ckC (ks:List CK):C->CK
 | .k .nili=>.ifc|.k .nilp=>.any|.k (.sl n _ _)=>.sl n|.k _=>.any
 | .v i _=>match nth ks i with|some k=>k|none=>.raw
 | .i k _=>.int k
 | .b _=>.bool
 | .s _=>.str
 | .sl n _ _=>.sl n
 | _=>.any
def zfg (σ:Sg):List Nat->Option (List (List C×TypeId))
 | []=>some []
 | a::r=>match qy a σ.blks,zfg σ r with
  | some (cs,t),some l=>if kY σ.ks cs then some ((cs,t)::l) else none
  | _,_=>none
def zlh (σ:Sg):List Nat->List SV->Option (List AS×List Nat)
 | ns,[]=>some ([],ns)
 | ns,x::xs=>match x with
  | .val (.one (.p a off))=>match zdS a ns with
   | some j=>match zlh σ ns xs with
    | some (vs,ns)=>some (.p j off::vs,ns)
    | none=>none
   | none=>match zlh σ (ns++[a]) xs with
    | some (vs,ns')=>some (.p ns.length off::vs,ns')
    | none=>none
  | .val v=>match zaY σ.ks v,zlh σ ns xs with
   | true,some (vs,ns)=>some (.d v::vs,ns)
   | _,_=>none
  | _=>none
def zj7 (σ:Sg):List Operand->Option (List SV)
 | []=>some []
 | x::xs=>match pk σ x,zj7 σ xs with
  | some v,some vs=>some (v::vs)
  | _,_=>none
def zmK (σ:Sg):List Operand->Option (List C)
 | []=>some []
 | x::xs=>match pkC σ x,zmK σ xs with
  | some (.p a off),some cs=>some (.p a off::cs)
  | _,_=>none
def wD (ks:List CK):List (List C×TypeId)->List CK
 | []=>[]
 | (cs,_)::r=>cs.map (ckC ks)++wD ks r
def backB:List Nat->List (List C×TypeId)->Nat->List (Nat×List C×TypeId)->List (Nat×List C×TypeId)
 | a::ns,(cs,_)::r,i,bs=>backB ns r (i+cs.length) (zdR a (lits (cs.map fun _=>.raw) i) bs)
 | _,_,_,bs=>bs
def zoK (P:Program):List TypeId->Option (List CK)
 | []=>some []
 | t::ts=>match qC P t,zoK P ts with
  | some true,some r=>some (.raw::r)
  | some false,some r=>match ckT P t with
   | some k=>some (k::r)
   | none=>none
  | _,_=>none
def zdT (P:Program) (k:Sg->List SC->Option Tree):Sg->List TypeId->Nat->List SC->Option Tree
 | σ,[],_,acc=>k σ acc
 | σ,t::ts,i,acc=>match qC P t with
  | some true=>match zmI P 20 t with
   | some ks=>match zdT P k { σ with ks:=σ.ks++ks } ts (i+1) (acc++[.agg (lits ks σ.ks.length)]) with
    | some t=>some (.opn i ks t)
    | none=>none
   | none=>none
  | some false=>zdT P k σ ts (i+1) (acc++[.one (.v i false)])
  | none=>none
def zj8 (P:Program) (σ:Sg) (i:Nat) (k:KT):List TypeId->Option Tree
 | []=>k σ (.val (.one (.v i false)))
 | [t]=>yO P σ t i fun σ x=>k σ (.val x)
 | ts=>match zoK P ts with
  | some ks=>match zdT P (fun σ xs=>k σ (.tup xs)) { σ with ks:=σ.ks++ks } ts σ.ks.length [] with
   | some t=>some (.unt i ks t)
   | none=>none
  | none=>none
def zj9 (P:Program) (σ:Sg) (f:FuncId) (args:List Operand) (k:KT):Option Tree :=
 match P.funcs[f]?,pks σ [] args with
 | some fn,some (vs,ns)=>match fn.body,zfg σ ns with
  | some _,some lent=>match zj8 P { σ with ks:=σ.ks++(CK.raw::wD σ.ks lent),blks:=backB ns lent (σ.ks.length+1) σ.blks } σ.ks.length k fn.resultTypes.toList with
   | some t=>some (.call f vs lent (wD σ.ks lent) t)
   | none=>none
  | _,_=>none
 | _,_=>none
def allP:List C->Bool
 | []=>true
 | .p _ _::cs=>allP cs
 | _=>false
def zjb (P:Program) (σ:Sg) (x:Operand) (args:List Operand) (k:KT):Option Tree :=
 match pk σ x,zj7 σ args with
 | some (.fn (.func f) cs),some svs=>if !(allP cs) then none else match P.funcs[f]?,zlh σ [] (svs++cs.map fun c=>.val (.one c)) with
  | some fn,some (vs,ns)=>match fn.body,zfg σ ns with
   | some _,some lent=>match zj8 P { σ with ks:=σ.ks++(CK.raw::wD σ.ks lent),blks:=backB ns lent (σ.ks.length+1) σ.blks } σ.ks.length k fn.resultTypes.toList with
    | some t=>some (.call f vs lent (wD σ.ks lent) t)
    | none=>none
   | _,_=>none
  | _,_=>none
 | _,_=>none
def zdU (c:TB) (a b:Option Tree):Option Tree:=match a,b with|some a,some b=>some (.ite c a b)|_,_=>none
end Go.Vm.Sx
namespace Go.Vm.Sx
open Go Go.Vm
def zpP (σ:Sg) (e:VE) (ck:CK) (k:KT):Option Tree:=zlf e (k { σ with ks:=σ.ks++[ck] } (.val (.one (.v σ.ks.length false))))
def zmL (P:Program) (σ:Sg) (e:TypeId) (l:TL) (i:TI) (k:Sg->SC->Option Tree):Option Tree :=
 match yO P { σ with ks:=σ.ks++[.raw] } e σ.ks.length k with
 | some t=>some (.elem l i t)
 | none=>none
def zqj (P:Program) (σ:Sg) (e:TypeId) (cs:List C) (i:TI) (k:Sg->SC->Option Tree):Option Tree :=
 match yO P { σ with ks:=σ.ks++[.raw] } e σ.ks.length k with
 | some t=>some (.sel cs i t)
 | none=>none
def zli (i:TI) (f:Nat->SV) (k:KT):Sg->Nat->Nat->Option Tree
 | _,_,0=>some (.need (.lit false) (.out []))
 | σ,j,n+1=>match zaX σ.as (.cmp .eql i (.lit (.ofNat j))) with
  | some true=>k σ (f j)
  | some false=>zli i f k σ (j+1) n
  | none=>zdU (.cmp .eql i (.lit (.ofNat j))) (k { σ with as:=vT (.cmp .eql i (.lit (.ofNat j))) σ.as } (f j)) (zli i f k { σ with as:=vT (mkNot (.cmp .eql i (.lit (.ofNat j)))) σ.as } (j+1) n)
def zeV (σ:Sg) (x:Option Operand) (d:TI):Option TI :=
 match x with
 | none=>some d
 | some x=>match pkI σ x with
  | some (_,t)=>some t
  | none=>none
def wJ (P:Program) (σ:Sg) (o:Op) (k:KT):Option Tree :=
 match zcQ P σ o with
 | some v=>k σ v
 | none=>none
def zqk (σ:Sg):Operand->Option (Fn×List C)
 | .tmp t=>match slot σ t with
  | some (.fn f cs)=>some (f,cs)
  | _=>none
 | _=>none
def xOp (P:Program) (takes:List Tmp) (σ:Sg) (o:Oper) (k:KT):Option Tree :=
 let taken:=zO takes o.dst
 match o.op with
 | .move x=>match taken with
  | true=>vU σ x fun σ x=>k σ (.val x)
  | false=>wJ P σ o.op k
 | .assign x=>match zqk σ x with
  | some (f,cs)=>k σ (.fn f cs)
  | none=>vU σ x fun σ x=>k σ (.val x)
 | .pick c a b=>match zcQ P σ o.op with
  | some v=>k σ v
  | none=>match pkB σ c,pk σ a,pk σ b with
   | some t,some a,some b=>zdU t (k σ a) (k σ b)
   | _,_,_=>none
 | .load t a=>match taken with
  | true=>match qC P t,pk σ a with
   | some false,some (.val (.one (.p a off)))=>match qy a σ.blks with
    | some (cs,_)=>match nth cs off with
     | some (.k .snil)=>k σ (.val (.one (.k .snil)))
     | some (.sl sz l (.yes e))=>k { σ with blks:=zdR a (cs.set off (.sl sz l .lock)) σ.blks,lk:=(a,off)::σ.lk } (.val (.one (.sl sz l (.yes e))))
     | some (.v i false)=>match nth σ.ks i with
      | some (.sl _)=>wI (.rights i) (k { σ with blks:=zdR a (cs.set off (.lkd i)) σ.blks,lk:=(a,off)::σ.lk } (.val (.one (.v i false))))
      | _=>none
     | _=>none
    | none=>none
   | _,_=>none
  | false=>match a with
   | .global g=>match qC P t with
    | some false=>match yO P { σ with ks:=σ.ks++[.raw] } t σ.ks.length fun σ x=>k σ (.val (clrSC x)) with
     | some t=>some (.glob g 0 t)
     | none=>none
    | _=>none
   | _=>wJ P σ o.op k
 | .alloc t=>match zU P t with
  | some z=>if okC z then k (vV σ (cellsSC (cSC z)) t) (.val (.one (.p σ.na 0))) else none
  | none=>none
 | .box t x=>vU σ x fun σ x=>if zle σ.ks x then k (vV σ (laidSC x) t) (.val (.one (.p σ.na 0))) else none
 | .store t a x=>match pkC σ a with
  | some (.p a off)=>vU σ x fun σ x=>match zy P t,qy a σ.blks with
   | some n,some (cs,_) =>
    if (Nat.ble σ.nf a || kY σ.ks (laidSC x)) && zj6 σ.ks (laidSC x) && zle σ.ks x && Nat.beq (laidSC x).length n && Nat.ble (off+n) cs.length && zmJ σ.lk σ.ks a off n (cs.drop off) then
     k { σ with blks:=zdR a (storeCells cs off (laidSC x)) σ.blks } tup0
    else none
   | _,_=>none
  | _=>none
 | .binOp op _t x y _=>match op with
  | .quo|.rem=>match pkI σ x,pkI σ y with
   | some (kd,a),some (kd',b)=>if kd=kd' then wI (match b with|.lit (.ofNat (_+1))=>.lit true|b=>.not (.cmp .eql b (.lit 0))) (k σ (.val (.one (.i kd (.bin op kd a b))))) else none
   | _,_=>none
  | .shl|.shr=>match pkI σ x,pkI σ y with
   | some (kd,a),some (_,b)=>wI (match b with|.lit (.ofNat _)=>.lit true|b=>.cmp .geq b (.lit 0)) (k σ (.val (.one (.i kd (.bin op kd a b)))))
   | _,_=>none
  | .add=>match pkS σ x,pkS σ y with
   | some a,some b=>wI (.sroom a b) (k σ (.val (.one (.s (.cat a b)))))
   | _,_=>wJ P σ o.op k
  | _=>wJ P σ o.op k
 | .convert a b x=>match P.underlying a,P.underlying b,pkC σ x with
  | some (.slice e),some .string,some c=>match P.underlying e,asL σ.ks 1 c with
   | some (.int .u8),some l=>match smL l .nil with
    | true=>k σ (.val (.one (.s (.lit []))))
    | false=>match k { σ with ks:=σ.ks++[.str] } (.val (.one (.s (.var σ.ks.length)))) with
     | some t=>some (.byt l t)
     | none=>none
   | _,_=>none
  | _,_,_=>wJ P σ o.op k
 | .indexAddr t x ix=>match P.underlying t,pkI σ ix with
  | some (.slice e),some (_,i)=>match zy P e,pkC σ x with
   | some n,some c=>match asL σ.ks n c with
    | some l=>zmL P σ e l i fun σ x=>k σ (.vp (cellsSC x))
    | none=>none
   | _,_=>none
  | some (.array len e),some (_,i)=>match zcQ P σ o.op with
   | some v=>k σ v
   | none=>match zy P e,pk σ x with
    | some n,some (.vp cs)=>if Nat.ble len 16 then zli i (fun j=>.vp (cs.drop (j * n))) k σ 0 len else none
    | some n,some (.val (.one (.p a off)))=>if Nat.ble len 16 then zli i (fun j=>.val (.one (.p a (off+j * n)))) k σ 0 len else none
    | _,_=>none
  | _,_=>none
 | .index t x ix=>match P.underlying t,pkI σ ix with
  | some .string,some (_,i)=>match pkS σ x with
   | some s=>wI (.and (.cmp .geq i (.lit 0)) (.cmp .lss i (.slen s))) (k σ (.val (.one (.i .u8 (.byte s i)))))
   | none=>none
  | some (.array len e),some (_,i)=>match zcQ P σ o.op with
   | some v=>k σ v
   | none=>match zy P e,qC P e,pk σ x with
    | some 1,some false,some (.val (.agg cs))=>if Nat.ble len cs.length && kY σ.ks (cs.take len) then zqj P σ e (cs.take len) i fun σ x=>k σ (.val (clrSC x)) else none
    | _,_,_=>none
  | _,_=>none
 | .slice t x lo hi mx=>if mx.isSome || yI takes x lo hi then none else match P.underlying t,pkC σ x with
  | some .string,some c=>match asS σ.ks c with
   | some s=>match zeV σ lo (.lit 0),zeV σ hi (.slen s) with
    | some l,some h=>wI (xL (.cmp .leq (.lit 0) l) (.and (.cmp .leq l h) (.cmp .leq h (.slen s)))) (k σ (.val (.one (.s (.sub s l h)))))
    | _,_=>none
   | none=>none
  | some (.slice e),some c=>match zy P e with
   | some n=>match asL σ.ks n c with
    | some xs=>match zeV σ lo (.lit 0),zeV σ hi (.len xs) with
     | some l,some h=>wI (xL (.cmp .leq (.lit 0) l) (.and (.cmp .leq l h) (.cmp .leq h (.len xs)))) (match c with
      | .sl sz _ _=>k σ (.val (.one (.sl sz (.sub xs l h) .no)))
      | .v i _=>zpP σ (.slc i l h) (.sl n) k
      | .k .snil=>k σ (.val (.one (.k .snil)))
      | _=>none)
     | _,_=>none
    | none=>none
   | none=>none
  | _,_=>none
 | .buildSlice t len parts=>match P.underlying t with
  | some (.slice e)=>match zy P e,zU P e with
   | some n,some z=>if Nat.beq n 0 || Nat.blt 16777216 (len * n) || !Nat.beq z.cells.length n || !okC z || !Nat.beq parts.toList.length len then none else
    zoJ σ n (fun σ l=>k σ (.val (.one (.sl n l (.yes e))))) 0 .nil parts.toList
   | _,_=>none
  | _=>none
 | .makeInterface t x=>match pk σ x with
  | some (.val v)=>if zdr P t || !(zaY σ.ks v) then none else zpP σ (.ifc t v) .ifc k
  | _=>none
 | .call c=>match c.callee,c.args.toList,c.argTypes.toList with
  | .builtin .append,[x,y],[t,u]=>if Nat.beq t u then zgs P σ t x y k else none
  | .builtin _,_,_=>wJ P σ o.op k
  | .value (.func f),args,_=>zj9 P σ f args k
  | .value (.tmp t),args,_=>zjb P σ (.tmp t) args k
  | _,_,_=>none
 | .makeFunc f first cap=>match first.toList,zmK σ cap.toList with
  | [],some cs=>k σ (.fn f cs)
  | _,_=>none
 | _=>wJ P σ o.op k
def putS (σ:Sg) (dst:Option Tmp) (v:SV):Sg :=
 match dst with
 | some d=>{ σ with env:=σ.env.set d v }
 | none=>σ
inductive Gd where
 |yes|no|sym (c:TB)
def zoL (as:List TB) (t:TB):Option Gd :=
 match zaX as t with
 | some true=>some .yes
 | some false=>some .no
 | none=>some (.sym t)
def zfh (want:Bool) (t:TB):TB:=match want with|true=>t|false=>mkNot t
def zgt (σ:Sg) (all:Array Oper) (o:Oper):Option Gd :=
 match o.guard with
 | none=>some .yes
 | some (j,want)=>match (all[j]?).bind (·.dst) with
  | none=>none
  | some d=>match nth σ.env d with
   | some (.val (.one (.k (.tup _))))=>some .no
   | some (.val (.one c))=>match asB σ.ks c with
    | some t=>zoL σ.as (zfh want t)
    | none=>none
   | some (.gd g (.one c))=>match asB σ.ks c with
    | some t=>zoL σ.as (xL g (zfh want t))
    | none=>none
   | _=>none
def zlj (takes:List Tmp) (o:Oper):Bool:=match zO takes o.dst with
 | false=>true
 | true=>match o.op with
  | .move _|.assign _|.load _ _=>true
  | .call c=>match c.callee,c.args.toList,c.argTypes.toList with
   | .builtin .append,[_,_],[_,_]=>true
   | _,_,_=>false
  | _=>false
def zeW (P:Program) (all:Array Oper) (takes:List Tmp) (k:Sg->Option Tree):List Oper->Sg->Option Tree
 | [],σ=>k σ
 | o::os,σ=>if !(zlj takes o) then none else match zgt σ all o with
  | none=>none
  | some .no=>zeW P all takes k os (putS σ o.dst tup0)
  | some .yes=>xOp P takes σ o fun σ v=>zeW P all takes k os (putS σ o.dst v)
  | some (.sym c) =>
   let σ1:={ σ with as:=vT c σ.as }
   match (match o.dst with|some d=>!(zO takes (some d))|none=>false),zcQ P σ1 o.op with
   | true,some (.val x)=>zeW P all takes k os (putS σ o.dst (.gd c x))
   | _,_=>zdU c (xOp P takes σ1 o fun σ v=>zeW P all takes k os (putS σ o.dst v)) (zeW P all takes k os (putS { σ with as:=vT (mkNot c) σ.as } o.dst tup0))
inductive Cls where
 |free|rd (b:Nat)|call|wr (b:Nat)
def Cls.real:Cls->Bool|.wr _=>true|_=>false
def zgu (σ:Sg) (x:Operand):Bool :=
 match pkC σ x with
 | some (.s _)=>true
 | some (.sl _ _ _)=>true
 | some (.k .snil)=>true
 | some (.v i _)=>match nth σ.ks i with
  | some .str=>true
  | some (.sl _)=>true
  | _=>false
 | _=>false
def qY (takes:List Tmp) (σ:Sg) (o:Oper):Option Cls :=
 match o.op with
 | .load _ a=>match zO takes o.dst,a with
  | false,.global _=>some .free
  | tk,a=>match pk σ a,tk with
   | some (.val (.one (.p b _))),true=>some (.wr b)
   | some (.val (.one (.p b _))),false=>some (.rd b)
   | some (.vp _),false=>some .free
   | _,_=>none
 | .store _ a _=>match pkC σ a with
  | some (.p b _)=>some (.wr b)
  | _=>none
 | .alloc _=>some (.wr σ.na)
 | .box _ _=>some (.wr σ.na)
 | .call c=>match c.callee,c.args.toList with
  | .value (.func _),l=>match pks σ [] l with
   | some (_,[])=>some .call
   | _=>none
  | .builtin .len,[x]=>if zgu σ x then some .free else none
  | .builtin .append,[_,y]=>if zgu σ y then some .free else none
  | .builtin .min,_=>some .free
  | .builtin .max,_=>some .free
  | _,_=>none
 | .move _|.assign _|.pick _ _ _|.build _ _|.buildSlice _ _ _|.nilCheck _|.binOp ..|.unOp ..|.convert ..|.makeInterface _ _|.slice ..|.fieldAddr ..|.field ..|.indexAddr ..|.index ..|.typeAssert ..|.extract ..=>some .free
 | _=>none
structure DR where
 rec':Rec
 cls:Cls
def zmM (b:Nat):Cls->Bool|.wr a=>Nat.beq b a|_=>false
def zhX (m:Nat) (c:Cls) (ds:List DR):Bool :=
 match c with
 | .free|.call=>true
 | .rd b=>qu (fun d=>bit m d.rec'.idx || !(zmM b d.cls)) ds
 | .wr a=>qu (fun d=>bit m d.rec'.idx || (match d.cls with
  | .wr _=>false
  | .rd b=>!(Nat.beq b a) || ya (fun e=>e.cls.real && bit e.rec'.m d.rec'.idx) ds
  | _=>true)) ds
def zdV (takes:List Tmp) (all:Array Oper) (i m:Nat) (o:Oper):Rec:=⟨i,o,m,tmM takes o,Nat.lor (tmM takes o) (lkM all o),kS takes o,false,[],.junk⟩
def zbu (P:Program) (all:Array Oper) (takes:List Tmp) (k:Sg->Option Tree):Nat->List DR->List Oper->Sg->Option Tree
 | _,_,[],σ=>k σ
 | i,ds,o::os,σ=>if !(zlj takes o) then none else
  match qP (ds.map (·.rec')) o.after.toList with
  | none=>none
  | some m =>
   let r:=zdV takes all i m o
   if !(qu (qm r) (ds.map (·.rec'))) then none else
   let run (σ:Sg):Option Tree:=match qY takes σ o with
    | none=>none
    | some c=>if zhX m c ds then (xOp P takes σ o fun σ v=>zbu P all takes k (i+1) (⟨r,c⟩::ds) os (putS σ o.dst v)) else none
   let skip (σ:Sg):Option Tree:=zbu P all takes k (i+1) (⟨{ r with hp:=false },.free⟩::ds) os (putS σ o.dst tup0)
   match zgt σ all o with
   | none=>none
   | some .no=>skip σ
   | some .yes=>run σ
   | some (.sym c)=>zdU c (run { σ with as:=vT c σ.as }) (skip { σ with as:=vT (mkNot c) σ.as })
inductive GS where
 |drop|one (k:CK)|agg (ks:List CK)|cells (ks:List (Option CK))
structure JS where
 env:List (Nat×GS)
 blks:List (Nat×List (Option CK))
def zfi {α:Type} (n:Nat):List (Nat×α)->Option α
 | []=>none
 | (m,a)::r=>if Nat.beq n m then some a else zfi n r
def zhY (ks:List CK):List (Option CK)->List C->List CK×List C
 | some k::os,_::cs=>match zhY (ks++[k]) os cs with
  | (ks',r)=>(ks',.v ks.length false::r)
 | _::os,c::cs=>match zhY ks os cs with
  | (ks',r)=>(ks',c::r)
 | _,cs=>(ks,cs)
def zq0 (ks:List CK):GS->SV->List CK×SV
 | .drop,_=>(ks,.unk)
 | .one k,_=>(ks++[k],.val (.one (.v ks.length false)))
 | .agg l,_=>(ks++l,.val (.agg (lits l ks.length)))
 | .cells os,.val (.agg cs)=>match zhY ks os cs with
  | (ks,cs)=>(ks,.val (.agg cs))
 | .cells os,.vp cs=>match zhY ks os cs with
  | (ks,cs)=>(ks,.vp cs)
 | _,x=>(ks,x)
def zmN (js:List (Nat×GS)):Nat->List CK->List SV->List CK×List SV
 | _,ks,[]=>(ks,[])
 | i,ks,x::xs=>match (match zfi i js with
   | some g=>zq0 ks g x
   | none=>(ks,x)) with
  | (ks,x)=>match zmN js (i+1) ks xs with
   | (ks,xs)=>(ks,x::xs)
def zka (js:List (Nat×List (Option CK))):List CK->List (Nat×List C×TypeId)->List CK×List (Nat×List C×TypeId)
 | ks,[]=>(ks,[])
 | ks,(a,cs,t)::r=>match (match zfi a js with
   | some os=>zhY ks os cs
   | none=>(ks,cs)) with
  | (ks,cs)=>match zka js ks r with
   | (ks,r)=>(ks,(a,cs,t)::r)
def gen (js:JS) (σ:Sg):Sg :=
 match zmN js.env 0 σ.ks σ.env with
 | (ks,env)=>match zka js.blks ks σ.blks with
  | (ks,blks)=>{ env,blks,na:=σ.na,ks,lk:=[],as:=[],nf:=σ.nf }
def zdW (ks:List CK) (ck:CK):C->Bool
 | .k v=>kOk ck v
 | .v i _=>match nth ks i with
  | some k=>if k=ck then true else false
  | none=>false
 | .i k _=>match ck with|.int k'=>(if k=k' then true else false)|_=>false
 | .b _=>match ck with|.bool=>true|_=>false
 | .s _=>match ck with|.str=>true|_=>false
 | .sl sz _ o=>match ck with|.sl sz'=>Nat.beq sz' sz && (match o with|.lock=>false|_=>true)|_=>false
 | _=>false
def zoM (na base nxt:Nat) (kJ ks:List CK) (cJ c:C):Option (List C) :=
 match cJ with
 | .v j false=>match Nat.blt j base with
  | true=>if smC (.v j false) c then some [] else none
  | false=>match nth kJ j with
   | some ck=>if Nat.beq j nxt && zdW ks ck c && xN ks c then some [c] else none
   | none=>none
 | .p a off=>if smC (.p a off) c && Nat.blt a na then some [] else none
 | cJ=>if smC cJ c && ltC base cJ then some [] else none
def zdX (na base nxt:Nat) (kJ ks:List CK):List C->List C->Option (List C)
 | [],[]=>some []
 | a::as,b::bs=>match zoM na base nxt kJ ks a b with
  | some x=>match zdX na base (nxt+x.length) kJ ks as bs with
   | some y=>some (x++y)
   | none=>none
  | none=>none
 | _,_=>none
def zkb (na base nxt:Nat) (kJ ks:List CK):SC->SC->Option (List C)
 | .one a,.one b=>zoM na base nxt kJ ks a b
 | .agg a,.agg b=>zdX na base nxt kJ ks a b
 | _,_=>none
def zgv (na base nxt:Nat) (kJ ks:List CK):List SC->List SC->Option (List C)
 | [],[]=>some []
 | a::as,b::bs=>match zkb na base nxt kJ ks a b with
  | some x=>match zgv na base (nxt+x.length) kJ ks as bs with
   | some y=>some (x++y)
   | none=>none
  | none=>none
 | _,_=>none
def zfj (na base nxt:Nat) (kJ ks:List CK):SV->SV->Option (List C)
 | .unk,_=>some []
 | .val a,.val b=>zkb na base nxt kJ ks a b
 | .vp a,.vp b=>zdX na base nxt kJ ks a b
 | .tup a,.tup b=>zgv na base nxt kJ ks a b
 | .fn f a,.fn g b=>if f=g then zdX na base nxt kJ ks a b else none
 | _,_=>none
def zgw (na base nxt:Nat) (kJ ks:List CK):List SV->List SV->Option (List C)
 | [],[]=>some []
 | a::as,b::bs=>match zfj na base nxt kJ ks a b with
  | some x=>match zgw na base (nxt+x.length) kJ ks as bs with
   | some y=>some (x++y)
   | none=>none
  | none=>none
 | _,_=>none
def zde (na base nxt:Nat) (kJ ks:List CK) (σ':List (Nat×List C×TypeId)):List (Nat×List C×TypeId)->Option (List C)
 | []=>some []
 | (a,cs,t)::r=>match qy a σ' with
  | some (cs',t')=>if Nat.beq t t' && Nat.blt a na then (match zdX na base nxt kJ ks cs cs' with
   | some x=>match zde na base (nxt+x.length) kJ ks σ' r with
    | some y=>some (x++y)
    | none=>none
   | none=>none) else none
  | none=>none
def preK:List CK->List CK->Bool
 | [],_=>true
 | a::as,b::bs=>if a=b then preK as bs else false
 | _::_,[]=>false
def okJ (σ σJ:Sg):Bool:=preK σ.ks σJ.ks && σJ.as.isEmpty && σJ.lk.isEmpty && Nat.beq σ.na σJ.na && Nat.beq σ.nf σJ.nf
def fit (base:Nat) (σJ σ':Sg):Option (List C) :=
 match zgw σJ.na base base σJ.ks σ'.ks σJ.env σ'.env with
 | some x=>match zde σJ.na base (base+x.length) σJ.ks σ'.ks σ'.blks σJ.blks with
  | some y=>if Nat.beq (base+(x++y).length) σJ.ks.length && Nat.ble σJ.na σ'.na && Nat.beq σJ.nf σ'.nf then some (x++y) else none
  | none=>none
 | none=>none
inductive XE where
 |normal|exit (id:Nat)|ret
def zmO (v:Option (List C)):Option Tree:=match v with|some v=>some (.out v)|none=>none
def zlk (t:Option Tree):Option Tree:=match t with|some t=>some (.esc t)|none=>none
abbrev KE:=XE->Sg->Option Tree
def zmP (js:JS) (σ:Sg) (body:KE->Option Tree) (pick:XE->Bool) (k:KE) (next:Sg->Option Tree):Option Tree :=
 let σJ:=gen js σ
 if !(okJ σ σJ) then none else
 match body (fun e σ'=>match pick e with
  | true=>zmO (fit σ.ks.length σJ σ')
  | false=>zlk (k e σ')),next σJ with
 | some b,some t=>some (.blk b t)
 | _,_=>none
def jc (P:Program) (hs:List (Nat×JS)):Nat->Code->Sg->KE->Option Tree
 | _,.skip,σ,k=>k .normal σ
 | _,.label _,σ,k=>k .normal σ
 | _,.region _ ops false,σ,k=>zeW P ops (qb ops) (fun σ=>k .normal σ) ops.toList { σ with lk:=[] }
 | _,.region _ ops true,σ,k=>zbu P ops (qb ops) (fun σ=>k .normal σ) 0 [] ops.toList { σ with lk:=[] }
 | p,.seq a b,σ,k=>match zfi p hs with
  | none=>jc P hs (2 * p) a σ fun e σ=>match e with
   | .normal=>jc P hs (2 * p+1) b σ k
   | e=>k e σ
  | some js=>zmP js σ (fun k=>jc P hs (2 * p) a σ k) (fun e=>match e with|.normal=>true|_=>false) k fun σJ=>jc P hs (2 * p+1) b σJ k
 | p,.cond c a b,σ,k=>match pkB σ c with
  | none=>none
  | some t=>match zaX σ.as t with
   | some true=>jc P hs (2 * p) a σ k
   | some false=>jc P hs (2 * p+1) b σ k
   | none=>zdU t (jc P hs (2 * p) a { σ with as:=vT t σ.as } k) (jc P hs (2 * p+1) b { σ with as:=vT (mkNot t) σ.as } k)
 | p,.block id c,σ,k=>match zfi p hs with
  | none=>jc P hs (2 * p) c σ fun e σ=>match e with
   | .exit i=>match Nat.beq i id with
    | true=>k .normal σ
    | false=>k (.exit i) σ
   | e=>k e σ
  | some js=>zmP js σ (fun k=>jc P hs (2 * p) c σ k) (fun e=>match e with|.exit i=>Nat.beq i id|.normal=>true|_=>false) k fun σJ=>k .normal σJ
 | p,.loop c,σ,k=>match zfi p hs with
  | none=>none
  | some js =>
   let σJ:=gen js σ
   if !(okJ σ σJ) then none else
   match fit σ.ks.length σJ σ,jc P hs (2 * p) c σJ (fun e σ'=>match e with
    | .normal=>zmO (fit σ.ks.length σJ σ')
    | e=>zlk (k e σ')) with
   | some ini,some body=>some (.loop ini body)
   | _,_=>none
 | _,.exit id,σ,k=>k (.exit id) σ
 | _,.ret,σ,k=>k .ret σ
 | p,.scope c,σ,k=>jc P hs (2 * p) c σ k
 | _,_,_,_=>none
def yP (P:Program) (k:Sg->List SV->Option Tree):Sg->List TypeId->Nat->Nat->List SV->Option Tree
 | σ,[],_,_,acc=>k σ acc
 | σ,t::ts,i,j,acc=>match P.underlying t with
  | some (.pointer _)=>yP P k σ ts (i+1) (j+1) (acc++[.val (.one (.p j 0))])
  | _=>yO P σ t i fun σ x=>yP P k σ ts (i+1) j (acc++[.val x])
def jB (P:Program):List TypeId->Option (List (TypeId×List CK))
 | []=>some []
 | t::ts=>match P.underlying t,jB P ts with
  | some (.pointer e),some r=>match zmI P 20 e with
   | some ks=>some ((e,ks)::r)
   | none=>none
  | some _,some r=>some r
  | _,_=>none
def lentBlks:List (TypeId×List CK)->Nat->Nat->List (Nat×List C×TypeId)
 | [],_,_=>[]
 | (e,ks)::r,j,i=>(j,lits ks i,e)::lentBlks r (j+1) (i+ks.length)
def lentKs:List (TypeId×List CK)->List CK
 | []=>[]
 | (_,ks)::r=>ks++lentKs r
def zkc (k:Sg->Option Tree):Sg->List CK->Nat->Option Tree
 | σ,[],_=>k σ
 | σ,ck::cks,i=>match zkc k { σ with ks:=σ.ks.set i ck } cks (i+1) with
  | some t=>some (.kin i ck t)
  | none=>none
def zkd (σ:Sg) (t:Tmp):Option SC :=
 match nth σ.env t with
 | some sv=>match zj3 σ.as sv with
  | some (.val x)=>some x
  | _=>none
 | none=>none
def zll (P:Program) (σ:Sg):List ResultVar->Option (List SC)
 | []=>some []
 | .tmp t::r=>match zkd σ t,zll P σ r with
  | some x,some xs=>some (x::xs)
  | _,_=>none
 | .cell a t::r=>match zkd σ a with
  | some (.one (.p a off))=>match qy a σ.blks with
   | some (cs,_)=>match xM P t cs off,zll P σ r with
    | some x,some xs=>some (clrSC x::xs)
    | _,_=>none
   | none=>none
  | _=>none
def clrSCs:List SC->List SC
 | []=>[]
 | x::xs=>clrSC x::clrSCs xs
def zdY (σ:Sg):Nat->List (TypeId×List CK)->Option (List C)
 | _,[]=>some []
 | j,(e,ks)::r=>match qy j σ.blks,zdY σ (j+1) r with
  | some (cs,t),some o=>if kY σ.ks cs && Nat.beq t e && Nat.beq cs.length ks.length then some (cs++o) else none
  | _,_=>none
def zmQ (P:Program) (lent:List (TypeId×List CK)) (rs:List ResultVar) (σ:Sg):Option Tree :=
 if !(Nat.beq σ.nf lent.length) then none else
 match zll P σ rs,zdY σ 0 lent with
 | some [x],some o=>if zaY σ.ks x then some (.letv (.sc x) (.out (.v σ.ks.length false::o))) else none
 | some xs,some o=>if zdd σ.ks xs then some (.letv (.tup (clrSCs xs)) (.out (.v σ.ks.length false::o))) else none
 | _,_=>none
def yQ (P:Program) (hs:List (Nat×JS)) (f:FuncId):Option Tree :=
 match P.funcs[f]? with
 | none=>none
 | some fn=>match fn.body,jB P fn.params.toList with
  | some body,some lent =>
   zkc (fun σ=>yP P (fun σ svs=>jc P hs 1 body { σ with env:=svs++List.replicate (fn.ntmps - svs.length) tup0 } fun e σ=>match e with
     | .normal=>zmQ P lent fn.results.toList σ
     | .ret=>zmQ P lent fn.results.toList σ
     | .exit _=>none) σ fn.params.toList 0 0 [])
    ⟨[],lentBlks lent 0 fn.params.toList.length,lent.length,List.replicate (fn.params.toList.length+(lentKs lent).length) .raw,[],[],lent.length⟩ (lentKs lent) fn.params.toList.length
  | _,_=>none
end Go.Vm.Sx
namespace Go.Vm.Sx
open Go Go.Vm
theorem yb (ρ:List V) (i:Nat):at' ρ i=(ρ[i]?).getD .junk:=by
 simp only [at',zd];cases ρ[i]?<;>rfl
theorem jH {ρ x:List V} {i:Nat} (h:i<ρ.length):at' (ρ++x) i=at' ρ i:=by
 simp [yb,zAR h]
theorem qJ {a b:Nat} (h:Nat.beq a b=true):a=b:=zAJ h
theorem zc2 {p:Prop} [Decidable p] (h:(if p then true else false)=true):p:=by
 by_cases hp:p
 ·exact hp
 ·simp [hp] at h
theorem zaB {a b:Nat} (h:Nat.blt a b=true):a<b:=zAf h
theorem zql {a b:Nat} (h:Nat.ble a b=true):a<=b:=zAf h
mutual
theorem kZ (ρ:List V):∀ {a b:TI},smI a b=true->evI ρ a=evI ρ b
 | .var i,b,h=>by cases b<;>simp only [smI,zAH] at h;rw [qJ h]
 | .lit i,b,h=>by cases b<;>simp only [smI,zAH] at h;simp only [evI];exact eq_of_beq h
 | .bin op k x y,b,h=>by
  cases b<;>simp only [smI,zAH,zAC] at h;obtain ⟨⟨⟨h1,h2⟩,h3⟩,h4⟩:=h;simp only [evI,zc2 h1,zc2 h2,kZ ρ h3,kZ ρ h4]
 | .conv k x,b,h=>by
  cases b<;>simp only [smI,zAH,zAC] at h;simp only [evI,zc2 h.1,kZ ρ h.2]
 | .len x,b,h=>by cases b<;>simp only [smI,zAH] at h;simp only [evI,xO ρ h]
 | .slen x,b,h=>by cases b<;>simp only [smI,zAH] at h;simp only [evI,yR ρ h]
 | .byte x y,b,h=>by
  cases b<;>simp only [smI,zAH,zAC] at h;simp only [evI,yR ρ h.1,kZ ρ h.2]
 | .ite c x y,b,h=>by
  cases b<;>simp only [smI,zAH,zAC] at h;simp only [evI,jX ρ h.1.1,kZ ρ h.1.2,kZ ρ h.2]
theorem jX (ρ:List V):∀ {a b:TB},smB a b=true->evB ρ a=evB ρ b
 | .var i,b,h=>by cases b<;>simp only [smB,zAH] at h;rw [qJ h]
 | .lit i,b,h=>by cases b<;>simp only [smB,zAH] at h;simp only [evB];exact eq_of_beq h
 | .not x,b,h=>by cases b<;>simp only [smB,zAH] at h;simp only [evB,jX ρ h]
 | .and x y,b,h=>by
  cases b<;>simp only [smB,zAH,zAC] at h;simp only [evB,jX ρ h.1,jX ρ h.2]
 | .or x y,b,h=>by
  cases b<;>simp only [smB,zAH,zAC] at h;simp only [evB,jX ρ h.1,jX ρ h.2]
 | .beq x y,b,h=>by
  cases b<;>simp only [smB,zAH,zAC] at h;simp only [evB,jX ρ h.1,jX ρ h.2]
 | .ite c x y,b,h=>by
  cases b<;>simp only [smB,zAH,zAC] at h;simp only [evB,jX ρ h.1.1,jX ρ h.1.2,jX ρ h.2]
 | .cmp op x y,b,h=>by
  cases b<;>simp only [smB,zAH,zAC] at h;simp only [evB,zc2 h.1.1,kZ ρ h.1.2,kZ ρ h.2]
 | .scmp op x y,b,h=>by
  cases b<;>simp only [smB,zAH,zAC] at h;simp only [evB,zc2 h.1.1,yR ρ h.1.2,yR ρ h.2]
 | .nili i,b,h=>by cases b<;>simp only [smB,zAH] at h;rw [qJ h]
 | .nill i,b,h=>by cases b<;>simp only [smB,zAH] at h;rw [qJ h]
 | .own _ _,b,h=>by cases b<;>simp only [smB,zAH] at h
 | .rights _,b,h=>by cases b<;>simp only [smB,zAH] at h
 | .room _ _,b,h=>by cases b<;>simp only [smB,zAH] at h
 | .sroom _ _,b,h=>by cases b<;>simp only [smB,zAH] at h
theorem yR (ρ:List V):∀ {a b:TS},smS a b=true->evS ρ a=evS ρ b
 | .var i,b,h=>by cases b<;>simp only [smS,zAH] at h;rw [qJ h]
 | .lit i,b,h=>by cases b<;>simp only [smS,zAH] at h;simp only [evS];exact eqL_eq h
 | .cat x y,b,h=>by
  cases b<;>simp only [smS,zAH,zAC] at h;simp only [evS,yR ρ h.1,yR ρ h.2]
 | .sub x y z,b,h=>by
  cases b<;>simp only [smS,zAH,zAC] at h;simp only [evS,yR ρ h.1.1,kZ ρ h.1.2,kZ ρ h.2]
 | .ofL x,b,h=>by cases b<;>simp only [smS,zAH] at h;simp only [evS,xO ρ h]
theorem xO (ρ:List V):∀ {a b:TL},smL a b=true->evL ρ a=evL ρ b
 | .var i,b,h=>by cases b<;>simp only [smL,zAH] at h;rw [qJ h]
 | .nil,b,h=>by cases b<;>simp only [smL,zAH] at h;rfl
 | .snoc x i,b,h=>by
  cases b<;>simp only [smL,zAH,zAC] at h;simp only [evL,xO ρ h.1,qJ h.2]
 | .cat x y,b,h=>by
  cases b<;>simp only [smL,zAH,zAC] at h;simp only [evL,xO ρ h.1,xO ρ h.2]
 | .sub x y z,b,h=>by
  cases b<;>simp only [smL,zAH,zAC] at h;simp only [evL,xO ρ h.1.1,kZ ρ h.1.2,kZ ρ h.2]
 | .ofS x,b,h=>by cases b<;>simp only [smL,zAH] at h;simp only [evL,yR ρ h]
end
mutual
theorem wa {ρ:List V} (x:List V):∀ {a:TI},ltI ρ.length a=true->evI (ρ++x) a=evI ρ a
 | .var i,h=>by simp only [ltI] at h;simp only [evI,jH (zaB h)]
 | .lit i,h=>rfl
 | .bin op k a b,h=>by simp only [ltI,zAC] at h;simp only [evI,wa x h.1,wa x h.2]
 | .conv k a,h=>by simp only [ltI] at h;simp only [evI,wa x h]
 | .len a,h=>by simp only [ltI] at h;simp only [evI,xP x h]
 | .slen a,h=>by simp only [ltI] at h;simp only [evI,vA x h]
 | .byte a b,h=>by simp only [ltI,zAC] at h;simp only [evI,vA x h.1,wa x h.2]
 | .ite c a b,h=>by simp only [ltI,zAC] at h;simp only [evI,wF x h.1.1,wa x h.1.2,wa x h.2]
theorem wF {ρ:List V} (x:List V):∀ {a:TB},ltB ρ.length a=true->evB (ρ++x) a=evB ρ a
 | .var i,h=>by simp only [ltB] at h;simp only [evB,jH (zaB h)]
 | .lit i,h=>rfl
 | .not a,h=>by simp only [ltB] at h;simp only [evB,wF x h]
 | .and a b,h=>by simp only [ltB,zAC] at h;simp only [evB,wF x h.1,wF x h.2]
 | .or a b,h=>by simp only [ltB,zAC] at h;simp only [evB,wF x h.1,wF x h.2]
 | .beq a b,h=>by simp only [ltB,zAC] at h;simp only [evB,wF x h.1,wF x h.2]
 | .ite c a b,h=>by simp only [ltB,zAC] at h;simp only [evB,wF x h.1.1,wF x h.1.2,wF x h.2]
 | .cmp op a b,h=>by simp only [ltB,zAC] at h;simp only [evB,wa x h.1,wa x h.2]
 | .scmp op a b,h=>by simp only [ltB,zAC] at h;simp only [evB,vA x h.1,vA x h.2]
 | .nili i,h=>by simp only [ltB] at h;simp only [evB,jH (zaB h)]
 | .nill i,h=>by simp only [ltB] at h;simp only [evB,jH (zaB h)]
 | .own i e,h=>by simp only [ltB] at h;simp only [evB,jH (zaB h)]
 | .rights i,h=>by simp only [ltB] at h;simp only [evB,jH (zaB h)]
 | .room l n,h=>by simp only [ltB] at h;simp only [evB,xP x h]
 | .sroom a b,h=>by simp only [ltB,zAC] at h;simp only [evB,vA x h.1,vA x h.2]
theorem vA {ρ:List V} (x:List V):∀ {a:TS},ltS ρ.length a=true->evS (ρ++x) a=evS ρ a
 | .var i,h=>by simp only [ltS] at h;simp only [evS,jH (zaB h)]
 | .lit i,h=>rfl
 | .cat a b,h=>by simp only [ltS,zAC] at h;simp only [evS,vA x h.1,vA x h.2]
 | .sub a b c,h=>by simp only [ltS,zAC] at h;simp only [evS,vA x h.1.1,wa x h.1.2,wa x h.2]
 | .ofL a,h=>by simp only [ltS] at h;simp only [evS,xP x h]
theorem xP {ρ:List V} (x:List V):∀ {a:TL},zbt ρ.length a=true->evL (ρ++x) a=evL ρ a
 | .var i,h=>by simp only [zbt] at h;simp only [evL,jH (zaB h)]
 | .nil,h=>rfl
 | .snoc a i,h=>by simp only [zbt,zAC] at h;simp only [evL,xP x h.1,jH (zaB h.2)]
 | .cat a b,h=>by simp only [zbt,zAC] at h;simp only [evL,xP x h.1,xP x h.2]
 | .sub a b c,h=>by simp only [zbt,zAC] at h;simp only [evL,xP x h.1.1,wa x h.1.2,wa x h.2]
 | .ofS a,h=>by simp only [zbt] at h;simp only [evL,vA x h]
end
theorem zqm (ρ:List V) (pa:List Nat) {a b:C} (h:smC a b=true):evC ρ pa a=evC ρ pa b:=by
 cases a<;>cases b<;>simp only [smC,zAH,zAC] at h
 ·simp only [evC];exact V.same_eq h
 ·obtain ⟨h1,h2⟩:=h;have:=qJ h1;have:=eq_of_beq h2;subst_vars;rfl
 ·simp only [evC,zc2 h.1,kZ ρ h.2]
 ·simp only [evC,jX ρ h]
 ·simp only [evC,yR ρ h]
 ·simp only [evC,qJ h.1.1,xO ρ h.1.2,zc2 h.2]
 ·simp only [evC,qJ h.1,qJ h.2]
 ·simp only [evC,qJ h]
theorem nth_app {α:Type} {l x:List α} {i:Nat} {a:α} (h:nth l i=some a):nth (l++x) i=some a:=by
 rw [zd] at h ⊢;obtain ⟨hi,_⟩:=zAB.1 h;rw [zAR hi,h]
theorem zmR {ρ:List V} (x:List V) {pa:List Nat} {c:C} (h:ltC ρ.length c=true):evC (ρ++x) pa c=evC ρ pa c:=by
 cases c<;>simp only [ltC] at h<;>simp only [evC]
 ·rename_i i cl;cases cl<;>simp only [jH (zaB h)]
 ·rw [wa x h]
 ·rw [wF x h]
 ·rw [vA x h]
 ·rw [xP x h]
 ·rw [jH (zaB h)]
theorem zgx {α:Type} {f:α->Bool}:∀ {l:List α},ya f l=true->∃ x∈l,f x=true
 | x::xs,h=>by
  simp only [ya] at h;split at h
  ·rename_i hx;exact ⟨x,zAL,hx⟩
  ·obtain ⟨y,hy,hf⟩:=zgx h;exact ⟨y,zAE _ hy,hf⟩
theorem qK (ρ:List V) (a:TB):evB ρ (mkNot a)=!(evB ρ a):=by
 unfold mkNot;split<;>simp [evB]
theorem vC (ρ:List V) (a b:TB):evB ρ (xL a b)=(evB ρ a && evB ρ b):=by
 unfold xL;split<;>(try split)<;>simp [evB]
theorem zke (ρ:List V) (a b:TB):evB ρ (zmF a b)=(evB ρ a || evB ρ b):=by
 unfold zmF;split<;>(try split)<;>simp [evB]
theorem zmS (ρ:List V) (c a b:TB):evB ρ (zmG c a b)=bif evB ρ c then evB ρ a else evB ρ b:=by
 unfold zmG;split
 ·rename_i h;rw [zke,<- jX ρ h];cases evB ρ c<;>rfl
 ·split
  ·rename_i h;rw [vC,<- jX ρ h];cases evB ρ c<;>simp
  ·split<;>simp only [zke,vC,qK,evB]<;>cases evB ρ c<;>simp
def zc3 (ρ:List V) (as:List TB):Prop:=∀ t∈as,evB ρ t=true
theorem zaq {ρ:List V}:∀ {t:TB} {as:List TB},evB ρ t=true->zc3 ρ as->zc3 ρ (addAs0 t as)
 | .and a b,as,h,ha=>by
  have h':=h;simp only [evB,zAC] at h';intro t ht;simp only [addAs0,zAK] at ht;rcases ht with rfl|ht
  ·exact h
  ·exact zaq h'.1 (zaq h'.2 ha) t ht
 | .not (.or a b),as,h,ha=>by
  have h':=h;simp only [evB,zAn,zBb] at h';intro t ht;simp only [addAs0,zAK] at ht;rcases ht with rfl|rfl|rfl|ht
  ·exact h
  ·simp [qK,h'.1]
  ·simp [qK,h'.2]
  ·exact ha t ht
 |.var _,as,h,ha|.lit _,as,h,ha|.or _ _,as,h,ha|.ite _ _ _,as,h,ha|.beq _ _,as,h,ha|.cmp _ _ _,as,h,ha|.scmp _ _ _,as,h,ha|.nili _,as,h,ha|.nill _,as,h,ha|.own _ _,as,h,ha|.rights _,as,h,ha|.room _ _,as,h,ha|.sroom _ _,as,h,ha
 | .not (.var _),as,h,ha|.not (.lit _),as,h,ha|.not (.not _),as,h,ha|.not (.and _ _),as,h,ha|.not (.ite _ _ _),as,h,ha|.not (.beq _ _),as,h,ha|.not (.cmp _ _ _),as,h,ha|.not (.scmp _ _ _),as,h,ha|.not (.nili _),as,h,ha|.not (.nill _),as,h,ha|.not (.own _ _),as,h,ha|.not (.rights _),as,h,ha|.not (.room _ _),as,h,ha|.not (.sroom _ _),as,h,ha=>by
  intro t ht;simp only [addAs0,zAK] at ht;rcases ht with rfl|ht
  ·exact h
  ·exact ha t ht
theorem zjc {ρ:List V} {as:List TB} (ha:zc3 ρ as) {t:TB} (h:ya (smB t) as=true):evB ρ t=true:=by
 obtain ⟨x,hx,hs⟩:=zgx h;rw [jX ρ hs];exact ha x hx
theorem zmT {ρ:List V} {as:List TB} (ha:zc3 ρ as) {t:TB} {b:Bool} (h:(if ya (smB t) as then some true else if ya (smB (.not t)) as then some false else none)=some b):evB ρ t=b:=by
 split at h
 ·rename_i h1;cases h;exact zjc ha h1
 ·split at h
  ·rename_i h1;cases h;have:=zjc ha h1;simpa [evB] using this
  ·cases h
theorem qW {ρ:List V} {as:List TB} (ha:zc3 ρ as):∀ {t:TB} {b:Bool},zaX as t=some b->evB ρ t=b
 | .lit _,b,h=>by simp only [zaX,zAA] at h;subst h;rfl
 | .not a,b,h=>by
  simp only [zaX] at h;split at h
  ·rename_i c hc;cases h;simp only [evB,qW ha hc]
  ·split at h
   ·rename_i h1;cases h;exact zjc ha h1
   ·cases h
 | .and a c,b,h=>by
  simp only [zaX] at h;split at h
  ·rename_i h1 h2;cases h;simp only [evB,qW ha h1,qW ha h2];rfl
  ·rename_i h1;cases h;simp only [evB,qW ha h1];rfl
  ·rename_i h2 _;cases h;simp only [evB,qW ha h2];simp
  ·exact zmT ha h
 | .var _,b,h|.or _ _,b,h|.ite _ _ _,b,h|.beq _ _,b,h|.cmp _ _ _,b,h|.scmp _ _ _,b,h|.nili _,b,h|.nill _,b,h|.own _ _,b,h|.rights _,b,h|.room _ _,b,h|.sroom _ _,b,h=>by
  simp only [zaX] at h;exact zmT ha h
theorem yz {ρ:List V}:∀ {l as:List TB},(∀ t∈l,evB ρ t=true)->zc3 ρ as->zc3 ρ (propag as l)
 | [],as,_,ha=>ha
 | .not (.and a b)::r,as,hl,ha=>by
  have h0:=hl _ zAL;simp only [evB,zAn,Bool.and_eq_false_iff] at h0;have hr:∀ t∈r,evB ρ t=true:=fun t ht=>hl t (zAE _ ht);have more:∀ {t:TB},evB ρ t=true->zc3 ρ (t::as):=fun ht x hx=>by
   rcases zAK.1 hx with rfl|hx
   ·exact ht
   ·exact ha x hx
  simp only [propag];split
  ·rename_i h1 _;have:=qW ha h1;refine yz hr (more ?_);rw [qK];rcases h0 with h0|h0
   ·rw [this] at h0;cases h0
   ·rw [h0];rfl
  ·rename_i _ h1;have:=qW ha h1;refine yz hr (more ?_);rw [qK];rcases h0 with h0|h0
   ·rw [h0];rfl
   ·rw [this] at h0;cases h0
  ·exact yz hr ha
 |.var _::r,as,hl,ha|.lit _::r,as,hl,ha|.or _ _::r,as,hl,ha|.and _ _::r,as,hl,ha|.ite _ _ _::r,as,hl,ha|.beq _ _::r,as,hl,ha|.cmp _ _ _::r,as,hl,ha|.scmp _ _ _::r,as,hl,ha|.nili _::r,as,hl,ha|.nill _::r,as,hl,ha|.own _ _::r,as,hl,ha|.rights _::r,as,hl,ha|.room _ _::r,as,hl,ha|.sroom _ _::r,as,hl,ha
 | .not (.var _)::r,as,hl,ha|.not (.lit _)::r,as,hl,ha|.not (.not _)::r,as,hl,ha|.not (.or _ _)::r,as,hl,ha|.not (.ite _ _ _)::r,as,hl,ha|.not (.beq _ _)::r,as,hl,ha|.not (.cmp _ _ _)::r,as,hl,ha|.not (.scmp _ _ _)::r,as,hl,ha|.not (.nili _)::r,as,hl,ha|.not (.nill _)::r,as,hl,ha|.not (.own _ _)::r,as,hl,ha|.not (.rights _)::r,as,hl,ha|.not (.room _ _)::r,as,hl,ha|.not (.sroom _ _)::r,as,hl,ha=>by
  simp only [propag];exact yz (fun t ht=>hl t (zAE _ ht)) ha
theorem zdZ {ρ:List V} {t:TB} {as:List TB} (h:evB ρ t=true) (ha:zc3 ρ as):zc3 ρ (vT t as) :=
 yz (zaq h ha) (zaq h ha)
end Go.Vm.Sx
namespace Go.Vm.Sx
open Go Go.Vm
structure PRel (ρ:List V) (pa:List Nat) (σ:Sg) (env:List V) (H:Hp):Prop where
 env:∀ i sv v,nth σ.env i=some sv->qp ρ pa sv=some v->nth env i=some v
 blks:∀ a cs ty,qy a σ.blks=some (cs,ty)->H.get (pd pa a)=some (.cells (evCs ρ pa cs) ty)
 ks:∀ i k,nth σ.ks i=some k->kOk k (at' ρ i)=true
 as:zc3 ρ σ.as
variable {P:Program} {gl:Nat->Nat->Option V} {ρ:List V} {pa:List Nat} {σ:Sg} {env:List V} {H:Hp}
theorem clr_clr (v:V):clr (clr v)=clr v:=by cases v<;>rfl
theorem zF (cs:List C):evCs ρ pa cs=cs.map (evC ρ pa):=by
 induction cs with
 | nil=>rfl
 | cons c cs ih=>simp [evCs,ih]
theorem zlm (cs:List SC):evSCs ρ pa cs=cs.map (evSC ρ pa):=by
 induction cs with
 | nil=>rfl
 | cons c cs ih=>simp [evSCs,ih]
theorem clr_ptrC {a off:Nat}:clr (evC ρ pa (.p a off))=evC ρ pa (.p a off):=rfl
theorem zln (v:V):clr (lockV v)=clr v:=by cases v<;>rfl
theorem zkf (c:C):evC ρ pa (clrC c)=clr (evC ρ pa c):=by
 cases c with
 | k v=>rfl
 | v i cl=>cases cl<;>simp [clrC,evC,clr_clr]
 | i k t=>rfl
 | b t=>rfl
 | s t=>rfl
 | sl sz t o=>rfl
 | p a off=>exact clr_ptrC.symm
 | lkd i=>simp [clrC,evC,zln]
theorem jC (x:SC):evSC ρ pa (clrSC x)=clr (evSC ρ pa x):=by
 cases x with
 | one c=>exact zkf c
 | agg cs=>rfl
theorem zmU (cs:List C):evCs ρ pa (clrCs cs)=(evCs ρ pa cs).map clr:=by
 induction cs with
 | nil=>rfl
 | cons c cs ih=>simp [evCs,clrCs,ih,zkf]
theorem zq1 (v:V):evC ρ pa (cC v)=v:=by cases v<;>rfl
theorem zgy (vs:List V):evCs ρ pa (cCs vs)=vs:=by
 induction vs with
 | nil=>rfl
 | cons c cs ih=>simp [evCs,cCs,ih,zq1]
theorem zqn (v:V):evSC ρ pa (cSC v)=v:=by
 cases v<;>first|rfl|(simp only [cSC,evSC,zgy])
def plain:SV->Bool|.gd _ _=>false|.unk=>false|_=>true
theorem zhZ {as:List TB} (ha:zc3 ρ as) {sv sv':SV} (h:zj3 as sv=some sv'):plain sv'=true/\∃ v,qp ρ pa sv=some v/\qp ρ pa sv'=some v:=by
 cases sv with
 | gd c x =>
  simp only [zj3] at h;split at h
  ·rename_i hk;cases h;exact ⟨rfl,_,rfl,by simp [qp,qW ha hk]⟩
  ·rename_i hk;cases h;exact ⟨rfl,_,rfl,by simp [qp,qW ha hk,tup0,evSC,evC]⟩
  ·cases h
 | unk=>cases h
 | val x=>cases h;exact ⟨rfl,_,rfl,rfl⟩
 | vp x=>cases h;exact ⟨rfl,_,rfl,rfl⟩
 | tup x=>cases h;exact ⟨rfl,_,rfl,rfl⟩
 | fn f x=>cases h;exact ⟨rfl,_,rfl,rfl⟩
theorem zbv (hr:PRel ρ pa σ env H) {t:Tmp} {sv:SV} (h:slot σ t=some sv):plain sv=true/\∃ v,nth env t=some v/\qp ρ pa sv=some v:=by
 unfold slot at h;split at h
 ·rename_i sv0 h0;obtain ⟨hp,v,h1,h2⟩:=zhZ (pa:=pa) hr.as h;exact ⟨hp,v,hr.env _ _ _ h0 h1,h2⟩
 ·cases h
theorem zmV {sv:SV} {v:V} (hp:plain sv=true) (h:qp ρ pa sv=some v):qp ρ pa (clrSV sv)=some (clr v):=by
 cases sv with
 | gd c x=>cases hp
 | unk=>cases hp
 | val x=>cases h;simp only [clrSV,qp,jC]
 | vp x=>cases h;rfl
 | tup x=>cases h;rfl
 | fn f x=>cases h;rfl
theorem kj (hr:PRel ρ pa σ env H) {x:Operand} {sv:SV} (h:pk σ x=some sv):∃ v,peek env x=some v/\qp ρ pa sv=some v:=by
 cases x with
 | tmp t =>
  simp only [pk] at h;split at h
  ·rename_i sv0 h0;cases h;obtain ⟨hp,v,h1,h2⟩:=zbv hr h0;exact ⟨clr v,by simp [peek,h1],zmV hp h2⟩
  ·cases h
 | const v =>
  simp only [pk] at h;split at h
  ·rename_i u hu;cases h;exact ⟨u,hu,by simp [qp,zqn]⟩
  ·cases h
 | global g=>cases h
 | func f=>cases h
theorem jD (hr:PRel ρ pa σ env H) {x:Operand} {s:SC} (h:pk σ x=some (.val s)):peek env x=some (evSC ρ pa s):=by
 obtain ⟨v,h1,h2⟩:=kj hr h;cases h2;exact h1
theorem zX (hr:PRel ρ pa σ env H) {x:Operand} {c:C} (h:pkC σ x=some c):peek env x=some (evC ρ pa c):=by
 unfold pkC at h;split at h
 ·rename_i h0;cases h;exact jD hr h0
 ·cases h
theorem wG {ks:List CK} (hk:∀ i k,nth ks i=some k->kOk k (at' ρ i)=true) {c:C} {k:IntKind} {t:TI} (h:asI ks c=some (k,t)):evC ρ pa c=.int k (evI ρ t):=by
 cases c with
 | i k' t'=>cases h;rfl
 | v i cl =>
  simp only [asI] at h;split at h
  ·rename_i k' h0;cases h;have:=hk _ _ h0;cases hv:at' ρ i<;>rw [hv] at this<;>simp only [kOk,zAH] at this;have hkk:=zc2 this;cases cl<;>simp [evC,hv,evI,vI,clr,hkk]
  ·cases h
 | k v =>
  cases v<;>simp only [asI,zAA,zAD,reduceCtorEq] at h;obtain ⟨rfl,rfl⟩:=h;rfl
 | _=>cases h
theorem yd {ks:List CK} (hk:∀ i k,nth ks i=some k->kOk k (at' ρ i)=true) {c:C} {t:TB} (h:asB ks c=some t):evC ρ pa c=.bool (evB ρ t):=by
 cases c with
 | b t'=>cases h;rfl
 | v i cl =>
  simp only [asB] at h;split at h
  ·rename_i h0;cases h;have:=hk _ _ h0;cases hv:at' ρ i<;>rw [hv] at this<;>simp only [kOk,zAH] at this;cases cl<;>simp [evC,hv,evB,vB,clr]
  ·cases h
 | k v =>
  cases v<;>simp only [asB,zAA,reduceCtorEq] at h;subst h;rfl
 | _=>cases h
theorem kC {ks:List CK} (hk:∀ i k,nth ks i=some k->kOk k (at' ρ i)=true) {c:C} {t:TS} (h:asS ks c=some t):evC ρ pa c=.str (evS ρ t):=by
 cases c with
 | s t'=>cases h;rfl
 | v i cl =>
  simp only [asS] at h;split at h
  ·rename_i h0;cases h;have:=hk _ _ h0;cases hv:at' ρ i<;>rw [hv] at this<;>simp only [kOk,zAH] at this;cases cl<;>simp [evC,hv,evS,Sx.vS,clr]
  ·cases h
 | k v =>
  cases v<;>simp only [asS,zAA,reduceCtorEq] at h;subst h;rfl
 | _=>cases h
theorem xQ {ks:List CK} (hk:∀ i k,nth ks i=some k->kOk k (at' ρ i)=true) {sz:Nat} {c:C} {t:TL} (h:asL ks sz c=some t):(evC ρ pa c=.snil/\evL ρ t=[])\/∃ o,evC ρ pa c=.sl sz (evL ρ t) o:=by
 cases c with
 | sl sz' t' o =>
  simp only [asL] at h;split at h
  ·rename_i h0;cases h;rw [qJ h0];exact .inr ⟨o,rfl⟩
  ·cases h
 | v i cl =>
  simp only [asL] at h;split at h
  ·rename_i sz' h0;split at h
   ·rename_i h1;cases h;have:=hk _ _ h0;cases hv:at' ρ i<;>rw [hv] at this<;>simp only [kOk,zAH,zAC] at this
    ·left;cases cl<;>simp [evC,hv,evL,Sx.vL,clr]
    ·right
     have:=qJ this.1;have:=qJ h1;subst_vars;cases cl<;>simp [evC,hv,evL,Sx.vL,clr]
   ·cases h
  ·cases h
 | k v =>
  cases v<;>simp only [asL,zAA,reduceCtorEq] at h;subst h;exact .inl ⟨rfl,rfl⟩
 | _=>cases h
theorem qz (hr:PRel ρ pa σ env H) {x:Operand} {k:IntKind} {t:TI} (h:pkI σ x=some (k,t)):peek env x=some (.int k (evI ρ t)):=by
 unfold pkI at h;split at h
 ·rename_i h0;rw [zX hr h0,wG hr.ks h]
 ·cases h
theorem zjd (hr:PRel ρ pa σ env H) {x:Operand} {t:TB} (h:pkB σ x=some t):peek env x=some (.bool (evB ρ t)):=by
 unfold pkB at h;split at h
 ·rename_i h0;rw [zX hr h0,yd hr.ks h]
 ·cases h
theorem zcn (hr:PRel ρ pa σ env H) {x:Operand} {t:TS} (h:pkS σ x=some t):peek env x=some (.str (evS ρ t)):=by
 unfold pkS at h;split at h
 ·rename_i h0;rw [zX hr h0,kC hr.ks h]
 ·cases h
theorem nth_map {α β:Type} (f:α->β) (l:List α) (i:Nat):nth (l.map f) i=(nth l i).map f:=by simp [zd]
theorem kD {t:TypeId} {cs:List C} {off:Nat} {x:SC} (h:xM P t cs off=some x):qq P t (evCs ρ pa cs) off=some (evSC ρ pa x):=by
 rw [jj];unfold xM at h;split at h
 ·rename_i ha;split at h
  ·rename_i n hn;split at h
   ·rename_i hl;cases h;rw [ha,hn,zoC,zF];simp [hl,evSC,zF]
   ·cases h
  ·cases h
 ·rename_i ha;split at h
  ·rename_i c hc;cases h;rw [ha,zgp,zF,nth_map,hc];rfl
  ·cases h
 ·cases h
theorem zmW {op:BinOp} {t:TypeId} {k:IntKind} {a b:Int} (h:isTot op=true):ja P op t (.int k a) (.int k b)=some (.int k (biI op k a b)):=by
 cases op<;>simp only [isTot,zAH] at h<;>simp [ja,ql,biI]
theorem zd0 {op:BinOp} {t:TypeId} {k:IntKind} {a b:Int} (h:isCmp op=true):ja P op t (.int k a) (.int k b)=some (.bool (cmI op a b)):=by
 cases op<;>simp only [isCmp,zAH] at h<;>simp [ja,ql,cmI]
theorem zco {op:BinOp} {t:TypeId} {a b:List Nat} (h:isCmp op=true):ja P op t (.str a) (.str b)=some (.bool (cmS op a b)):=by
 cases op<;>simp only [isCmp,zAH] at h<;>simp [ja,zb3,cmS]
theorem zcp {op:BinOp} {t:TypeId} {x y:Operand} {k k':IntKind} {a b:Int}:zM P op t x y (.int k a) (.int k' b)=true:=by cases op<;>rfl
theorem zfk {op:BinOp} {t:TypeId} {x y:Operand} {a b:List Nat}:zM P op t x y (.str a) (.str b)=true:=by cases op<;>rfl
theorem zoN {ks:List CK} (hk:∀ i k,nth ks i=some k->kOk k (at' ρ i)=true) {ds:TypeDesc} {x y:C} {b:TB} (h:zqg ks ds x y=some b):eqS ds (evC ρ pa x) (evC ρ pa y)=some (evB ρ b)/\(∀ cs,evC ρ pa x≠.agg cs):=by
 unfold zqg at h;cases ds<;>simp only [reduceCtorEq] at h
 ·split at h
  ·rename_i h1 h2;cases h;rw [yd hk h1,yd hk h2];exact ⟨rfl,fun _ e=>by cases e⟩
  ·cases h
 ·split at h
  ·rename_i k a k' b' h1 h2;split at h
   ·rename_i hkk;subst hkk;cases h;rw [wG hk h1,wG hk h2];exact ⟨by simp [eqS,evB,cmI],fun _ e=>by cases e⟩
   ·cases h
  ·cases h
 ·split at h
  ·rename_i h1 h2;cases h;rw [kC hk h1,kC hk h2];exact ⟨by simp [eqS,evB,cmS],fun _ e=>by cases e⟩
  ·cases h
theorem zh0 {eqs:TypeId->SC->SC->Option TB} {eqa:TypeId->V->V->Option Bool} (he:∀ t x y b,eqs t x y=some b->eqa t (evSC ρ pa x) (evSC ρ pa y)=some (evB ρ b)) :
  ∀ {fs:List Field} {xs ys:List C} {b:TB},zj4 P eqs fs xs ys=some b->ziJ P eqa fs (evCs ρ pa xs) (evCs ρ pa ys)=some (evB ρ b)
 | [],xs,ys,b,h=>by cases h;rfl
 | f::fs,xs,ys,b,h=>by
  simp only [zj4] at h;split at h
  ·cases h
  ·rename_i hn;split at h
   ·rename_i x y hx hy;split at h
    ·rename_i t r ht hr;cases h;simp only [ziJ,hn,if_false,kD (ρ:=ρ) (pa:=pa) hx,kD (ρ:=ρ) (pa:=pa) hy,he _ _ _ _ ht,zh0 he hr,Option.bind_eq_bind,zAT,vC];cases evB ρ t<;>rfl
    ·cases h
   ·cases h
theorem zh1 {eqs:TypeId->SC->SC->Option TB} {eqa:TypeId->V->V->Option Bool} (he:∀ t x y b,eqs t x y=some b->eqa t (evSC ρ pa x) (evSC ρ pa y)=some (evB ρ b)) {e:TypeId} {n:Nat} {xs ys:List C} :
  ∀ {k i:Nat} {b:TB},zj5 P eqs e n xs ys i k=some b->ziK P eqa e n (evCs ρ pa xs) (evCs ρ pa ys) i k=some (evB ρ b)
 | 0,i,b,h=>by cases h;rfl
 | k+1,i,b,h=>by
  simp only [zj5] at h;split at h
  ·rename_i x y hx hy;split at h
   ·rename_i t r ht hr;cases h;simp only [ziK,kD (ρ:=ρ) (pa:=pa) hx,kD (ρ:=ρ) (pa:=pa) hy,he _ _ _ _ ht,zh1 he hr,Option.bind_eq_bind,zAT,vC];cases evB ρ t<;>rfl
   ·cases h
  ·cases h
theorem zgz {ks:List CK} (hk:∀ i k,nth ks i=some k->kOk k (at' ρ i)=true):∀ {d:Nat} {t:TypeId} {x y:SC} {b:TB},zmH P ks d t x y=some b->eqA P d t (evSC ρ pa x) (evSC ρ pa y)=some (evB ρ b)
 | 0,_,_,_,_,h=>by cases h
 | d+1,t,x,y,b,h=>by
  simp only [zmH] at h;split at h
  ·cases h
  ·rename_i ds hds;split at h
   ·rename_i xs ys;simp only [eqA,hds,evSC];split at h
    ·rename_i fs;split at h
     ·cases h
     ·rename_i hs;simp only [hs,zAH,if_false];exact zh0 (fun t x y b h=>zgz hk h) h
    ·rename_i len e;split at h
     ·rename_i n hn;simp only [hn];exact zh1 (fun t x y b h=>zgz hk h) h
     ·cases h
    ·cases h
   ·rename_i a c;obtain ⟨h1,h2⟩:=zoN (pa:=pa) hk h;simp only [eqA,hds,evSC];cases hx:evC ρ pa a<;>rw [hx] at h1 h2<;>first|exact h1|exact absurd rfl (h2 _)
   ·cases h
theorem zmX {v:V} (h:kOk .ifc v=true):clr v=v:=by
 cases v<;>simp only [kOk,zAH] at h<;>rfl
theorem zkg {i:Nat} {cl:Bool} (h:kOk .ifc (at' ρ i)=true):evC ρ pa (.v i cl)=at' ρ i:=by
 cases cl
 ·rfl
 ·simp only [evC];exact zmX h
theorem zkh (hr:PRel ρ pa σ env H) {t:TypeId} {x y:Operand} {u v:SV} {u' v':V} {b:TB} (hu:qp ρ pa u=some u') (hv:qp ρ pa v=some v') (h:zoH P σ t x y u v=some b) :
  zQ P .eql t x y (some u') (some v')=some (.bool (evB ρ b))/\zQ P .neq t x y (some u') (some v')=some (.bool !(evB ρ b)):=by
 unfold zoH at h;split at h
 ·rename_i a c;split at h
  ·cases h
  ·rename_i hg;cases hu;cases hv;have h1:=zgz (ρ:=ρ) (pa:=pa) hr.ks h;simp only [evSC] at h1;simp only [zQ,zM,jp,evSC,hg,zAm,if_true,ja,h1,zAa,Bool.not_eq_true] at *;simp []
 ·rename_i a c;cases hu;cases hv;simp only [evSC];split at h
  ·rename_i k a' k' b' h1 h2;split at h
   ·rename_i hkk;subst hkk;cases h;rw [wG hr.ks h1,wG hr.ks h2];simp only [zQ,zcp,if_true];rw [zd0 rfl,zd0 rfl];exact ⟨by simp [evB,cmI],by simp [evB,cmI,bne]⟩
   ·cases h
  ·split at h
   ·rename_i h1 h2;cases h;rw [kC hr.ks h1,kC hr.ks h2];simp only [zQ,zfk,if_true];rw [zco rfl,zco rfl];exact ⟨by simp [evB,cmS],by simp [evB,cmS]⟩
   ·split at h
    ·rename_i ht;split at h
     ·rename_i h1 h2;cases h;rw [yd hr.ks h1,yd hr.ks h2];simp [zQ,zM,jp,ja,eqA,ht,eqS,evB]
     ·cases h
    ·rename_i ms ht;split at h
     ·rename_i i cl _ _;split at h
      ·rename_i h1 h2;cases h;have hk:=hr.ks _ _ h1;rw [zkg hk];cases hv:at' ρ i<;>rw [hv] at hk<;>simp only [kOk,zAH] at hk <;>
        simp [zQ,zM,jp,ja,eqA,ht,eqS,evB,evC,hv,isNili,h2]
      ·cases h
     ·rename_i i cl _ _;split at h
      ·rename_i h1 h2;cases h;have hk:=hr.ks _ _ h1;rw [zkg hk];cases hv:at' ρ i<;>rw [hv] at hk<;>simp only [kOk,zAH] at hk <;>
        simp [zQ,zM,jp,ja,eqA,ht,eqS,evB,evC,hv,isNili,h2]
      ·cases h
     ·split at h
      ·rename_i h1;cases h;simp only [zAe] at h1;simp [zQ,zM,jp,ja,eqA,ht,eqS,evB,evC,h1]
      ·cases h
     ·cases h
    ·rename_i e ht;split at h
     ·cases h;simp [zQ,zM,jp,ja,eqA,ht,eqS,evB,evC]
     ·cases h;simp [zQ,zM,jp,ja,eqA,ht,eqS,evB,evC]
     ·cases h;simp [zQ,zM,jp,ja,eqA,ht,eqS,evB,evC]
     ·cases h
    ·cases h
 ·cases h
end Go.Vm.Sx
namespace Go.Vm.Sx
open Go Go.Vm
variable {P:Program} {gl:Nat->Nat->Option V} {ρ:List V} {pa:List Nat} {σ:Sg} {env:List V} {H:Hp} {lk:List (Nat×Nat)} {df:List (V×List V)} {takes:List Tmp}
theorem zoO (hr:PRel ρ pa σ env H) {op:BinOp} {t:TypeId} {x y:Operand} {sv:SV} (h:zqh P σ op t x y=some sv):∃ v,zQ P op t x y (peek env x) (peek env y)=some v/\qp ρ pa sv=some v:=by
 unfold zqh at h;split at h
 ·rename_i u v hu hv;obtain ⟨u',hu1,hu2⟩:=kj hr hu;obtain ⟨v',hv1,hv2⟩:=kj hr hv;rw [hu1,hv1];split at h
  ·split at h
   ·rename_i b hb;cases h;exact ⟨_,(zkh hr hu2 hv2 hb).1,rfl⟩
   ·cases h
  ·split at h
   ·rename_i b hb;cases h;exact ⟨_,(zkh hr hu2 hv2 hb).2,by simp [qp,evSC,evC,qK]⟩
   ·cases h
  ·split at h
   ·rename_i a c;cases hu2;cases hv2;split at h
    ·rename_i k a' k' b' h1 h2;have e1:=wG (pa:=pa) hr.ks h1;have e2:=wG (pa:=pa) hr.ks h2;split at h
     ·rename_i ht hk;cases h;have:=zc2 hk;subst this;exact ⟨_,by simp only [evSC,e1,e2,zQ,zcp,if_true];exact zmW ht,rfl⟩
     ·rename_i hc hk _;cases h;have:=zc2 hk;subst this;exact ⟨_,by simp only [evSC,e1,e2,zQ,zcp,if_true];exact zd0 hc,rfl⟩
     ·cases h
    ·split at h
     ·rename_i h1 h2;split at h
      ·rename_i hc;cases h;exact ⟨_,by simp only [evSC,kC (pa:=pa) hr.ks h1,kC (pa:=pa) hr.ks h2,zQ,zfk,if_true];exact zco hc,rfl⟩
      ·cases h
     ·cases h
   ·cases h
 ·cases h
theorem vW {k:CK} {v:V} (h:kOk k v=true) (hk:k≠.raw):oneV v=true/\locked v=false:=by
 cases k<;>cases v<;>simp only [kOk,zAH,zAC,zAn] at h<;>first|exact absurd rfl hk|exact ⟨rfl,rfl⟩|exact h|exact ⟨rfl,h.2⟩
theorem zmY {v:V} (h:oneV v=true):oneV (clr v)=true:=by cases v<;>first|exact h|rfl
theorem zmZ {v:V} (h:oneV v=true):okC v=true:=by cases v<;>first|rfl|cases h
theorem zaZ {v:V} (h:oneV v=true):v.cells=[v]/\v.laid=[v]:=by cases v<;>first|exact ⟨rfl,rfl⟩|cases h
theorem zoP (hk:∀ i k,nth σ.ks i=some k->kOk k (at' ρ i)=true) {c:C} (h:zqi σ.ks c=true):oneV (evC ρ pa c)=true:=by
  cases c with
  | k v=>exact h
  | v i cl =>
    simp only [zqi] at h;split at h
    all_goals first
      | (rename_i h0
         have:=(vW (hk _ _ h0) (by intro e;cases e)).1
         cases cl
         · exact this
         · exact zmY this)
      | cases h
  | lkd i=>cases h
  | _=>rfl
theorem zdf (hk:∀ i k,nth σ.ks i=some k->kOk k (at' ρ i)=true) {x:SC} (h:zle σ.ks x=true):okC (evSC ρ pa x)=true/\(evSC ρ pa x).cells=evCs ρ pa (cellsSC x)/\(evSC ρ pa x).laid=evCs ρ pa (laidSC x):=by
 cases x with
 | one c =>
  have:=zoP (pa:=pa) hk h;exact ⟨zmZ this,(zaZ this).1,(zaZ this).2⟩
 | agg cs=>exact ⟨rfl,rfl,by simp [evSC,V.laid,laidSC,zmU]⟩
theorem zJ (cs:List C):(evCs ρ pa cs).length=cs.length:=by simp [zF]
theorem xR (f:C->V):∀ (vs cs:List C) (off:Nat),(storeCells cs off vs).map f=storeCells (cs.map f) off (vs.map f)
 | [],cs,off=>rfl
 | v::vs,cs,off=>by simp only [storeCells,zAz];rw [xR f vs];simp [List.map_set]
theorem zaJ {vs cs:List C} {off:Nat}:evCs ρ pa (storeCells cs off vs)=storeCells (evCs ρ pa cs) off (evCs ρ pa vs):=by
 simp only [zF];exact xR _ _ _ _
theorem zd1 (hr:PRel ρ pa σ env H) {place:Nat->Option (Nat×Nat)}:∀ {parts:List (Nat×Operand)} {cells cs:List C},zhW σ cells place parts=some cs->xp (evCs ρ pa cells) place env parts=some (evCs ρ pa cs)
 | [],cells,cs,h=>by cases h;rfl
 | (i,x)::r,cells,cs,h=>by
  simp only [zhW] at h;split at h
  ·rename_i v off n hv hp;split at h
   ·rename_i hc;simp only [zAC] at hc;obtain ⟨h1,h2,_⟩:=zdf (pa:=pa) hr.ks hc.1.1;have:=zd1 hr h;rw [zaJ] at this;simp only [xp,jD hr hv,hp,Option.bind_eq_bind,zAT,h1,h2,zJ,hc.1.2,hc.2,zBL,if_true,this]
   ·cases h
  ·cases h
theorem zlo (hr:PRel ρ pa σ env H) {t:TypeId} {parts:Array (Nat×Operand)} {cs:List C} (h:zja P σ t parts.toList=some cs):kV P t parts env=some (.agg (evCs ρ pa cs)):=by
 unfold zja at h;split at h
 ·rename_i z hz;unfold kV;simp only [hz,okC,zAg,zAH,if_false];split at h
  ·rename_i fs hu;simp only [hu];split at h
   ·rename_i ps hp;have:=zd1 hr h;rw [zgy] at this;simp only [hp,V.cells,this,zAa]
   ·cases h
  ·rename_i len e hu;simp only [hu];split at h
   ·rename_i ie hi;have:=zd1 hr h;rw [zgy] at this;simp only [hi,V.cells,this,zAa]
   ·cases h
  ·cases h
 ·cases h
theorem zm0 {dst:Option Tmp} (ht:zO takes dst=false) {x:Operand} {type:TypeId} {pos:String} {after:Array Edge} {guard:Option (Nat×Bool)} {cx:Cx} :
  cx.op takes ⟨dst,.move x,type,pos,after,guard⟩ env H lk df=rdQ env H lk df (peek env x):=by
 cases dst with
 | some d=>exact zgn ht
 | none=>simp only [Cx.op];exact jK rfl
theorem xS {dst:Option Tmp} (ht:zO takes dst=false) {t:TypeId} {a:Operand} {type:TypeId} {pos:String} {after:Array Edge} {guard:Option (Nat×Bool)} {cx:Cx} :
  cx.op takes ⟨dst,.load t a,type,pos,after,guard⟩ env H lk df=rdQ env H lk df (((peek env a).bind (zn cx.P H cx.gl t)).map clr):=by
 cases dst with
 | some d=>exact zbq ht
 | none =>
  simp only [Cx.op];refine jK ?_;simp only [zD];cases h:peek env a with
  | none=>rfl
  | some v=>simp only [Option.bind_eq_bind,zAT];cases zn cx.P H cx.gl t v<;>rfl
theorem zbw (hr:PRel ρ pa σ env H) {o:Oper} {sv:SV} (ht:zO takes o.dst=false) (h:zcQ P σ o.op=some sv) :
  ∃ v,(∀ call uq,Cx.op ⟨P,gl,call,uq⟩ takes o env H lk df=some (.val v,⟨env,H,lk,df⟩))/\qp ρ pa sv=some v:=by
 obtain ⟨dst,op,type,pos,after,guard⟩:=o;simp only at ht h;cases op<;>simp only [zcQ,reduceCtorEq] at h
 case move x =>
  obtain ⟨v,h1,h2⟩:=kj hr h;exact ⟨v,fun call uq=>by rw [zm0 ht,h1];rfl,h2⟩
 case pick c a b =>
  split at h
  ·cases h
  ·rename_i t hc;have ec:=zjd hr hc;split at h
   ·rename_i hk;obtain ⟨v,h1,h2⟩:=kj hr h;exact ⟨v,fun call uq=>by rw [yM,ec,qW hr.as hk,h1];rfl,h2⟩
   ·rename_i hk;obtain ⟨v,h1,h2⟩:=kj hr h;exact ⟨v,fun call uq=>by rw [yM,ec,qW hr.as hk,h1];rfl,h2⟩
   ·split at h
    ·rename_i xa xb ha hb;have ra:evB ρ t=true->peek env a=some (evC ρ pa xa):=fun ht=>zX (σ:={ σ with as:=vT t σ.as }) ⟨hr.env,hr.blks,hr.ks,zdZ ht hr.as⟩ ha;have rb:evB ρ t=false->peek env b=some (evC ρ pa xb):=fun ht=>zX (σ:={ σ with as:=vT (mkNot t) σ.as }) ⟨hr.env,hr.blks,hr.ks,zdZ (by simp [qK,ht]) hr.as⟩ hb
     have main:∀ v,(evB ρ t=true->v=evC ρ pa xa)->(evB ρ t=false->v=evC ρ pa xb)->∀ call uq,Cx.op ⟨P,gl,call,uq⟩ takes ⟨dst,.pick c a b,type,pos,after,guard⟩ env H lk df=some (.val v,⟨env,H,lk,df⟩):=by
      intro v h1 h2 call uq;rw [yM,ec];cases hb:evB ρ t with
      | true=>rw [ra hb,<- h1 hb];rfl
      | false=>rw [rb hb,<- h2 hb];rfl
     split at h
     ·rename_i ta tb h1 h2;cases h;have e1:=yd (pa:=pa) hr.ks h1;have e2:=yd (pa:=pa) hr.ks h2;refine ⟨.bool (bif evB ρ t then evB ρ ta else evB ρ tb),main _ (fun hb=>?_) (fun hb=>?_),by simp [qp,evSC,evC,zmS]⟩
      ·rw [e1,hb];rfl
      ·rw [e2,hb];rfl
     ·split at h
      ·rename_i k ta k' tb h1 h2;split at h
       ·rename_i hkk;subst hkk;cases h;have e1:=wG (pa:=pa) hr.ks h1;have e2:=wG (pa:=pa) hr.ks h2;refine ⟨.int k (bif evB ρ t then evI ρ ta else evI ρ tb),main _ (fun hb=>?_) (fun hb=>?_),by simp [qp,evSC,evC,evI]⟩
        ·rw [e1,hb];rfl
        ·rw [e2,hb];rfl
       ·cases h
      ·cases h
    ·cases h
 case build t parts =>
  split at h
  ·rename_i cs hb;cases h;exact ⟨_,fun call uq=>by rw [zdP,zlo hr hb];rfl,rfl⟩
  ·cases h
 case load t a =>
  split at h
  ·rename_i cs ha;obtain ⟨v,h1,h2⟩:=kj hr ha;cases h2;split at h
   ·rename_i x hx;cases h;exact ⟨_,fun call uq=>by rw [xS ht,h1];simp only [zAT,zmB,kD (ρ:=ρ) (pa:=pa) hx,zAa];rfl,by simp [qp,jC]⟩
   ·cases h
  ·rename_i a' off ha;have h1:=jD hr ha;split at h
   ·rename_i cs ty hf;split at h
    ·rename_i x hx;cases h;have hb:=hr.blks _ _ _ hf;exact ⟨_,fun call uq=>by rw [xS ht,h1];simp only [zAT,evSC,evC,qF];rw [hb];simp only [qi,kD (ρ:=ρ) (pa:=pa) hx,zAa];rfl,by simp [qp,jC]⟩
    ·cases h
   ·cases h
  ·cases h
 case nilCheck x =>
  split at h
  ·rename_i cs hx;cases h;obtain ⟨v,h1,h2⟩:=kj hr hx;cases h2;exact ⟨_,fun call uq=>by rw [vP,h1];rfl,rfl⟩
  ·rename_i a off hx;cases h;exact ⟨_,fun call uq=>by rw [vP,jD hr hx];rfl,rfl⟩
  ·cases h
 case binOp op t x y u =>
  obtain ⟨v,h1,h2⟩:=zoO hr h;exact ⟨v,fun call uq=>by rw [yx,h1];rfl,h2⟩
 case unOp op t x =>
  split at h
  ·rename_i c hc;split at h
   ·rename_i k tt hi;cases h;exact ⟨_,fun call uq=>by rw [zc8,zX hr hc,wG (pa:=pa) hr.ks hi];rfl,rfl⟩
   ·cases h
  ·rename_i c hc;split at h
   ·rename_i tt hi;cases h;exact ⟨_,fun call uq=>by rw [zc8,zX hr hc,yd (pa:=pa) hr.ks hi];rfl,by simp [qp,evSC,evC,qK]⟩
   ·cases h
  ·cases h
 case convert a b x =>
  split at h
  ·rename_i d k c h1 h2 hc;split at h
   ·rename_i k' tt hi;cases h;exact ⟨_,fun call uq=>by rw [vw ((zX hr hc).trans (congrArg some (wG (pa:=pa) hr.ks hi))) (by simp) (zch ((zX hr hc).trans (congrArg some (wG (pa:=pa) hr.ks hi))) (by simp))];simp only [jx,h1,h2,Option.bind_eq_bind,zAT];cases d<;>rfl,rfl⟩
   ·cases h
  ·rename_i c h1 h2 hc;split at h
   ·rename_i tt hi;cases h;exact ⟨_,fun call uq=>by rw [vw ((zX hr hc).trans (congrArg some (kC (pa:=pa) hr.ks hi))) (by simp) (zch ((zX hr hc).trans (congrArg some (kC (pa:=pa) hr.ks hi))) (by simp))];simp only [jx,h1,h2,Option.bind_eq_bind,zAT];rfl,rfl⟩
   ·cases h
  ·rename_i e c h1 h2 hc;split at h
   ·rename_i tt h3 hi;cases h;exact ⟨_,fun call uq=>by rw [vw ((zX hr hc).trans (congrArg some (kC (pa:=pa) hr.ks hi))) (by simp) (zch ((zX hr hc).trans (congrArg some (kC (pa:=pa) hr.ks hi))) (by simp))];simp only [jx,h1,h2,h3,Option.bind_eq_bind,zAT];rfl,rfl⟩
   ·cases h
  ·cases h
 case fieldAddr t x f =>
  split at h
  ·rename_i off cs h1 hx;cases h;obtain ⟨v,h3,h4⟩:=kj hr hx;cases h4;exact ⟨_,fun call uq=>by rw [wj,h3];simp only [h1,vR,zAT,faddrV];rfl,by simp [qp,zF]⟩
  ·rename_i off a o h1 hx;cases h;exact ⟨_,fun call uq=>by rw [wj,jD hr hx];simp only [h1,vR,zAT,evSC,evC,faddrV];rfl,rfl⟩
  ·cases h
 case field t x f =>
  split at h
  ·rename_i ft off cs h1 hx;split at h
   ·rename_i x' hp;cases h;exact ⟨clr (evSC ρ pa x'),fun call uq=>by rw [zld,jD hr hx];simp only [h1,zhT,zAT,evSC,kD (ρ:=ρ) (pa:=pa) hp,zAa];cases x'<;>rfl,by simp [qp,jC]⟩
   ·cases h
  ·cases h
 case indexAddr t x ix =>
  split at h
  ·rename_i len e k i hu hi;have ei:=qz hr hi;split at h
   ·rename_i n cs hn hx;split at h
    ·rename_i hlt;cases h;obtain ⟨v,h3,h4⟩:=kj hr hx;cases h4;exact ⟨_,fun call uq=>by rw [jd,h3,ei];simp only [idxV,evI];simp [zr,hu,hn,zaB hlt];rfl,by simp [qp,zF]⟩
    ·cases h
   ·rename_i n a off hn hx;split at h
    ·rename_i hlt;cases h;exact ⟨_,fun call uq=>by rw [jd,jD hr hx,ei];simp only [idxV,evI];simp [zr,hu,hn,zaB hlt,evSC,evC];rfl,rfl⟩
    ·cases h
   ·cases h
  ·cases h
 case index t x ix =>
  split at h
  ·rename_i len e k i hu hi;have ei:=qz hr hi;split at h
   ·rename_i n cs hn hx;split at h
    ·rename_i hlt;split at h
     ·rename_i x' hp;cases h;have hp':=kD (ρ:=ρ) (pa:=pa) hp;exact ⟨clr (evSC ρ pa x'),fun call uq=>by rw [zbr,jD hr hx,ei];simp only [idxV,evI];simp [xq,hu,hn,zaB hlt,evSC,hp'];cases x'<;>rfl,by simp [qp,jC]⟩
     ·cases h
    ·cases h
   ·cases h
  ·cases h
 case extract x i =>
  split at h
  ·rename_i xs hx;split at h
   ·rename_i x' hn;cases h;obtain ⟨v,h3,h4⟩:=kj hr hx;cases h4;exact ⟨_,fun call uq=>by rw [vx,h3];simp only [zAT,zlm,nth_map,hn,zAa];rfl,by simp [qp,jC]⟩
   ·cases h
  ·cases h
 case call c =>
  obtain ⟨callee,args,ats⟩:=c;obtain ⟨args⟩:=args;obtain ⟨ats⟩:=ats;simp only at h;split at h
  ·rename_i x t;split at h
   ·rename_i c hu hc;split at h
    ·rename_i s hs;cases h;exact ⟨_,fun call uq=>by rw [zcj,zX hr hc,kC (pa:=pa) hr.ks hs];simp only [zAT,qH,hu,zAa];rfl,rfl⟩
    ·cases h
   ·rename_i e c hu hc;split at h
    ·rename_i n hn;split at h
     ·rename_i l hl;cases h;refine ⟨_,fun call uq=>?_,rfl⟩;rw [zcj,zX hr hc];rcases xQ (pa:=pa) hr.ks hl with ⟨e1,e2⟩|⟨o,e1⟩
      ·rw [e1];simp only [zAT,qH,hu,zAa,evSC,evC,evI,e2];rfl
      ·rw [e1];simp only [zAT,qH,hu,zAa,evSC,evC,evI];rfl
     ·cases h
    ·cases h
   ·cases h
  ·rename_i x y;split at h
   ·rename_i k a k' b hx hy;split at h
    ·rename_i hkk;subst hkk;cases h;refine ⟨_,fun call uq=>?_,rfl⟩;simp only [Cx.op,Cx.builtin,qz hr hx,qz hr hy,Option.bind_eq_bind,zAT,evSC,evC,evI,evB,cmI,cond_eq_ite,decide_eq_true_eq]
    ·cases h
   ·cases h
  ·rename_i x y;split at h
   ·rename_i k a k' b hx hy;split at h
    ·rename_i hkk;subst hkk;cases h;refine ⟨_,fun call uq=>?_,rfl⟩;simp only [Cx.op,Cx.builtin,qz hr hx,qz hr hy,Option.bind_eq_bind,zAT,evSC,evC,evI,evB,cmI,cond_eq_ite,decide_eq_true_eq]
    ·cases h
   ·cases h
  ·cases h
end Go.Vm.Sx
namespace Go.Vm.Sx
open Go Go.Vm
variable {P:Program} {gl:Nat->Nat->Option V} {ρ ρ':List V} {pa pa':List Nat} {σ:Sg} {s:St} {n0:Nat} {B:List Blk} {env:List V} {H:Hp} {lk:List (Nat×Nat)} {df:List (V×List V)}
def wK (l:List (Nat×Nat)) (a off:Nat):Bool:=ya (fun p=>Nat.beq p.1 a && Nat.beq p.2 off) l
structure Rel (n0:Nat) (B:List Blk) (ρ:List V) (pa:List Nat) (σ:Sg) (s:St):Prop where
 ext:∀ ρ' pa',ρ <+: ρ'->pa <+: pa'->PRel ρ' pa' σ s.env s.H
 len:σ.env.length=s.env.length
 na:pa.length=σ.na
 inj:∀ a a',a<σ.na->a'<σ.na->pd pa a=pd pa a'->a=a'
 lo:∀ a,σ.nf<=a->a<σ.na->n0<=pd pa a
 hi:∀ a,a<σ.na->pd pa a<s.H.blks.length
 kl:ρ.length=σ.ks.length
 top:tops ρ=0
 edg:∀ e∈s.H.edges,n0<=e.1
 base:∀ b,b<n0->(∀ a,a<σ.nf->pd pa a≠b)->s.H.blks[b]?=B[b]?
 blen:n0<=s.H.blks.length
 df:s.defers=[]
 lk:∀ a off,wK σ.lk a off=true->∀ cs ty c,s.H.get (pd pa a)=some (.cells cs ty)->nth cs off=some c->locked c=true->s.lk.any (fun p=>Nat.beq p.1 (pd pa a) && Nat.beq p.2 off)=true
 bn:∀ a x,qy a σ.blks=some x->a<σ.na
 ln:∀ a off,wK σ.lk a off=true->a<σ.na
 nf:σ.nf<=σ.na
theorem Rel.here (h:Rel n0 B ρ pa σ s):PRel ρ pa σ s.env s.H:=h.ext ρ pa (zAI _) (zAI _)
theorem wk (h:ρ <+: ρ') {i:Nat} (hi:i<ρ.length):at' ρ' i=at' ρ i:=by
 obtain ⟨x,rfl⟩:=h;exact jH hi
theorem zje {α:Type} {l:List α} {i:Nat} {a:α} (h:nth l i=some a):i<l.length:=by
 rw [zd] at h;exact (zAB.1 h).1
theorem qj (h:pa <+: pa') {a:Nat} (ha:a<pa.length):pd pa' a=pd pa a:=by
 obtain ⟨x,rfl⟩:=h;simp [pd,zd,zAR ha]
theorem jl (a b:List V):tops (a++b)=max (tops a) (tops b):=by
 induction a with
 | nil=>simp [tops]
 | cons v vs ih=>simp only [zA6,tops,ih];omega
theorem wx {v:V}:∀ {l:List V},v∈l->tops l=0->v.top=0
 | x::xs,h,ht=>by
  simp only [tops] at ht;rcases zAK.1 h with rfl|h
  ·omega
  ·exact wx h (by omega)
theorem zbx {l:List V} (h:∀ v∈l,v.top=0):tops l=0:=by
 induction l with
 | nil=>rfl
 | cons v vs ih =>
  simp only [tops,h v zAL,ih fun w hw=>h w (zAE _ hw)];rfl
theorem yS (h:tops ρ=0) (i:Nat):(at' ρ i).top=0:=by
 rw [yb];cases hi:ρ[i]? with
 | none=>rfl
 | some v=>exact wx (zAb hi) h
theorem top_clr (v:V):(clr v).top=v.top:=by cases v<;>rfl
theorem ksOk_nth:∀ {cks:List CK} {x:List V} {j:Nat} {k:CK},ksOk cks x=true->cks[j]?=some k->∃ v,x[j]?=some v/\kOk k v=true
 | [],_,j,k,_,h=>by simp at h
 | c::cs,[],j,k,hk,h=>by simp [ksOk] at hk
 | c::cs,v::vs,0,k,hk,h=>by
  simp only [ksOk,zAC] at hk;simp at h;subst h;exact ⟨v,rfl,hk.1⟩
 | c::cs,v::vs,j+1,k,hk,h=>by
  simp only [ksOk,zAC] at hk;simp at h;obtain ⟨w,h1,h2⟩:=ksOk_nth hk.2 h;exact ⟨w,by simpa using h1,h2⟩
theorem ksOk_len:∀ {cks:List CK} {x:List V},ksOk cks x=true->x.length=cks.length
 | [],[],_=>rfl
 | [],_::_,h=>by cases h
 | _::_,[],h=>by cases h
 | c::cs,v::vs,h=>by
  simp only [ksOk,zAC] at h;simp [ksOk_len h.2]
theorem Rel.push {x:List V} {cks:List CK} (h:Rel n0 B ρ pa σ s) (hk:ksOk cks x=true) (ht:tops x=0):Rel n0 B (ρ++x) pa { σ with ks:=σ.ks++cks } s:=by
 have hl:=ksOk_len hk;refine ⟨fun ρ' pa' h1 h2=>?_,h.len,h.na,h.inj,h.lo,h.hi,by simp [h.kl,hl],by rw [jl,h.top,ht];rfl,h.edg,h.base,h.blen,h.df,h.lk,h.bn,h.ln,h.nf⟩
 have h0:ρ <+: ρ':=(zAq _ _).trans h1;obtain ⟨e1,e2,e3,e4⟩:=h.ext ρ' pa' h0 h2;refine ⟨e1,e2,fun i k hi=>?_,e4⟩;simp only [zd] at hi
 by_cases hlt:i<σ.ks.length
 ·rw [zAR hlt] at hi;exact e3 i k (by rw [zd];exact hi)
 ·rw [zAP (by omega)] at hi
  obtain ⟨v,h3,h4⟩:=ksOk_nth hk hi;have:at' ρ' i=v:=by
   rw [wk h1 (by have:=(zAB.1 hi).1;have:=h.kl;simp;omega)]
   rw [yb,zAP (by rw [h.kl];omega),h.kl,h3];rfl
  rw [this];exact h4
theorem Rel.push1 {v:V} {ck:CK} (h:Rel n0 B ρ pa σ s) (hk:kOk ck v=true) (ht:v.top=0):Rel n0 B (ρ++[v]) pa { σ with ks:=σ.ks++[ck] } s :=
 h.push (by simp [ksOk,hk]) (by simp [tops,ht])
theorem yA {ρ:List V} {v:V}:at' (ρ++[v]) ρ.length=v:=by simp [yb]
theorem Rel.kind {i:Nat} {ck:CK} (h:Rel n0 B ρ pa σ s) (hi:i<σ.ks.length) (hk:kOk ck (at' ρ i)=true):Rel n0 B ρ pa { σ with ks:=σ.ks.set i ck } s:=by
 refine ⟨fun ρ' pa' h1 h2=>?_,h.len,h.na,h.inj,h.lo,h.hi,by simp [h.kl],h.top,h.edg,h.base,h.blen,h.df,h.lk,h.bn,h.ln,h.nf⟩
 obtain ⟨e1,e2,e3,e4⟩:=h.ext ρ' pa' h1 h2;refine ⟨e1,e2,fun j k hj=>?_,e4⟩;simp only [zd,zAl] at hj;split at hj
 ·rename_i hij;subst hij;simp [] at hj;subst hj;rw [wk h1 (by rw [h.kl];exact hi)];exact hk
 ·exact e3 j k (by rw [zd];exact hj)
theorem Rel.put {d:Nat} {sv:SV} {v:V} (h:Rel n0 B ρ pa σ ⟨env,H,lk,df⟩) (hv:∀ ρ' pa',ρ <+: ρ'->pa <+: pa'->∀ v',qp ρ' pa' sv=some v'->v'=v):Rel n0 B ρ pa { σ with env:=σ.env.set d sv } ⟨env.set d v,H,lk,df⟩:=by
 refine ⟨fun ρ' pa' h1 h2=>?_,by simpa using h.len,h.na,h.inj,h.lo,h.hi,h.kl,h.top,h.edg,h.base,h.blen,h.df,h.lk,h.bn,h.ln,h.nf⟩
 obtain ⟨e1,e2,e3,e4⟩:=h.ext ρ' pa' h1 h2;refine ⟨fun i sw w hi hw=>?_,e2,e3,e4⟩;simp only [zd,zAl] at hi ⊢;have hl:=h.len;simp only at hl;split at hi
 ·rename_i hij;subst hij;split at hi
  ·rename_i hlt;cases hi;rw [hl] at hlt;simp [hlt,hv ρ' pa' h1 h2 w hw]
  ·cases hi
 ·rename_i hij;simp only [hij,if_false];have:=e1 i sw w (by rw [zd];exact hi) hw
  rwa [zd] at this
theorem Rel.putS {d:Option Tmp} {sv:SV} {v:V} (h:Rel n0 B ρ pa σ ⟨env,H,lk,df⟩) (hv:∀ ρ' pa',ρ <+: ρ'->pa <+: pa'->∀ v',qp ρ' pa' sv=some v'->v'=v):Rel n0 B ρ pa (putS σ d sv) ⟨putA env d v,H,lk,df⟩:=by
 cases d with
 | none=>exact h
 | some d=>exact h.put hv
theorem Rel.cond {c:TB} (h:Rel n0 B ρ pa σ s) (hc:∀ ρ' pa',ρ <+: ρ'->pa <+: pa'->evB ρ' c=true):Rel n0 B ρ pa { σ with as:=vT c σ.as } s :=
 ⟨fun ρ' pa' h1 h2=>⟨(h.ext ρ' pa' h1 h2).env,(h.ext ρ' pa' h1 h2).blks,(h.ext ρ' pa' h1 h2).ks,zdZ (hc ρ' pa' h1 h2) (h.ext ρ' pa' h1 h2).as⟩,h.len,h.na,h.inj,h.lo,h.hi,h.kl,h.top,h.edg,h.base,h.blen,h.df,h.lk,h.bn,h.ln,h.nf⟩
theorem Rel.noLk (h:Rel n0 B ρ pa σ ⟨env,H,lk,df⟩):Rel n0 B ρ pa { σ with lk:=[] } ⟨env,H,[],df⟩ :=
 ⟨fun ρ' pa' h1 h2=>⟨(h.ext ρ' pa' h1 h2).env,(h.ext ρ' pa' h1 h2).blks,(h.ext ρ' pa' h1 h2).ks,(h.ext ρ' pa' h1 h2).as⟩,h.len,h.na,h.inj,h.lo,h.hi,h.kl,h.top,h.edg,h.base,h.blen,h.df,fun a off hh=>by simp [wK,ya] at hh,h.bn,fun a off hh=>by simp [wK,ya] at hh,h.nf⟩
theorem jY {a b:Nat} {x:List C×TypeId} {l:List (Nat×List C×TypeId)}:qy a ((b,x)::l)=if a=b then some x else qy a l:=by
 simp only [qy]
 by_cases h:a=b
 ·subst h;simp
 ·have:Nat.beq a b=false:=by cases hb:Nat.beq a b with|false=>rfl|true=>exact absurd (qJ hb) h
  simp [h,this]
theorem get_push {H:Hp} {b:Nat} {x y:Blk} (h:H.get b=some x):(H.push y).get b=some x:=by
 simp only [Hp.get,Hp.push] at h ⊢;exact nth_app h
theorem Rel.block {cs:List C} {vs:List V} {t:TypeId} (h:Rel n0 B ρ pa σ ⟨env,H,lk,df⟩) (hv:∀ ρ' pa',ρ <+: ρ'->pa <+: pa'->evCs ρ' pa' cs=vs):Rel n0 B ρ (pa++[H.blks.length]) (vV σ cs t) ⟨env,H.push (.cells vs t),lk,df⟩:=by
 have pda:∀ a,a<σ.na->pd (pa++[H.blks.length]) a=pd pa a:=fun a ha=>qj (zAq _ _) (by rw [h.na];exact ha)
 have pdn:pd (pa++[H.blks.length]) σ.na=H.blks.length:=by
  simp [pd,zd,<- h.na]
 refine ⟨fun ρ' pa' h1 h2=>?_,h.len,by simp [vV,h.na],?_,?_,?_,h.kl,h.top,h.edg,?_,?_,h.df,?_,?_,?_,?_⟩
 ·have h0:pa <+: pa':=(zAq _ _).trans h2;obtain ⟨e1,e2,e3,e4⟩:=h.ext ρ' pa' h1 h0;refine ⟨e1,fun a c ty hf=>?_,e3,e4⟩;simp only [vV,jY] at hf;split at hf
  ·rename_i ha;subst ha;cases hf;rw [qj h2 (by simp [h.na]),pdn,hv ρ' pa' h1 h0]
   simp [Hp.get,Hp.push,zd]
  ·exact get_push (e2 a c ty hf)
 ·intro a a' ha ha' he;simp only [vV] at ha ha'
  by_cases h1:a<σ.na<;>by_cases h2:a'<σ.na
  ·rw [pda a h1,pda a' h2] at he;exact h.inj a a' h1 h2 he
  ·obtain rfl:a'=σ.na:=by omega
   rw [pda a h1,pdn] at he;have:=h.hi a h1;simp only at this;omega
  ·obtain rfl:a=σ.na:=by omega
   rw [pda a' h2,pdn] at he;have:=h.hi a' h2;simp only at this;omega
  ·omega
 ·intro a h1 h2;simp only [vV] at h1 h2
  by_cases h3:a<σ.na
  ·rw [pda a h3];exact h.lo a h1 h3
  ·obtain rfl:a=σ.na:=by omega
   rw [pdn];exact h.blen
 ·intro a h2;simp only [vV] at h2;simp only [Hp.push,zAi,List.length_singleton]
  by_cases h3:a<σ.na
  ·rw [pda a h3];have:=h.hi a h3;simp only at this;omega
  ·obtain rfl:a=σ.na:=by omega
   rw [pdn];omega
 ·intro b hb hn;have h1:=h.blen;simp only at h1;simp only [Hp.push];rw [zAR (by omega)]
  exact h.base b hb fun a ha=>by rw [<- pda a (by have:=h.nf;omega)];exact hn a ha
 ·have h1:=h.blen;simp only at h1;simp only [Hp.push,zAi];omega
 ·intro a off hl cs' ty c hg hc hlk;simp only [vV] at hl hg;have ha:=h.ln a off hl;rw [pda a ha] at hg ⊢;refine h.lk a off hl cs' ty c ?_ hc hlk;have:=h.hi a ha;simp only at this;simp only [Hp.get,Hp.push,zd] at hg ⊢
  rwa [zAR this] at hg
 ·intro a x hf;simp only [vV,jY] at hf ⊢;split at hf
  ·omega
  ·have:=h.bn a x hf;omega
 ·intro a off hl;have:=h.ln a off hl;simp only [vV];omega
 ·have:=h.nf;simp only [vV];omega
theorem yT {a b:Nat} {cs:List C}:∀ {l:List (Nat×List C×TypeId)},qy b (zdR a cs l)=if a=b then (qy b l).map (fun x=>(cs,x.2)) else qy b l
 | []=>by simp [zdR,qy]
 | (c,x,t)::r=>by
  by_cases hac:a=c
  ·subst hac;simp only [zdR,zAu,if_true,jY]
   by_cases hb:b=a
   ·subst hb;simp
   ·have:¬ a=b:=fun e=>hb e.symm;simp [hb,this]
  ·have h0:Nat.beq a c=false:=by cases hb:Nat.beq a c with|false=>rfl|true=>exact absurd (qJ hb) hac
   simp only [zdR,h0,zAH,if_false,jY,yT]
   by_cases hb:b=c
   ·subst hb;simp [hac]
   ·simp [hb]
theorem yU {H:Hp} {b:Nat} {x:Blk} (h:b<H.blks.length):(H.set b x).get b=some x:=by
 simp [Hp.get,Hp.set,zd,h]
theorem vD {H:Hp} {b c:Nat} {x:Blk} (h:b≠c):(H.set b x).get c=H.get c:=by
 simp [Hp.get,Hp.set,zd,h]
theorem zcq {H:Hp} {b:Nat} {v:V}:(H.edge b v).blks=H.blks:=by
 unfold Hp.edge;split<;>rfl
theorem zby {H:Hp} {b c:Nat} {v:V}:(H.edge b v).get c=H.get c:=by
 simp [Hp.get,zcq]
theorem zjf {H:Hp} {b:Nat} {v:V} {e:Nat×Nat} (h:e∈(H.edge b v).edges):e∈H.edges\/(e=(b,v.top)/\v.top≠0):=by
 unfold Hp.edge at h;split at h
 ·exact .inl h
 ·simp only [zAK] at h;rcases h with rfl|h
  ·exact .inr ⟨rfl,by omega⟩
  ·exact .inl h
theorem Rel.write {a:Nat} {cs0 cs:List C} {vs:List V} {ty:TypeId} {v:V} {lk2:List (Nat×Nat)} {lk':List (Nat×Nat)} (h:Rel n0 B ρ pa σ ⟨env,H,lk,df⟩) (hf:qy a σ.blks=some (cs0,ty))
  (hv:∀ ρ' pa',ρ <+: ρ'->pa <+: pa'->evCs ρ' pa' cs=vs) (htop:σ.nf<=a\/v.top=0)
  (hl1:∀ b off,wK lk2 b off=true->b<σ.na)
  (hl2:∀ b off,b<σ.na->b≠a->wK lk2 b off=true->wK σ.lk b off=true) (hl3:∀ x,x∈lk->x∈lk')
  (hl4:∀ off c,wK lk2 a off=true->nth vs off=some c->locked c=true->lk'.any (fun p=>Nat.beq p.1 (pd pa a) && Nat.beq p.2 off)=true) :
  Rel n0 B ρ pa { σ with blks:=zdR a cs σ.blks,lk:=lk2 } ⟨env,(H.set (pd pa a) (.cells vs ty)).edge (pd pa a) v,lk',df⟩:=by
 have ha:=h.bn a _ hf;have hlen:((H.set (pd pa a) (.cells vs ty)).edge (pd pa a) v).blks.length=H.blks.length:=by simp [zcq,Hp.set]
 have hha:=h.hi a ha;simp only at hha;refine ⟨fun ρ' pa' h1 h2=>?_,h.len,h.na,h.inj,h.lo,fun b hb=>by simp only [hlen];exact h.hi b hb,h.kl,h.top,fun e he=>?_,fun b hb hn=>?_,by simp only [hlen];exact h.blen,h.df,fun b off hl cs' ty' c hg hc hlk=>?_,fun b x hb=>?_,hl1,h.nf⟩
 ·obtain ⟨e1,e2,e3,e4⟩:=h.ext ρ' pa' h1 h2;refine ⟨e1,fun b c t hb=>?_,e3,e4⟩;have pdb:∀ b,b<σ.na->pd pa' b=pd pa b:=fun b hb=>qj h2 (by rw [h.na];exact hb)
  simp only [yT] at hb;simp only [zby];split at hb
  ·rename_i hab;subst hab;rw [hf] at hb;simp only [zAa,zAA,zAD] at hb;obtain ⟨rfl,rfl⟩:=hb;rw [pdb a ha,yU hha,hv ρ' pa' h1 h2]
  ·rename_i hab;have hb':=h.bn b _ hb;rw [vD]
   ·exact e2 b c t hb
   ·rw [pdb b hb'];intro e;exact hab (h.inj a b ha hb' e)
 ·rcases zjf he with he|⟨rfl,ht⟩
  ·exact h.edg e he
  ·rcases htop with htop|htop
   ·exact h.lo a htop ha
   ·exact absurd htop ht
 ·simp only [zcq,Hp.set];rw [zAl];split
  ·rename_i e;subst e;rcases zAZ a σ.nf with hn1|hn1
   ·exact absurd rfl (hn a hn1)
   ·have:=h.lo a hn1 ha;omega
  ·exact h.base b hb hn
 ·by_cases hab:b=a
  ·subst hab;simp only [zby] at hg;rw [yU hha] at hg;cases hg;exact hl4 off c hl hc hlk
  ·have hb:=hl1 b off hl;simp only [zby] at hg;rw [vD (fun e=>hab (h.inj a b ha hb e).symm)] at hg;have:=h.lk b off (hl2 b off hb hab hl) cs' ty' c hg hc hlk;simp only [List.any_eq_true] at this ⊢;obtain ⟨x,hx,hx2⟩:=this;exact ⟨x,hl3 x hx,hx2⟩
 ·simp only [yT] at hb;split at hb
  ·rename_i hab;subst hab;exact ha
  ·exact h.bn b x hb
end Go.Vm.Sx
namespace Go.Vm.Sx
open Go Go.Vm
abbrev PH:=FuncId->List AV->List (List V×TypeId)->Option (V×List (List V))
variable {P:Program} {gl:Gl} {ph:PH} {N:Nat} {r:Nat×List V} {ρ ρ':List V} {pa pa':List Nat} {σ:Sg} {s:St} {n0:Nat} {B:List Blk} {env:List V} {H:Hp} {lk:List (Nat×Nat)} {df:List (V×List V)} {takes:List Tmp}
def zoQ (x:OR) (v:V):Prop:=x=.val v\/(x=.skip/\v=.tup [])
def Step (P:Program) (gl:Gl) (ph:PH) (N:Nat) (r:Nat×List V) (n0:Nat) (B:List Blk) (k:KT) (takes:List Tmp) (o:Oper) (σ:Sg) (ρ:List V) (pa:List Nat) (s:St):Prop :=
 ∃ σ' sv ρ' pa' t' x s' v,k σ' sv=some t'/\evT ph gl N t' ρ'=some r/\ρ <+: ρ'/\pa <+: pa'/\Rel n0 B ρ' pa' σ' s' /\
  (∃ k0,∀ n,k0<=n->Cx.op ⟨P,gl,zk P gl n,gl.uq⟩ takes o s.env s.H s.lk s.defers=some (x,s'))/\zoQ x v /\
  (∀ ρ'' pa'',ρ' <+: ρ''->pa' <+: pa''->∀ v',qp ρ'' pa'' sv=some v'->v'=v)/\∀ b,qY takes σ o=some (.wr b)->∀ A,A≠pd pa' b->s'.H.get A=s.H.get A
theorem yB {o:Oper} {k:KT} {t:Tree} (h:wJ P σ o.op k=some t) (hr:Rel n0 B ρ pa σ ⟨env,H,lk,df⟩) (hq:evT ph gl N t ρ=some r) (ht:zO takes o.dst=false) :
  Step P gl ph N r n0 B k takes o σ ρ pa ⟨env,H,lk,df⟩:=by
 unfold wJ at h;split at h
 ·rename_i sv hsv;obtain ⟨v,h1,h2⟩:=zbw (gl:=gl) (lk:=lk) (df:=df) hr.here ht hsv;refine ⟨σ,sv,ρ,pa,t,.val v,_,v,h,hq,zAI _,zAI _,hr,⟨0,fun n _=>h1 _ _⟩,.inl rfl,fun ρ'' pa'' e1 e2 v' hv'=>?_,fun _ _ _ _=>rfl⟩;obtain ⟨w,h3,h4⟩:=zbw (gl:=gl) (lk:=lk) (df:=df) (hr.ext ρ'' pa'' e1 e2) ht hsv;have:=(h1 (zk P gl 0) gl.uq).symm.trans (h3 (zk P gl 0) gl.uq);simp only [zAA,zAD,OR.val.injEq] at this
  rw [this.1];exact zAr (hv'.symm.trans h4)
 ·cases h
theorem jm {c:TB} {t:Option Tree} {t0:Tree} (h:wI c t=some t0) (hq:evT ph gl N t0 ρ=some r):∃ t1,t=some t1/\evT ph gl N t1 ρ=some r/\evB ρ c=true:=by
 unfold wI at h;split at h
 ·exact ⟨t0,h,hq,rfl⟩
 ·split at h
  ·rename_i t1;cases h;simp only [evT,cond_eq_ite] at hq;split at hq
   ·rename_i hc;exact ⟨t1,rfl,hq,hc⟩
   ·cases hq
  ·cases h
theorem zbz {e:VE} {t:Option Tree} {t0:Tree} (h:zlf e t=some t0) (hq:evT ph gl N t0 ρ=some r):∃ t1,t=some t1/\evT ph gl N t1 (ρ++[evVE ρ e])=some r:=by
 unfold zlf at h;split at h
 ·rename_i t1;cases h;exact ⟨t1,rfl,hq⟩
 ·cases h
theorem zbA {pa:List Nat} {y:List V}:∀ {x z:List V} {ks:List CK} {i:Nat},z.length=ks.length->x.length=i->evCs (x++z++y) pa (lits ks i)=z
 | _,[],[],i,_,_=>rfl
 | _,[],_::_,i,h,_=>by simp at h
 | _,_::_,[],i,h,_=>by simp at h
 | x,v::vs,k::ks,i,h,hi=>by
  simp only [lits,evCs];have h1:at' (x++v::vs++y) i=v:=by
   rw [yb];subst hi;simp
  have h2:=zbA (pa:=pa) (x:=x++[v]) (y:=y) (z:=vs) (ks:=ks) (i:=i+1) (by simpa using h) (by simp [hi])
  simp only [zAc,zA6,zA7] at h1 h2 ⊢;rw [h2];simp only [evC];rw [h1]
theorem zar {ty:TypeId} {i:Nat} {k:Sg->SC->Option Tree} {t:Tree} (h:yO P σ ty i k=some t) (hr:Rel n0 B ρ pa σ s) (hi:i<σ.ks.length) (hq:evT ph gl N t ρ=some r) :
  ∃ ks' sc ρ' t',k { σ with ks:=ks' } sc=some t'/\evT ph gl N t' ρ'=some r/\ρ <+: ρ'/\Rel n0 B ρ' pa { σ with ks:=ks' } s/\(∀ ρ'' pa'',ρ' <+: ρ''->evSC ρ'' pa'' sc=at' ρ i)/\(∀ ρ'' pa'',ρ' <+: ρ''->evCs ρ'' pa'' (cellsSC sc)=(at' ρ i).cells):=by
 have hi':i<ρ.length:=by rw [hr.kl];exact hi
 unfold yO at h;split at h
 ·split at h
  ·rename_i ks hl;split at h
   ·rename_i t' ht';cases h;simp only [evT] at hq;split at hq
    ·rename_i cs hcs;rw [cond_eq_ite] at hq;split at hq
     ·rename_i hk;have htop:tops cs=0:=by have:=yS hr.top i;rw [hcs] at this;exact this
      have hlen:=ksOk_len hk;have hev:∀ ρ'' pa'',ρ++cs <+: ρ''->evCs ρ'' pa'' (lits ks σ.ks.length)=cs:=by
       rintro ρ'' pa'' ⟨y,rfl⟩;exact zbA hlen hr.kl
      exact ⟨_,_,ρ++cs,t',ht',hq,zAq _ _,hr.push hk htop,fun ρ'' pa'' e=>by rw [hcs];simp only [evSC];rw [hev ρ'' pa'' e],fun ρ'' pa'' e=>by rw [hcs];exact hev ρ'' pa'' e⟩
     ·cases hq
    ·cases hq
   ·cases h
  ·cases h
 ·split at h
  ·rename_i ck hck;split at h
   ·rename_i t' ht';cases h;simp only [evT,cond_eq_ite] at hq;split at hq
    ·rename_i hk;refine ⟨_,_,ρ,t',ht',hq,zAI _,hr.kind hi hk,fun ρ'' pa'' e=>?_,fun ρ'' pa'' e=>?_⟩
     ·simp only [evSC,evC];exact wk e hi'
     ·simp only [cellsSC,evCs,evC];rw [wk e hi'];have hne:ck≠.raw:=by
       unfold ckT at hck
       repeat' split at hck
       all_goals first|(cases hck;intro e;cases e;done)|(cases hck;done)
      exact ((zaZ (vW hk hne).1).1).symm
    ·cases hq
   ·cases h
  ·cases h
 ·cases h
theorem zqo {v:V} (h:v.top=0):tops (Sx.vL v)=0:=by
 cases v<;>first|rfl|exact h
theorem tops_take {l:List V} (h:tops l=0) (n:Nat):tops (l.take n)=0:=zbx fun _v hv=>wx (zAw hv) h
theorem tops_drop {l:List V} (h:tops l=0) (n:Nat):tops (l.drop n)=0:=zbx fun _v hv=>wx (zA1 hv) h
theorem vX (h:tops ρ=0):∀ (l:TL),tops (evL ρ l)=0
 | .var i=>zqo (yS h i)
 | .nil=>rfl
 | .snoc l i=>by simp only [evL,jl,vX h l,tops,yS h i];rfl
 | .cat a b=>by simp only [evL,jl,vX h a,vX h b];rfl
 | .sub l a b=>by simp only [evL];exact tops_drop (tops_take (vX h l) _) _
 | .ofS s=>zbx fun v hv=>by
   simp only [evL,zAo] at hv;obtain ⟨_,_,rfl⟩:=hv;rfl
theorem xU (hk:∀ i k,nth σ.ks i=some k->kOk k (at' ρ i)=true) (ht:tops ρ=0) {c:C} (h:xN σ.ks c=true):(evC ρ pa c).top=0/\locked (evC ρ pa c)=false/\∀ pa',evC ρ pa' c=evC ρ pa c:=by
 cases c with
 | k v =>
  simp only [xN,zAC,zAn] at h;exact ⟨qJ h.1,h.2,fun _=>rfl⟩
 | v i cl =>
  simp only [xN] at h;have hl:locked (at' ρ i)=false:=by
   split at h
   all_goals first
    |(rename_i h0;exact (vW (hk _ _ h0) (by intro e;cases e)).2)
    |cases h
  refine ⟨?_,?_,fun _=>by cases cl<;>rfl⟩
  ·cases cl
   ·exact yS ht i
   ·simp only [evC,top_clr];exact yS ht i
  ·cases cl
   ·exact hl
   ·simp only [evC];cases hv:at' ρ i<;>rfl
 | i k t=>exact ⟨rfl,rfl,fun _=>rfl⟩
 | b t=>exact ⟨rfl,rfl,fun _=>rfl⟩
 | s t=>exact ⟨rfl,rfl,fun _=>rfl⟩
 | sl sz t o =>
  refine ⟨vX ht t,?_,fun _=>rfl⟩;cases o<;>first|rfl|cases h
 | p a off=>cases h
 | lkd i=>cases h
theorem ko (hk:∀ i k,nth σ.ks i=some k->kOk k (at' ρ i)=true) (ht:tops ρ=0):∀ {cs:List C},kY σ.ks cs=true->tops (evCs ρ pa cs)=0/\(∀ v∈evCs ρ pa cs,locked v=false)/\∀ pa',evCs ρ pa' cs=evCs ρ pa cs
 | [],_=>⟨rfl,fun v hv=>by simp [evCs] at hv,fun _=>rfl⟩
 | c::cs,h=>by
  simp only [kY,zAC] at h;obtain ⟨a1,a2,a3⟩:=xU (pa:=pa) hk ht h.1;obtain ⟨b1,b2,b3⟩:=ko hk ht h.2;refine ⟨by simp only [evCs,tops,a1,b1];rfl,fun v hv=>?_,fun pa'=>by simp only [evCs,a3 pa',b3 pa']⟩
  simp only [evCs,zAK] at hv;rcases hv with rfl|hv
  ·exact a2
  ·exact b2 v hv
theorem vf (hk:∀ i k,nth σ.ks i=some k->kOk k (at' ρ i)=true) (ht:tops ρ=0) {x:SC} (h:zaY σ.ks x=true):(evSC ρ pa x).top=0/\∀ pa',evSC ρ pa' x=evSC ρ pa x:=by
 cases x with
 | one c=>obtain ⟨a1,_,a3⟩:=xU (pa:=pa) hk ht h;exact ⟨a1,a3⟩
 | agg cs=>obtain ⟨a1,_,a3⟩:=ko (pa:=pa) hk ht h;exact ⟨a1,fun pa'=>by simp only [evSC,a3 pa']⟩
theorem zlp {t:Nat} {v:V} (h:∀ sz xs e,v≠.sl sz xs (.yes e)):qE env t (some v)=some (clr v,env):=by
 cases v<;>first|rfl|(rename_i sz xs o;cases o<;>first|rfl|exact absurd rfl (h _ _ _))
theorem zbB {x:Operand} {k:Sg->SC->Option Tree} {t:Tree} (h:vU σ x k=some t) (hr:Rel n0 B ρ pa σ ⟨env,H,lk,df⟩) :
  ∃ e' sc env' v,k { σ with env:=e' } sc=some t/\take env x=some (v,env')/\Rel n0 B ρ pa { σ with env:=e' } ⟨env',H,lk,df⟩/\(∀ ρ'' pa'',ρ <+: ρ''->pa <+: pa''->evSC ρ'' pa'' sc=v):=by
 have hself:{ σ with env:=σ.env }=σ:=rfl;cases x with
 | tmp tt =>
  simp only [vU] at h;split at h
  ·rename_i sz l e hs;have hv:∀ ρ'' pa'',ρ <+: ρ''->pa <+: pa''->nth env tt=some (.sl sz (evL ρ'' l) (.yes e)):=fun ρ'' pa'' h1 h2=>by
    obtain ⟨_,v,h3,h4⟩:=zbv (hr.ext ρ'' pa'' h1 h2) hs;cases h4;exact h3
   have h0:=hv ρ pa (zAI _) (zAI _);have hst:∀ ρ'' pa'',ρ <+: ρ''->pa <+: pa''->evL ρ'' l=evL ρ l:=fun ρ'' pa'' h1 h2=>by
    have:=(hv ρ'' pa'' h1 h2).symm.trans h0;simpa using this
   refine ⟨_,_,_,.sl sz (evL ρ l) (.yes e),h,?_,hr.put (v:=.sl sz (evL ρ l) .no) (fun ρ'' pa'' h1 h2 v' hv'=>?_),fun ρ'' pa'' h1 h2=>?_⟩
   ·rw [jQ,h0];rfl
   ·cases hv';simp only [evSC,evC];rw [hst ρ'' pa'' h1 h2]
   ·simp only [evSC,evC];rw [hst ρ'' pa'' h1 h2]
  ·rename_i i hs;split at h
   ·rename_i hd;have hv:∀ ρ'' pa'',ρ <+: ρ''->pa <+: pa''->nth env tt=some (at' ρ'' i):=fun ρ'' pa'' h1 h2=>by
     obtain ⟨_,v,h3,h4⟩:=zbv (hr.ext ρ'' pa'' h1 h2) hs;cases h4;exact h3
    have h0:=hv ρ pa (zAI _) (zAI _);have hst:∀ ρ'' pa'',ρ <+: ρ''->pa <+: pa''->at' ρ'' i=at' ρ i:=fun ρ'' pa'' h1 h2=>by
     have:=(hv ρ'' pa'' h1 h2).symm.trans h0;simpa using this
    have hl:locked (at' ρ i)=false:=(xU (pa:=pa) hr.here.ks hr.top hd).2.1;have hr2:=hr.put (d:=tt) (sv:=.val (.one (.v i true))) (v:=clr (at' ρ i)) (fun ρ'' pa'' h1 h2 v' hv'=>by cases hv';simp only [evSC,evC];rw [hst ρ'' pa'' h1 h2])
    have hsame:∀ v,nth env tt=some v->env.set tt v=env:=fun v hv=>zhV hv;cases hvi:at' ρ i with
    | sl sz xs o =>
     cases o with
     | yes e =>
      refine ⟨_,_,_,_,h,by rw [jQ,h0,hvi];rfl,?_,fun ρ'' pa'' h1 h2=>?_⟩
      ·rw [hvi] at hr2;exact hr2
      ·simp only [evSC,evC];rw [hst ρ'' pa'' h1 h2,hvi]
     | no =>
      refine ⟨_,_,_,_,h,by rw [jQ,h0,hvi];rfl,?_,fun ρ'' pa'' h1 h2=>?_⟩
      ·rw [hvi] at hr2;simp only [clr] at hr2
       rwa [hsame _ (by rw [h0,hvi])] at hr2
      ·simp only [evSC,evC];rw [hst ρ'' pa'' h1 h2,hvi];rfl
     | lock=>rw [hvi] at hl;cases hl
    | _ =>
     refine ⟨_,_,_,_,h,by rw [jQ,h0,hvi];rfl,?_,fun ρ'' pa'' h1 h2=>?_⟩
     ·rw [hvi] at hr2;simp only [clr] at hr2
      rwa [hsame _ (by rw [h0,hvi])] at hr2
     ·simp only [evSC,evC];rw [hst ρ'' pa'' h1 h2,hvi];rfl
   ·cases h
  ·rename_i x n1 n2 hs;split at h
   ·rename_i hny;have hv:∀ ρ'' pa'',ρ <+: ρ''->pa <+: pa''->nth env tt=some (evSC ρ'' pa'' x):=fun ρ'' pa'' h1 h2=>by
     obtain ⟨_,v,h3,h4⟩:=zbv (hr.ext ρ'' pa'' h1 h2) hs;cases h4;exact h3
    have h0:=hv ρ pa (zAI _) (zAI _);have hst:∀ ρ'' pa'',ρ <+: ρ''->pa <+: pa''->evSC ρ'' pa'' x=evSC ρ pa x:=fun ρ'' pa'' h1 h2=>by
     have:=(hv ρ'' pa'' h1 h2).symm.trans h0;simpa using this
    refine ⟨σ.env,clrSC x,env,clr (evSC ρ pa x),h,?_,hr,fun ρ'' pa'' h1 h2=>by rw [jC,hst ρ'' pa'' h1 h2]⟩
    rw [jQ,h0];refine zlp ?_;intro sz xs e he;cases x with
    | agg cs=>cases he
    | one c =>
     cases c with
     | k v=>simp only [evSC,evC] at he;subst he;cases hny
     | v i cl =>
      cases cl with
      | false=>exact n2 i rfl
      | true=>simp only [evSC,evC] at he;cases hh:at' ρ i<;>rw [hh] at he<;>cases he
     | sl sz' t o=>simp only [evSC,evC,V.sl.injEq] at he;obtain ⟨_,_,rfl⟩:=he;exact n1 _ _ _ rfl
     | lkd i=>simp only [evSC,evC] at he;cases hh:at' ρ i<;>rw [hh] at he<;>cases he
     | _=>cases he
   ·cases h
  ·cases h
 | const v =>
  simp only [vU] at h;split at h
  ·rename_i x hs;have h0:=jD hr.here hs;exact ⟨σ.env,x,env,evSC ρ pa x,h,by simp only [take,h0,zAa],hr,fun ρ'' pa'' h1 h2=>zAr ((jD (hr.ext ρ'' pa'' h1 h2) hs).symm.trans h0)⟩
  ·cases h
 | global g=>simp [vU,pk] at h
 | func f=>simp [vU,pk] at h
end Go.Vm.Sx
namespace Go.Vm.Sx
open Go Go.Vm
variable {P:Program} {gl:Gl} {ph:PH} {N:Nat} {r:Nat×List V} {ρ ρ':List V} {pa pa':List Nat} {σ:Sg} {s:St} {n0:Nat} {B:List Blk} {env:List V} {H:Hp} {lk:List (Nat×Nat)} {df:List (V×List V)} {takes:List Tmp} {k:KT} {t:Tree}
variable {dst:Option Tmp} {type:TypeId} {pos:String} {after:Array Edge} {guard:Option (Nat×Bool)}
theorem wy {v:V} {ρ'':List V} (h:ρ++[v] <+: ρ'') {j:Nat} (hj:j=ρ.length):at' ρ'' j=v:=by
 subst hj;rw [wk h (by simp),yA]
theorem zcr {x ρ'':List V} (h:ρ++x <+: ρ''):ρ <+: ρ'':=(zAq _ _).trans h
theorem zG {o:Oper} {σ':Sg} {sv:SV} {ρ':List V} {t':Tree} {v:V} {env':List V} (hk:k σ' sv=some t') (hq:evT ph gl N t' ρ'=some r) (hp:ρ <+: ρ') (hr:Rel n0 B ρ' pa σ' ⟨env',H,lk,df⟩)
  (ho:∀ n,Cx.op ⟨P,gl,zk P gl n,gl.uq⟩ takes o env H lk df=some (.val v,⟨env',H,lk,df⟩)) (hv:∀ ρ'' pa'',ρ' <+: ρ''->pa <+: pa''->∀ v',qp ρ'' pa'' sv=some v'->v'=v) :
  Step P gl ph N r n0 B k takes o σ ρ pa ⟨env,H,lk,df⟩ :=
 ⟨σ',sv,ρ',pa,t',.val v,_,v,hk,hq,hp,zAI _,hr,⟨0,fun n _=>ho n⟩,.inl rfl,hv,fun _ _ _ _=>rfl⟩
theorem take_ok {o:Oper} {x:Operand} (h:vU σ x (fun σ x=>k σ (.val x))=some t) (hr:Rel n0 B ρ pa σ ⟨env,H,lk,df⟩) (hq:evT ph gl N t ρ=some r) (ho:∀ cx:Cx,cx.op takes o env H lk df=tkQ H lk df (take env x)) :
  Step P gl ph N r n0 B k takes o σ ρ pa ⟨env,H,lk,df⟩:=by
 obtain ⟨e',sc,env',v,h1,h2,h3,h4⟩:=zbB h hr;exact zG h1 hq (zAI _) h3 (v:=v) (fun n=>by rw [ho,h2];rfl) (fun ρ'' pa'' e1 e2 v' hv'=>by cases hv';exact h4 ρ'' pa'' e1 e2)
theorem zbC {c:TB} {a b:Option Tree} (h:zdU c a b=some t) (hq:evT ph gl N t ρ=some r):∃ ta tb,a=some ta/\b=some tb/\((evB ρ c=true/\evT ph gl N ta ρ=some r)\/(evB ρ c=false/\evT ph gl N tb ρ=some r)):=by
 unfold zdU at h;split at h
 ·rename_i ta tb;cases h;simp only [evT] at hq;refine ⟨ta,tb,rfl,rfl,?_⟩;cases hc:evB ρ c<;>rw [hc] at hq
  ·exact .inr ⟨rfl,hq⟩
  ·exact .inl ⟨rfl,hq⟩
 ·cases h
theorem zoR {c a b:Operand} (h:xOp P takes σ ⟨dst,.pick c a b,type,pos,after,guard⟩ k=some t) (hr:Rel n0 B ρ pa σ ⟨env,H,lk,df⟩) (hq:evT ph gl N t ρ=some r) (htk:zO takes dst=false) :
  Step P gl ph N r n0 B k takes ⟨dst,.pick c a b,type,pos,after,guard⟩ σ ρ pa ⟨env,H,lk,df⟩:=by
 simp only [xOp] at h;split at h
 ·rename_i v hv;exact yB (o:=⟨dst,.pick c a b,type,pos,after,guard⟩) (by simp only [wJ,hv];exact h) hr hq htk
 ·split at h
  ·rename_i tt x y hc ha hb;obtain ⟨ta,tb,h1,h2,h3⟩:=zbC h hq;have ec:=zjd hr.here hc;rcases h3 with ⟨h3,h4⟩|⟨h3,h4⟩
   ·obtain ⟨v,e1,e2⟩:=kj hr.here ha;refine zG h1 h4 (zAI _) hr (v:=v) (fun n=>by rw [yM,ec,h3,e1];rfl) (fun ρ'' pa'' f1 f2 v' hv'=>?_)
    obtain ⟨w,e3,e4⟩:=kj (hr.ext ρ'' pa'' f1 f2) ha;have:=e1.symm.trans e3;cases this;exact zAr (hv'.symm.trans e4)
   ·obtain ⟨v,e1,e2⟩:=kj hr.here hb;refine zG h2 h4 (zAI _) hr (v:=v) (fun n=>by rw [yM,ec,h3,e1];rfl) (fun ρ'' pa'' f1 f2 v' hv'=>?_)
    obtain ⟨w,e3,e4⟩:=kj (hr.ext ρ'' pa'' f1 f2) hb;have:=e1.symm.trans e3;cases this;exact zAr (hv'.symm.trans e4)
  ·cases h
theorem lkHas_cons {a off b o:Nat} {l:List (Nat×Nat)}:wK ((a,off)::l) b o=true ↔ (a=b/\off=o)\/wK l b o=true:=by
 simp only [wK,ya];constructor
 ·intro h;split at h
  ·rename_i hh;simp only [zAC] at hh;exact .inl ⟨qJ hh.1,qJ hh.2⟩
  ·exact .inr h
 ·rintro (⟨rfl,rfl⟩|h)
  ·simp
  ·split
   ·rfl
   ·exact h
theorem zh2 {cs:List C} {off:Nat} {c:C}:evCs ρ pa (cs.set off c)=(evCs ρ pa cs).set off (evC ρ pa c):=by
 simp only [zF,List.map_set]
theorem zm1 {H:Hp} {b:Nat} {x:Blk} (h:H.get b=some x):H.set b x=H:=by
 obtain ⟨bs,es⟩:=H;simp only [Hp.get,zd] at h;simp only [Hp.set]
 congr 1
 apply zBP;intro t;rw [List.getElem?_set'];split
 ·rename_i e;subst e;rw [h];rfl
 ·rfl
theorem zbD {d:Tmp} {tt:TypeId} {a:Operand} {b off:Nat} {cs:List V} {ty:TypeId} {cx:Cx} (hd:takes.any (Nat.beq d)=true) (ha:qC cx.P tt=some false) (hp:peek env a=some (.ptr b off)) (hg:H.get b=some (.cells cs ty)) :
  (∀ sz xs e,nth cs off=some (.sl sz xs (.yes e))->cx.op takes ⟨some d,.load tt a,type,pos,after,guard⟩ env H lk df=some (.val (.sl sz xs (.yes e)),⟨env,H.set b (.cells (cs.set off (.sl sz xs .lock)) ty),(b,off)::lk,df⟩)) /\
  (nth cs off=some .snil->cx.op takes ⟨some d,.load tt a,type,pos,after,guard⟩ env H lk df=some (.val .snil,⟨env,H,lk,df⟩)):=by
 refine ⟨fun sz xs e hc=>?_,fun hc=>?_⟩
 ·simp only [Cx.op,hd,ha,hp,hg,hc,fSet_eq,zR];rfl
 ·simp only [Cx.op,hd,ha,hp,hg,hc]
theorem zm2 {d:Tmp} {tt:TypeId} {a:Operand} (h:xOp P takes σ ⟨some d,.load tt a,type,pos,after,guard⟩ k=some t) (hr:Rel n0 B ρ pa σ ⟨env,H,lk,df⟩) (hq:evT ph gl N t ρ=some r) (htk:takes.any (Nat.beq d)=true) :
  Step P gl ph N r n0 B k takes ⟨some d,.load tt a,type,pos,after,guard⟩ σ ρ pa ⟨env,H,lk,df⟩:=by
 simp only [xOp,zO,htk] at h;split at h
 ·rename_i a' off hag hpk;have hp:=jD hr.here hpk;simp only [evSC,evC] at hp;split at h
  ·rename_i cs ty hf;have hgb:=hr.here.blks _ _ _ hf;have hN:=hr.bn _ _ hf;have hloc:∀ (cs':List V) (b:Nat),qY takes σ ⟨some d,.load tt a,type,pos,after,guard⟩=some (.wr b)->∀ A,A≠pd pa b->(H.set (pd pa a') (.cells cs' ty)).get A=H.get A:=fun cs' b hb A hA=>by
    have hb':b=a':=by
     cases a with
     | global g=>simp [pk] at hpk
     | func f=>simp [pk] at hpk
     | tmp x=>simp [qY,zO,htk,hpk] at hb;exact hb.symm
     | const v=>simp [qY,zO,htk,hpk] at hb;exact hb.symm
    subst hb';exact vD (fun e=>hA e.symm)
   have hall:∀ ρ'' pa'',ρ <+: ρ''->pa <+: pa''->evCs ρ'' pa'' cs=evCs ρ pa cs:=fun ρ'' pa'' h1 h2=>by
    have:=(hr.ext ρ'' pa'' h1 h2).blks _ _ _ hf;rw [qj h2 (by rw [hr.na];exact hN),hgb] at this
    simpa using this.symm
   split at h
   ·rename_i hc;have e0:nth (evCs ρ pa cs) off=some .snil:=by rw [zF,nth_map,hc];rfl
    exact zG h hq (zAI _) hr (v:=.snil) (fun n=>(zbD htk hag hp hgb).2 e0) (fun _ _ _ _ v' hv'=>by cases hv';rfl)
   ·rename_i sz l e hc;have e0:nth (evCs ρ pa cs) off=some (.sl sz (evL ρ l) (.yes e)):=by rw [zF,nth_map,hc];rfl
    have hl:∀ ρ'' pa'',ρ <+: ρ''->pa <+: pa''->evL ρ'' l=evL ρ l:=fun ρ'' pa'' h1 h2=>by
     have h3:=hall ρ'' pa'' h1 h2;have h4:nth (evCs ρ'' pa'' cs) off=some (.sl sz (evL ρ'' l) (.yes e)):=by rw [zF,nth_map,hc];rfl
     rw [h3,e0] at h4;simpa using h4.symm
    refine ⟨_,_,ρ,pa,t,.val (.sl sz (evL ρ l) (.yes e)),_,_,h,hq,zAI _,zAI _,?_,⟨0,fun n _=>(zbD htk hag hp hgb).1 _ _ _ e0⟩,.inl rfl,fun ρ'' pa'' h1 h2 v' hv'=>by cases hv';simp only [evSC,evC];rw [hl ρ'' pa'' h1 h2],hloc _⟩
    have hw:=hr.write (v:=.nilp) (lk':=(pd pa a',off)::lk) (lk2:=(a',off)::σ.lk) (cs:=cs.set off (.sl sz l .lock)) (vs:=(evCs ρ pa cs).set off (.sl sz (evL ρ l) .lock)) hf (fun ρ'' pa'' h1 h2=>by rw [zh2,hall ρ'' pa'' h1 h2];simp only [evC];rw [hl ρ'' pa'' h1 h2]) (.inr rfl)
     (fun b o hb=>by rcases lkHas_cons.1 hb with ⟨rfl,_⟩|hb;exact hN;exact hr.ln b o hb) (fun b o _ hne hb=>by rcases lkHas_cons.1 hb with ⟨rfl,_⟩|hb;exact absurd rfl hne;exact hb) (fun x hx=>zAE _ hx) (fun o c hb hc hlk=>?_)
    ·simpa [Hp.edge,V.top] using hw
    ·rcases lkHas_cons.1 hb with ⟨_,rfl⟩|hb
     ·simp
     ·simp only [zd,zAl] at hc;split at hc
      ·rename_i hoo;subst hoo;simp
      ·have:=hr.lk a' o hb (evCs ρ pa cs) ty c hgb (by rw [zd];exact hc) hlk
       simp only [List.any_cons,this,zBl]
   ·rename_i i hc;split at h
    ·rename_i sz hki;obtain ⟨t1,h1,h2,h3⟩:=jm h hq;have e0:nth (evCs ρ pa cs) off=some (at' ρ i):=by rw [zF,nth_map,hc];rfl
     have hl:∀ ρ'' pa'',ρ <+: ρ''->pa <+: pa''->at' ρ'' i=at' ρ i:=fun ρ'' pa'' h1 h2=>by
      have h3:=hall ρ'' pa'' h1 h2;have h4:nth (evCs ρ'' pa'' cs) off=some (at' ρ'' i):=by rw [zF,nth_map,hc];rfl
      rw [h3,e0] at h4;simpa using h4.symm
     simp only [evB] at h3;have hw:∀ lk',(∀ x,x∈lk->x∈lk')->(locked (lockV (at' ρ i))=true->(pd pa a',off)∈lk')->Rel n0 B ρ pa { σ with blks:=zdR a' (cs.set off (.lkd i)) σ.blks,lk:=(a',off)::σ.lk } ⟨env,H.set (pd pa a') (.cells ((evCs ρ pa cs).set off (lockV (at' ρ i))) ty),lk',df⟩:=fun lk' hl3 hl5=>by
      have hw:=hr.write (v:=.nilp) (lk':=lk') (lk2:=(a',off)::σ.lk) (cs:=cs.set off (.lkd i)) (vs:=(evCs ρ pa cs).set off (lockV (at' ρ i))) hf (fun ρ'' pa'' h1 h2=>by rw [zh2,hall ρ'' pa'' h1 h2];simp only [evC];rw [hl ρ'' pa'' h1 h2]) (.inr rfl)
       (fun b o hb=>by rcases lkHas_cons.1 hb with ⟨rfl,_⟩|hb;exact hN;exact hr.ln b o hb) (fun b o _ hne hb=>by rcases lkHas_cons.1 hb with ⟨rfl,_⟩|hb;exact absurd rfl hne;exact hb) hl3 (fun o c hb hc hlk=>?_)
      ·simpa [Hp.edge,V.top] using hw
      ·simp only [zd,zAl] at hc;have hthis:off=o->lk'.any (fun p=>Nat.beq p.1 (pd pa a') && Nat.beq p.2 o)=true:=fun hoo=>by
        subst hoo;have hlt:off<(evCs ρ pa cs).length:=zje e0;simp [hlt] at hc;subst hc;have:=hl5 hlk;simp only [List.any_eq_true];exact ⟨_,this,by simp⟩
       rcases lkHas_cons.1 hb with ⟨_,hoo⟩|hb
       ·exact hthis hoo
       ·by_cases hoo:off=o
        ·exact hthis hoo
        ·simp only [hoo,if_false] at hc;have:=hr.lk a' o hb (evCs ρ pa cs) ty c hgb (by rw [zd];exact hc) hlk
         simp only [List.any_eq_true] at this ⊢;obtain ⟨x,hx,hx2⟩:=this;exact ⟨x,hl3 x hx,hx2⟩
     cases hv:at' ρ i with
     | snil =>
      refine zG h1 h2 (zAI _) ?_ (v:=.snil) (fun n=>(zbD htk hag hp hgb).2 (by rw [e0,hv])) (fun ρ'' pa'' e1 e2 v' hv'=>by cases hv';simp only [evSC,evC];rw [hl ρ'' pa'' e1 e2,hv])
      have:=hw lk (fun _ h=>h) (by rw [hv];intro h;cases h)
      rw [hv] at this e0;have e1:(evCs ρ pa cs).set off (lockV .snil)=evCs ρ pa cs:=zhV e0;rw [e1,zm1 hgb] at this;exact this
     | sl sz' xs o =>
      cases o with
      | yes e =>
       refine ⟨_,_,ρ,pa,t1,.val (.sl sz' xs (.yes e)),_,_,h1,h2,zAI _,zAI _,?_,⟨0,fun n _=>(zbD htk hag hp hgb).1 _ _ _ (by rw [e0,hv])⟩,.inl rfl,fun ρ'' pa'' e1 e2 v' hv'=>by cases hv';simp only [evSC,evC];rw [hl ρ'' pa'' e1 e2,hv],hloc _⟩
       have:=hw ((pd pa a',off)::lk) (fun _ h=>zAE _ h) (fun _=>zAL);rw [hv] at this;exact this
      | _=>rw [hv] at h3;cases h3
     | _=>rw [hv] at h3;cases h3
    ·cases h
   ·cases h
  ·cases h
 ·cases h
end Go.Vm.Sx
namespace Go.Vm.Sx
open Go Go.Vm
variable {P:Program} {gl:Gl} {ph:PH} {N:Nat} {r:Nat×List V} {ρ ρ':List V} {pa pa':List Nat} {σ:Sg} {s:St} {n0:Nat} {B:List Blk} {env:List V} {H:Hp} {lk:List (Nat×Nat)} {df:List (V×List V)} {takes:List Tmp} {k:KT} {t:Tree}
variable {dst:Option Tmp} {type:TypeId} {pos:String} {after:Array Edge} {guard:Option (Nat×Bool)}
theorem zcR {H:Hp} {A:Nat} {x:Blk} (h:A≠H.blks.length):(H.push x).get A=H.get A:=by
 simp only [Hp.get,Hp.push,zd,List.getElem?_append];split
 ·rfl
 ·rename_i hl;rw [zAk (by simp;omega),zAk (by omega)]
theorem alloc_ok {tt:TypeId} (h:xOp P takes σ ⟨dst,.alloc tt,type,pos,after,guard⟩ k=some t) (hr:Rel n0 B ρ pa σ ⟨env,H,lk,df⟩) (hq:evT ph gl N t ρ=some r) :
  Step P gl ph N r n0 B k takes ⟨dst,.alloc tt,type,pos,after,guard⟩ σ ρ pa ⟨env,H,lk,df⟩:=by
 simp only [xOp] at h;split at h
 ·rename_i z hz;split at h
  ·rename_i hk;have hb:=hr.block (cs:=cellsSC (cSC z)) (vs:=z.cells) (t:=tt) (fun ρ'' pa'' _ _=>by cases z<;>first|rfl|exact zgy _)
   refine ⟨_,_,ρ,_,t,.val (.ptr H.blks.length 0),_,_,h,hq,zAI _,zAq _ _,hb,⟨0,fun n _=>zmz hz hk⟩,.inl rfl,fun ρ'' pa'' h1 h2 v' hv'=>?_,fun b hb A hA=>?_⟩
   rotate_left
   ·simp only [qY,zAA,Cls.wr.injEq] at hb;subst hb;exact zcR (by rw [<- hr.na] at hA;simpa [pd,zd] using hA)
   cases hv';simp only [evSC,evC];rw [qj h2 (by simp [hr.na])]
   simp [pd,zd,<- hr.na]
  ·cases h
 ·cases h
theorem zdg {x:SC} {v:V} (hk:zle σ.ks x=true) (h:∀ i k,nth σ.ks i=some k->kOk k (at' ρ i)=true) (he:evSC ρ pa x=v):okC v=true/\v.laid=evCs ρ pa (laidSC x):=by
 obtain ⟨h1,_,h3⟩:=zdf (pa:=pa) h hk;rw [<- he];exact ⟨h1,h3⟩
theorem box_ok {tt:TypeId} {x:Operand} (h:xOp P takes σ ⟨dst,.box tt x,type,pos,after,guard⟩ k=some t) (hr:Rel n0 B ρ pa σ ⟨env,H,lk,df⟩) (hq:evT ph gl N t ρ=some r) :
  Step P gl ph N r n0 B k takes ⟨dst,.box tt x,type,pos,after,guard⟩ σ ρ pa ⟨env,H,lk,df⟩:=by
 simp only [xOp] at h;obtain ⟨e',sc,env',v,h1,h2,h3,h4⟩:=zbB h hr;split at h1
 ·rename_i hk;have hl:=zdg hk h3.here.ks (h4 ρ pa (zAI _) (zAI _));have hb:=h3.block (cs:=laidSC sc) (vs:=v.laid) (t:=tt) (fun ρ'' pa'' e1 e2=>(zdg hk (h3.ext ρ'' pa'' e1 e2).ks (h4 ρ'' pa'' e1 e2)).2.symm);refine ⟨_,_,ρ,_,t,.val (.ptr H.blks.length 0),_,_,h1,hq,zAI _,zAq _ _,hb,⟨0,fun n _=>by rw [zi9,h2,jG hl.1]⟩,.inl rfl,fun ρ'' pa'' e1 e2 v' hv'=>?_,fun b hb A hA=>?_⟩
  rotate_left
  ·simp only [qY,zAA,Cls.wr.injEq] at hb;subst hb;exact zcR (by rw [<- hr.na] at hA;simpa [pd,zd] using hA)
  cases hv';simp only [evSC,evC];rw [qj e2 (by simp [hr.na])]
  simp [pd,zd,<- hr.na]
 ·cases h1
theorem zki (hk:∀ i k,nth σ.ks i=some k->kOk k (at' ρ i)=true) (ht:tops ρ=0) {c:C} (h:zoI σ.ks c=true):locked (evC ρ pa c)=false:=by
 cases c with
 | k v=>simpa [zoI,evC] using h
 | v i cl =>
  have:=(xU (pa:=pa) hk ht (c:=.v i false) h).2.1;cases cl
  ·exact this
  ·simp only [evC];cases hv:at' ρ i<;>rfl
 | sl sz tl o=>cases o<;>first|rfl|cases h
 | lkd i=>cases h
 | _=>rfl
theorem zh3 (hk:∀ i k,nth σ.ks i=some k->kOk k (at' ρ i)=true) (ht:tops ρ=0):∀ {cs:List C},zj6 σ.ks cs=true->∀ v∈evCs ρ pa cs,locked v=false
 | [],_,v,hv=>by simp [evCs] at hv
 | c::cs,h,v,hv=>by
  simp only [zj6,zAC] at h;simp only [evCs,zAK] at hv;rcases hv with rfl|hv
  ·exact zki hk ht h.1
  ·exact zh3 hk ht h.2 v hv
theorem zkj {lks:List (Nat×Nat)} {a b:Nat} (hk:∀ i k,nth σ.ks i=some k->kOk k (at' ρ i)=true) (ht:tops ρ=0) :
  ∀ {n off:Nat} {cs:List C},zmJ lks σ.ks a off n cs=true->(∀ i c,nth cs i=some c->wK lks a (off+i)=true->locked (evC ρ pa c)=true->lk.any (fun p=>Nat.beq p.1 b && Nat.beq p.2 (off+i))=true)->kQ lk b off n (evCs ρ pa cs)=true
 | 0,_,cs,_,_=>by simp [kQ]
 | n+1,off,[],h,_=>by simp [zmJ] at h
 | n+1,off,c::cs,h,hl=>by
  simp only [zmJ,zAC,zAe] at h;simp only [evCs,kQ,zAC,zAe,zAn];refine ⟨?_,zkj hk ht h.2 fun i c' h1 h2 h3=>?_⟩
  ·cases hlc:locked (evC ρ pa c) with
   | false=>exact .inl rfl
   | true =>
    right
    rcases h.1 with h1|h1
    ·exact hl 0 c rfl h1 hlc
    ·rw [zki hk ht h1] at hlc;cases hlc
  ·have:=hl (i+1) c' h1 (by rw [show off+(i+1)=off+1+i by omega];exact h2) h3
   rw [show off+(i+1)=off+1+i by omega] at this
   exact this
theorem zfl {cs:List C} {n:Nat}:evCs ρ pa (cs.drop n)=(evCs ρ pa cs).drop n:=by simp only [zF,List.map_drop]
theorem xV {α:Type}:∀ {vs cs:List α} {off i:Nat} {c:α},(storeCells cs off vs)[i]?=some c->(off<=i/\i<off+vs.length/\c∈vs)\/(cs[i]?=some c)
 | [],cs,off,i,c,h=>.inr h
 | v::vs,cs,off,i,c,h=>by
  simp only [storeCells] at h;rcases xV h with ⟨h1,h2,h3⟩|h1
  ·exact .inl ⟨by omega,by simp;omega,zAE _ h3⟩
  ·rw [zAl] at h1;split at h1
   ·rename_i e;subst e;split at h1
    ·cases h1;exact .inl ⟨zAO _,by simp,zAL⟩
    ·cases h1
   ·exact .inr h1
theorem store_ok {tt:TypeId} {a x:Operand} (h:xOp P takes σ ⟨dst,.store tt a x,type,pos,after,guard⟩ k=some t) (hr:Rel n0 B ρ pa σ ⟨env,H,lk,df⟩) (hq:evT ph gl N t ρ=some r) :
  Step P gl ph N r n0 B k takes ⟨dst,.store tt a x,type,pos,after,guard⟩ σ ρ pa ⟨env,H,lk,df⟩:=by
 simp only [xOp] at h;split at h
 ·rename_i a' off ha;have hp:=zX hr.here ha;simp only [evC] at hp;obtain ⟨e',sc,env',v,h1,h2,h3,h4⟩:=zbB h hr;split at h1
  ·rename_i n cs ty hn hf;split at h1
   ·rename_i hc;simp only [zAC,zAe] at hc;obtain ⟨⟨⟨⟨⟨c0,c5⟩,c1⟩,c2⟩,c3⟩,c4⟩:=hc;have hgb:=h3.here.blks _ _ _ hf;have hN:=h3.bn _ _ hf;have hall:∀ ρ'' pa'',ρ <+: ρ''->pa <+: pa''->evCs ρ'' pa'' cs=evCs ρ pa cs:=fun ρ'' pa'' h1 h2=>by
     have:=(h3.ext ρ'' pa'' h1 h2).blks _ _ _ hf;rw [qj h2 (by rw [h3.na];exact hN),hgb] at this
     simpa using this.symm
    have hl:=zdg c1 h3.here.ks (h4 ρ pa (zAI _) (zAI _));have hl':∀ ρ'' pa'',ρ <+: ρ''->pa <+: pa''->evCs ρ'' pa'' (laidSC sc)=v.laid:=fun ρ'' pa'' e1 e2=>(zdg c1 (h3.ext ρ'' pa'' e1 e2).ks (h4 ρ'' pa'' e1 e2)).2.symm;have hlen:v.laid.length=n:=by rw [<- hl' ρ pa (zAI _) (zAI _),zJ];exact qJ c2
    have hmay:kQ lk (pd pa a') off n ((evCs ρ pa cs).drop off)=true:=by
     rw [<- zfl];refine zkj h3.here.ks h3.top c4 fun i c hi hlh hlc=>?_;refine h3.lk a' (off+i) hlh (evCs ρ pa cs) ty (evC ρ pa c) hgb ?_ hlc;rw [zd,zBQ] at hi;rw [zF,nth_map,zd,hi];rfl
    have hop:∀ cx:Cx,cx.P=P->cx.op takes ⟨dst,.store tt a x,type,pos,after,guard⟩ env H lk df=some (.skip,⟨env',(H.set (pd pa a') (.cells (storeCells (evCs ρ pa cs) off v.laid) ty)).edge (pd pa a') v,lk,df⟩):=by
     rintro cx rfl;rw [zhR hn (by intro b u k e;rw [hp] at e;cases e),hp,h2]
     simp only [zci,hgb,hl.1,hlen,zAu,zJ,c3,hmay,zBL,if_true]
    have htop:σ.nf<=a'\/v.top=0:=by
     rcases c0 with c0|c0
     ·exact .inl (zql c0)
     ·right
      have hd:=(ko (pa:=pa) h3.here.ks h3.top c0).1;rw [hl' ρ pa (zAI _) (zAI _)] at hd;have hev:=h4 ρ pa (zAI _) (zAI _);rw [<- hev] at hd ⊢;cases sc with
      | one c =>
       obtain ⟨_,_,h9⟩:=zdf (pa:=pa) h3.here.ks c1;rw [h9] at hd;simp only [laidSC,evCs,tops] at hd;simp only [evSC];omega
      | agg cs' =>
       simp only [evSC,V.laid] at hd;simp only [evSC,V.top];refine zbx fun w hw=>?_;have:=wx (zBG (f:=clr) hw) hd
       rwa [top_clr] at this
    have hw:=h3.write (lk':=lk) (lk2:=σ.lk) (v:=v) (cs:=storeCells cs off (laidSC sc)) (vs:=storeCells (evCs ρ pa cs) off v.laid) hf (fun ρ'' pa'' e1 e2=>by rw [zaJ,hall ρ'' pa'' e1 e2,hl' ρ'' pa'' e1 e2]) htop
     (fun b o hb=>h3.ln b o hb) (fun b o _ _ hb=>hb) (fun x hx=>hx) (fun o c hb hc hlk=>?_)
    ·exact ⟨_,_,ρ,pa,t,.skip,_,.tup [],h1,hq,zAI _,zAI _,hw,⟨0,fun n _=>hop _ rfl⟩,.inr ⟨rfl,rfl⟩,fun ρ'' pa'' e1 e2 v' hv'=>by cases hv';rfl,fun b hb A hA=>by
      simp only [qY,ha,zAA,Cls.wr.injEq] at hb;subst hb;simp only [zby]
      exact vD (fun e=>hA e.symm)⟩
    ·rw [zd] at hc;rcases xV hc with ⟨h5,h6,h7⟩|h5
     ·rw [<- hl' ρ pa (zAI _) (zAI _)] at h7;rw [zh3 h3.here.ks h3.top c5 c h7] at hlk;cases hlk
     ·exact h3.lk a' o hb (evCs ρ pa cs) ty c hgb (by rw [zd];exact h5) hlk
   ·cases h1
  ·cases h1
 ·cases h
end Go.Vm.Sx
namespace Go.Vm.Sx
set_option linter.unusedSectionVars false
open Go Go.Vm
variable {P:Program} {gl:Gl} {ph:PH} {N:Nat} {r:Nat×List V} {ρ ρ':List V} {pa pa':List Nat} {σ:Sg} {s:St} {n0:Nat} {B:List Blk} {env:List V} {H:Hp} {lk:List (Nat×Nat)} {df:List (V×List V)} {takes:List Tmp} {k:KT} {t:Tree}
variable [NoU gl]
variable {dst:Option Tmp} {type:TypeId} {pos:String} {after:Array Edge} {guard:Option (Nat×Bool)}
theorem xW {o:Oper} {sv:SV} (hk:k σ sv=some t) (hq:evT ph gl N t ρ=some r) (hr:Rel n0 B ρ pa σ ⟨env,H,lk,df⟩)
  (ho:∀ ρ'' pa'',ρ <+: ρ''->pa <+: pa''->∃ v,qp ρ'' pa'' sv=some v/\∀ n,Cx.op ⟨P,gl,zk P gl n,gl.uq⟩ takes o env H lk df=some (.val v,⟨env,H,lk,df⟩)) :
  Step P gl ph N r n0 B k takes o σ ρ pa ⟨env,H,lk,df⟩:=by
 obtain ⟨v,h1,h2⟩:=ho ρ pa (zAI _) (zAI _);refine zG hk hq (zAI _) hr (v:=v) h2 fun ρ'' pa'' e1 e2 v' hv'=>?_;obtain ⟨w,h3,h4⟩:=ho ρ'' pa'' e1 e2;have:=(h2 0).symm.trans (h4 0);simp only [zAA,zAD,OR.val.injEq] at this;rw [this.1];exact zAr (hv'.symm.trans h3)
theorem zqp {op:BinOp} {tt u:TypeId} {x y:Operand} (h:xOp P takes σ ⟨dst,.binOp op tt x y u,type,pos,after,guard⟩ k=some t) (hr:Rel n0 B ρ pa σ ⟨env,H,lk,df⟩) (hq:evT ph gl N t ρ=some r) (htk:zO takes dst=false) :
  Step P gl ph N r n0 B k takes ⟨dst,.binOp op tt x y u,type,pos,after,guard⟩ σ ρ pa ⟨env,H,lk,df⟩:=by
 have pure:∀ {t:Tree},wJ P σ (.binOp op tt x y u) k=some t->evT ph gl N t ρ=some r->Step P gl ph N r n0 B k takes ⟨dst,.binOp op tt x y u,type,pos,after,guard⟩ σ ρ pa ⟨env,H,lk,df⟩:=fun h hq=>yB (o:=⟨dst,.binOp op tt x y u,type,pos,after,guard⟩) h hr hq htk
 have qr:∀ (kd:IntKind) (a b:TI) (c:TB),(op=.quo\/op=.rem)->pkI σ x=some (kd,a)->pkI σ y=some (kd,b)->(∀ ρ:List V,evB ρ c=true->evI ρ b≠0)->wI c (k σ (.val (.one (.i kd (.bin op kd a b)))))=some t->Step P gl ph N r n0 B k takes ⟨dst,.binOp op tt x y u,type,pos,after,guard⟩ σ ρ pa ⟨env,H,lk,df⟩:=by
  intro kd a b c hop h1 h2 hc h;obtain ⟨t1,h3,h4,h5⟩:=jm h hq;have e0:=qz hr.here h2;have nz:=hc ρ h5;refine xW h3 h4 hr fun ρ'' pa'' e1 e2=>⟨_,rfl,fun n=>?_⟩;have e4:=qz (hr.ext ρ'' pa'' e1 e2) h1;have e5:=qz (hr.ext ρ'' pa'' e1 e2) h2;have nz':evI ρ'' b≠0:=by
   have:=e0.symm.trans e5;simp only [zAA,V.int.injEq,true_and] at this;rw [<- this];exact nz
  rw [yx,e4,e5];rcases hop with rfl|rfl<;>simp [zQ,zM,ja,ql,nz',evSC,evC,evI,biI,rdQ]
 have sh:∀ (kd kd':IntKind) (a b:TI) (c:TB),(op=.shl\/op=.shr)->pkI σ x=some (kd,a)->pkI σ y=some (kd',b)->(∀ ρ:List V,evB ρ c=true->0<=evI ρ b)->wI c (k σ (.val (.one (.i kd (.bin op kd a b)))))=some t->Step P gl ph N r n0 B k takes ⟨dst,.binOp op tt x y u,type,pos,after,guard⟩ σ ρ pa ⟨env,H,lk,df⟩:=by
  intro kd kd' a b c hop h1 h2 hc h;obtain ⟨t1,h3,h4,h5⟩:=jm h hq;have e0:=qz hr.here h2;have nz:=hc ρ h5;refine xW h3 h4 hr fun ρ'' pa'' e1 e2=>⟨_,rfl,fun n=>?_⟩;have e4:=qz (hr.ext ρ'' pa'' e1 e2) h1;have e5:=qz (hr.ext ρ'' pa'' e1 e2) h2;have nz':¬ evI ρ'' b<0:=by
   have:=e0.symm.trans e5;simp only [zAA,V.int.injEq,true_and] at this;rw [<- this];omega
  rw [yx,e4,e5];rcases hop with rfl|rfl<;>simp [zQ,zM,ja,zb2,nz',evSC,evC,evI,biI,rdQ]
 cases op<;>simp only [xOp] at h
 case quo =>
  split at h
  ·rename_i kd a kd' b h1 h2;split at h
   ·rename_i hk;subst hk;refine qr _ _ _ _ (.inl rfl) h1 h2 (fun ρ hb=>?_) h;split at hb
    ·simp only [evI];intro h;exact absurd (Int.ofNat.inj h) (Nat.succ_ne_zero _)
    ·simp only [evB,cmI,evI,zAn,beq_eq_false_iff_ne] at hb;exact hb
   ·cases h
  ·cases h
 case rem =>
  split at h
  ·rename_i kd a kd' b h1 h2;split at h
   ·rename_i hk;subst hk;refine qr _ _ _ _ (.inr rfl) h1 h2 (fun ρ hb=>?_) h;split at hb
    ·simp only [evI];intro h;exact absurd (Int.ofNat.inj h) (Nat.succ_ne_zero _)
    ·simp only [evB,cmI,evI,zAn,beq_eq_false_iff_ne] at hb;exact hb
   ·cases h
  ·cases h
 case shl =>
  split at h
  ·rename_i kd a kd' b h1 h2;refine sh _ _ _ _ _ (.inl rfl) h1 h2 (fun ρ hb=>?_) h;split at hb
   ·exact Int.natCast_nonneg _
   ·exact of_decide_eq_true hb
  ·cases h
 case shr =>
  split at h
  ·rename_i kd a kd' b h1 h2;refine sh _ _ _ _ _ (.inr rfl) h1 h2 (fun ρ hb=>?_) h;split at hb
   ·exact Int.natCast_nonneg _
   ·exact of_decide_eq_true hb
  ·cases h
 case add =>
  split at h
  ·rename_i a b h1 h2;obtain ⟨t1,h3,h4,h5⟩:=jm h hq;have f1:=zcn hr.here h1;have f2:=zcn hr.here h2;simp only [evB] at h5;refine xW h3 h4 hr fun ρ'' pa'' e1 e2=>⟨_,rfl,fun n=>?_⟩;have e4:=zcn (hr.ext ρ'' pa'' e1 e2) h1;have e5:=zcn (hr.ext ρ'' pa'' e1 e2) h2;have g1:evS ρ'' a=evS ρ a:=by have:=f1.symm.trans e4;simpa using this.symm
   have g2:evS ρ'' b=evS ρ b:=by have:=f2.symm.trans e5;simpa using this.symm
   have:=zql h5;rw [yx,e4,e5];simp [zQ,zM,ja,zb3,evSC,evC,evS,g1,g2,this,rdQ]
  ·exact pure h hq
 all_goals exact pure h hq
theorem zoS {a b:TypeId} {x:Operand} (h:xOp P takes σ ⟨dst,.convert a b x,type,pos,after,guard⟩ k=some t) (hr:Rel n0 B ρ pa σ ⟨env,H,lk,df⟩) (hq:evT ph gl N t ρ=some r) (htk:zO takes dst=false) :
  Step P gl ph N r n0 B k takes ⟨dst,.convert a b x,type,pos,after,guard⟩ σ ρ pa ⟨env,H,lk,df⟩:=by
 simp only [xOp] at h;split at h
 ·rename_i e c h1 h2 hc;split at h
  ·rename_i l h3 hl;have hop:∀ (ρ'':List V) (pa'':List Nat) (s:List Nat),ρ <+: ρ''->pa <+: pa''->bytesA (evL ρ'' l)=some s->∀ n,Cx.op ⟨P,gl,zk P gl n,gl.uq⟩ takes ⟨dst,.convert a b x,type,pos,after,guard⟩ env H lk df=some (.val (.str s),⟨env,H,lk,df⟩):=by
    intro ρ'' pa'' s e1 e2 hb n;have hp:=hr.ext ρ'' pa'' e1 e2;have hmk:=zoA (P:=P) (env:=env) (x:=x) (a:=a) (b:=b) (by rw [h1,h2];simp)
    rcases xQ (pa:=pa'') hp.ks hl with ⟨e3,e4⟩|⟨o,e3⟩
    ·rw [e4] at hb;cases hb;rw [vw ((zX hp hc).trans (congrArg some e3)) (by simp) hmk]
     simp only [jx,h1,h2,h3,Option.bind_eq_bind,zAT];rfl
    ·rw [vw ((zX hp hc).trans (congrArg some e3)) (by simp) hmk]
     simp only [jx,h1,h2,h3,Option.bind_eq_bind,zAT,hb,zAa];rfl
   split at h
   ·rename_i hn;refine xW h hq hr fun ρ'' pa'' e1 e2=>⟨_,rfl,hop ρ'' pa'' [] e1 e2 ?_⟩;rw [xO ρ'' hn];rfl
   ·split at h
    ·rename_i t1 ht;cases h;simp only [evT] at hq;split at hq
     ·rename_i s hs;have hr2:=hr.push1 (v:=.str s) (ck:=.str) rfl rfl;refine zG ht hq (zAq _ _) hr2 (v:=.str s) (hop ρ pa s (zAI _) (zAI _) hs) fun ρ'' pa'' e1 e2 v' hv'=>?_;cases hv';simp only [evSC,evC,evS];rw [wy e1 hr.kl.symm];rfl
     ·cases hq
    ·cases h
  ·cases h
 ·exact yB (o:=⟨dst,.convert a b x,type,pos,after,guard⟩) h hr hq htk
theorem zoT {e:TypeId} {l:TL} {i:TI} {k:Sg->SC->Option Tree} (h:zmL P σ e l i k=some t) (hr:Rel n0 B ρ pa σ s) (hq:evT ph gl N t ρ=some r) :
  ∃ ks' sc ρ' t' v,nth (evL ρ l) (evI ρ i).toNat=some v/\0<=evI ρ i/\k { σ with ks:=ks' } sc=some t'/\evT ph gl N t' ρ'=some r/\ρ <+: ρ'/\Rel n0 B ρ' pa { σ with ks:=ks' } s/\(∀ ρ'' pa'',ρ' <+: ρ''->evSC ρ'' pa'' sc=v)/\(∀ ρ'' pa'',ρ' <+: ρ''->evCs ρ'' pa'' (cellsSC sc)=v.cells):=by
 unfold zmL at h;split at h
 ·rename_i t1 ht;cases h;simp only [evT] at hq;split at hq
  ·cases hq
  ·rename_i hi;split at hq
   ·rename_i v hv;have htop:v.top=0:=wx (by rw [zd] at hv;exact zAb hv) (vX hr.top l)
    have hr2:=hr.push1 (v:=v) (ck:=.raw) rfl htop;obtain ⟨ks',sc,ρ',t',h1,h2,h3,h4,h5,h6⟩:=zar ht hr2 (by simp) hq
    have hat:at' (ρ++[v]) σ.ks.length=v:=by rw [<- hr.kl];exact yA
    exact ⟨ks',sc,ρ',t',v,hv,by omega,h1,h2,zcr h3,h4,fun ρ'' pa'' e=>by rw [h5 ρ'' pa'' e,hat],fun ρ'' pa'' e=>by rw [h6 ρ'' pa'' e,hat]⟩
   ·cases hq
 ·cases h
theorem zqq {e:TypeId} {cs:List C} {i:TI} {k:Sg->SC->Option Tree} (h:zqj P σ e cs i k=some t) (hd:kY σ.ks cs=true) (hr:Rel n0 B ρ pa σ s) (hq:evT ph gl N t ρ=some r) :
  ∃ ks' sc ρ' t' v,nth (evCs ρ pa cs) (evI ρ i).toNat=some v/\0<=evI ρ i/\k { σ with ks:=ks' } sc=some t'/\evT ph gl N t' ρ'=some r/\ρ <+: ρ'/\Rel n0 B ρ' pa { σ with ks:=ks' } s/\(∀ ρ'' pa'',ρ' <+: ρ''->evSC ρ'' pa'' sc=v)/\(∀ ρ'' pa'',ρ' <+: ρ''->evCs ρ'' pa'' (cellsSC sc)=v.cells)/\locked v=false:=by
 obtain ⟨d1,d2,d3⟩:=ko (pa:=pa) hr.here.ks hr.top hd;unfold zqj at h;split at h
 ·rename_i t1 ht;cases h;simp only [evT] at hq;split at hq
  ·cases hq
  ·rename_i hi;split at hq
   ·rename_i v hv;rw [d3 []] at hv;have hm:v∈evCs ρ pa cs:=by rw [zd] at hv;exact zAb hv
    have hr2:=hr.push1 (v:=v) (ck:=.raw) rfl (wx hm d1);obtain ⟨ks',sc,ρ',t',h1,h2,h3,h4,h5,h6⟩:=zar ht hr2 (by simp) hq
    have hat:at' (ρ++[v]) σ.ks.length=v:=by rw [<- hr.kl];exact yA
    exact ⟨ks',sc,ρ',t',v,hv,by omega,h1,h2,zcr h3,h4,fun ρ'' pa'' e=>by rw [h5 ρ'' pa'' e,hat],fun ρ'' pa'' e=>by rw [h6 ρ'' pa'' e,hat],d2 v hm⟩
   ·cases hq
 ·cases h
theorem zdh {i:TI} {f:Nat->SV} {m:Int} {k:KT}:∀ {c j:Nat} {σ:Sg} {t:Tree},zli i f k σ j c=some t->Rel n0 B ρ pa σ s->evT ph gl N t ρ=some r->(∀ ρ'' pa'',ρ <+: ρ''->pa <+: pa''->evI ρ'' i=m) ->
  ∃ j' as' t',j<=j'/\j'<j+c/\m=(j':Int)/\k { σ with as:=as' } (f j')=some t'/\evT ph gl N t' ρ=some r/\Rel n0 B ρ pa { σ with as:=as' } s
 | 0,j,σ,t,h,hr,hq,hm=>by
  cases h;simp [evT,evB] at hq
 | c+1,j,σ,t,h,hr,hq,hm=>by
  simp only [zli] at h;have hst:∀ ρ'' pa'',ρ <+: ρ''->pa <+: pa''->evB ρ'' (.cmp .eql i (.lit (.ofNat j)))=(m == (j:Int)):=fun ρ'' pa'' e1 e2=>by
   simp only [evB,cmI,hm ρ'' pa'' e1 e2,evI];rfl
  have h0:=hst ρ pa (zAI _) (zAI _);split at h
  ·rename_i hk;have:=qW hr.here.as hk;rw [h0] at this;exact ⟨j,σ.as,t,zAO _,by omega,eq_of_beq this,h,hq,hr⟩
  ·rename_i hk;obtain ⟨j',as',t',h1,h2,h3⟩:=zdh h hr hq hm;exact ⟨j',as',t',by omega,by omega,h3⟩
  ·obtain ⟨ta,tb,h1,h2,h3⟩:=zbC h hq;rcases h3 with ⟨h3,h4⟩|⟨h3,h4⟩
   ·rw [h0] at h3;exact ⟨j,_,ta,zAO _,by omega,eq_of_beq h3,h1,h4,hr.cond fun ρ'' pa'' e1 e2=>by rw [hst ρ'' pa'' e1 e2];exact h3⟩
   ·rw [h0] at h3;have hr2:=hr.cond (c:=mkNot (.cmp .eql i (.lit (.ofNat j)))) fun ρ'' pa'' e1 e2=>by rw [qK,hst ρ'' pa'' e1 e2,h3];rfl
    obtain ⟨j',as',t',g1,g2,g3⟩:=zdh h2 hr2 h4 hm;exact ⟨j',as',t',by omega,by omega,g3⟩
theorem zm3 {tt:TypeId} {x ix:Operand} (h:xOp P takes σ ⟨dst,.indexAddr tt x ix,type,pos,after,guard⟩ k=some t) (hr:Rel n0 B ρ pa σ ⟨env,H,lk,df⟩) (hq:evT ph gl N t ρ=some r) (htk:zO takes dst=false) :
  Step P gl ph N r n0 B k takes ⟨dst,.indexAddr tt x ix,type,pos,after,guard⟩ σ ρ pa ⟨env,H,lk,df⟩:=by
 simp only [xOp] at h;split at h
 ·rename_i e kd i hu hi;have ei:=qz hr.here hi;split at h
  ·rename_i n c hn hc;split at h
   ·rename_i l hl;obtain ⟨ks',sc,ρ',t',v,g1,g2,g3,g4,g5,g6,g7,g8⟩:=zoT h hr hq;refine zG g3 g4 g5 g6 (v:=.vp v.cells) (fun nn=>?_) fun ρ'' pa'' e1 e2 v' hv'=>by cases hv';rw [g8 ρ'' pa'' e1]
    rw [jd,zX hr.here hc,ei];simp only [idxV];rcases xQ (pa:=pa) hr.here.ks hl with ⟨_,e4⟩|⟨o,e3⟩
    ·rw [e4] at g1;simp [nth] at g1
    ·have hlt:¬ evI ρ i<0:=by omega
     rw [e3];simp [zr,hu,hn,g1,hlt,rdQ]
   ·cases h
  ·cases h
 ·rename_i len e kd i hu hi;have ei:=qz hr.here hi;have hm:∀ ρ'' pa'',ρ <+: ρ''->pa <+: pa''->evI ρ'' i=evI ρ i:=fun ρ'' pa'' e1 e2=>by
   have:=(qz (hr.ext ρ'' pa'' e1 e2) hi).symm.trans ei;simpa using this
  split at h
  ·rename_i v hv;exact yB (o:=⟨dst,.indexAddr tt x ix,type,pos,after,guard⟩) (by simp only [wJ,hv];exact h) hr hq htk
  ·split at h
   ·rename_i n cs hn hx;split at h
    ·obtain ⟨j,as',t',h1,h2,h3,h4,h5,h6⟩:=zdh h hr hq hm;have hst:∀ ρ'' pa'',ρ <+: ρ''->pa <+: pa''->peek env x=some (.vp (evCs ρ'' pa'' cs)):=fun ρ'' pa'' e1 e2=>by
      obtain ⟨w,hw1,hw2⟩:=kj (hr.ext ρ'' pa'' e1 e2) hx;cases hw2;exact hw1
     refine zG h4 h5 (zAI _) h6 (v:=.vp ((evCs ρ pa cs).drop (j * n))) (fun nn=>?_) fun ρ'' pa'' e1 e2 v' hv'=>?_
     ·rw [jd,hst ρ pa (zAI _) (zAI _),ei,h3];simp [idxV,zr,hu,hn,show j<len by omega,rdQ]
     ·cases hv';rw [zfl];have:=(hst ρ'' pa'' e1 e2).symm.trans (hst ρ pa (zAI _) (zAI _));simp only [zAA,V.vp.injEq] at this;rw [this]
    ·cases h
   ·rename_i n a off hn hx;split at h
    ·obtain ⟨j,as',t',h1,h2,h3,h4,h5,h6⟩:=zdh h hr hq hm;have hst:∀ ρ'' pa'',ρ <+: ρ''->pa <+: pa''->peek env x=some (.ptr (pd pa'' a) off):=fun ρ'' pa'' e1 e2=>jD (hr.ext ρ'' pa'' e1 e2) hx;refine zG h4 h5 (zAI _) h6 (v:=.ptr (pd pa a) (off+j * n)) (fun nn=>?_) fun ρ'' pa'' e1 e2 v' hv'=>?_
     ·rw [jd,hst ρ pa (zAI _) (zAI _),ei,h3];simp [idxV,zr,hu,hn,show j<len by omega,rdQ]
     ·cases hv';simp only [evSC,evC];have:=(hst ρ'' pa'' e1 e2).symm.trans (hst ρ pa (zAI _) (zAI _));simp only [zAA,V.ptr.injEq,zBn] at this;rw [this]
    ·cases h
   ·cases h
 ·cases h
theorem zm4 {tt:TypeId} {x ix:Operand} (h:xOp P takes σ ⟨dst,.index tt x ix,type,pos,after,guard⟩ k=some t) (hr:Rel n0 B ρ pa σ ⟨env,H,lk,df⟩) (hq:evT ph gl N t ρ=some r) (htk:zO takes dst=false) :
  Step P gl ph N r n0 B k takes ⟨dst,.index tt x ix,type,pos,after,guard⟩ σ ρ pa ⟨env,H,lk,df⟩:=by
 simp only [xOp] at h;split at h
 ·rename_i kd i hu hi;split at h
  ·rename_i s' hs;obtain ⟨t1,h1,h2,h3⟩:=jm h hq;have ei:=qz hr.here hi;have es:=zcn hr.here hs;simp only [evB,zAC] at h3;have h31:evI ρ i ≥ 0:=of_decide_eq_true h3.1;have h32:evI ρ i<((evS ρ s').length:Int):=of_decide_eq_true h3.2;refine xW h1 h2 hr fun ρ'' pa'' e1 e2=>⟨_,rfl,fun nn=>?_⟩;have fi:=qz (hr.ext ρ'' pa'' e1 e2) hi;have fs:=zcn (hr.ext ρ'' pa'' e1 e2) hs
   have gi:evI ρ'' i=evI ρ i:=by have:=fi.symm.trans ei;simpa using this
   have gs:evS ρ'' s'=evS ρ s':=by have:=fs.symm.trans es;simpa using this
   rw [zbr,fs,fi];have hlt:¬ evI ρ i<0:=by omega
   have hlt2:(evI ρ i).toNat<(evS ρ s').length:=by omega
   simp only [idxV,xq,hu,evSC,evC,evI,zmE,gi,gs,hlt,if_false];have:nth (evS ρ s') (evI ρ i).toNat=some ((evS ρ s')[(evI ρ i).toNat]'hlt2):=by rw [zd];simp [hlt2]
   simp only [this,rdQ]
  ·cases h
 ·rename_i len e kd i hu hi;have ei:=qz hr.here hi;split at h
  ·rename_i v hv;exact yB (o:=⟨dst,.index tt x ix,type,pos,after,guard⟩) (by simp only [wJ,hv];exact h) hr hq htk
  ·split at h
   ·rename_i cs hn hag hx;split at h
    ·rename_i hc;simp only [zAC] at hc;obtain ⟨ks',sc,ρ',t',v,g1,g2,g3,g4,g5,g6,g7,g8,g9⟩:=zqq h hc.2 hr hq;rw [zF,nth_map,zd,zA4] at g1;split at g1
     ·rename_i hlt;refine zG g3 g4 g5 g6 (v:=clr v) (fun nn=>?_) fun ρ'' pa'' e1 e2 v' hv'=>by cases hv';rw [jC,g7 ρ'' pa'' e1]
      rw [zbr,jD hr.here hx,ei];have h0:0<=evI ρ i/\evI ρ i<(len:Int):=⟨g2,by omega⟩
      have h1:qq P e (evCs ρ pa cs) ((evI ρ i).toNat * 1)=some v:=by
       rw [jj,hag,zgp,zF,nth_map,zBz,zd,g1]
      simp only [idxV,xq,hu,hn,evSC,h0,and_self,if_true,h1,zAa,rdQ]
     ·simp at g1
    ·cases h
   ·cases h
 ·cases h
theorem zgA {x:Option Operand} {d tt:TI} {c:Nat} (hp:PRel ρ pa σ env H) (h:zeV σ x d=some tt) (hd:evI ρ d=(c:Int)):∃ v,peekO env x=some v/\(0<=evI ρ tt->z8 v c=some (evI ρ tt).toNat):=by
 cases x with
 | none=>cases h;exact ⟨none,rfl,fun _=>by simp [z8,hd]⟩
 | some x =>
  simp only [zeV] at h;split at h
  ·rename_i k' t' hi;cases h;exact ⟨some (.int k' (evI ρ tt)),by simp only [peekO,qz hp hi],fun h0=>by simp [z8,h0]⟩
  ·cases h
theorem zd2 {tt:TypeId} {x:Operand} {lo hi:Option Operand} {cx:Cx} (hf:yI takes x lo hi=false) (hu:uqT cx.P cx.uq tt=false):cx.op takes ⟨dst,.slice tt x lo hi none,type,pos,after,guard⟩ env H lk df=rdQ env H lk df ((peekO env lo).bind fun l=>(peekO env hi).bind fun h=>(peek env x).bind fun v=>kU cx.P tt v l h):=by
 simp only [Cx.op,hf,hu];refine jK ?_;simp only [zD,Option.bind_eq_bind]
theorem zm5 {tt:TypeId} {x:Operand} {lo hi mx:Option Operand} (h:xOp P takes σ ⟨dst,.slice tt x lo hi mx,type,pos,after,guard⟩ k=some t) (hr:Rel n0 B ρ pa σ ⟨env,H,lk,df⟩) (hq:evT ph gl N t ρ=some r) :
  Step P gl ph N r n0 B k takes ⟨dst,.slice tt x lo hi mx,type,pos,after,guard⟩ σ ρ pa ⟨env,H,lk,df⟩:=by
 simp only [xOp] at h;split at h
 ·cases h
 ·rename_i hmx;simp only [zAe,not_or,Bool.not_eq_true] at hmx;obtain ⟨hmx,hfr⟩:=hmx;obtain rfl:mx=none:=by cases mx<;>simp_all
  split at h
  ·rename_i c hu hc;split at h
   ·rename_i s' hs;split at h
    ·rename_i l hh hl hhh;obtain ⟨t1,h1,h2,h3⟩:=jm h hq;rw [vC] at h3;simp only [evB,zAC] at h3;have a1:evI ρ (.lit 0)<=evI ρ l:=of_decide_eq_true h3.1;have a2:evI ρ l<=evI ρ hh:=of_decide_eq_true h3.2.1;have a3:evI ρ hh<=evI ρ (.slen s'):=of_decide_eq_true h3.2.2;simp only [evI] at a1 a3;obtain ⟨vl,l1,l2⟩:=zgA (c:=0) hr.here hl rfl;obtain ⟨vh,m1,m2⟩:=zgA (c:=(evS ρ s').length) hr.here hhh rfl
     have e0:peek env x=some (.str (evS ρ s')):=by rw [zX hr.here hc,kC (pa:=pa) hr.here.ks hs]
     have hop:∀ n,Cx.op ⟨P,gl,zk P gl n,gl.uq⟩ takes ⟨dst,.slice tt x lo hi none,type,pos,after,guard⟩ env H lk df=some (.val (.str (((evS ρ s').take (evI ρ hh).toNat).drop (evI ρ l).toNat)),⟨env,H,lk,df⟩):=fun n=>by
      rw [zd2 hfr (zcP (NoU.out (gl:=gl)) _),l1,m1,e0];have b1:(evI ρ l).toNat<=(evI ρ hh).toNat:=by omega
      have b2:(evI ρ hh).toNat<=(evS ρ s').length:=by omega
      simp only [zAT,kU,hu,Option.bind_eq_bind,m2 (by omega),l2 a1,b1,b2,and_self,if_true,rdQ]
     refine zG h1 h2 (zAI _) hr hop fun ρ'' pa'' e1 e2 v' hv'=>?_;cases hv';have f0:peek env x=some (.str (evS ρ'' s')):=by rw [zX (hr.ext ρ'' pa'' e1 e2) hc,kC (pa:=pa'') (hr.ext ρ'' pa'' e1 e2).ks hs]
     have gs:evS ρ'' s'=evS ρ s':=by have:=f0.symm.trans e0;simpa using this
     have gb:∀ (y:Option Operand) (d tt:TI),zeV σ y d=some tt->evI ρ'' d=evI ρ d->evI ρ'' tt=evI ρ tt:=by
      intro y d tt hy hd;cases y with
      | none=>cases hy;exact hd
      | some y =>
       simp only [zeV] at hy;split at hy
       ·rename_i k' t' hi;cases hy;have:=(qz (hr.ext ρ'' pa'' e1 e2) hi).symm.trans (qz hr.here hi);simpa using this
       ·cases hy
     simp only [evSC,evC,evS,gs,gb _ _ _ hl rfl,gb _ _ _ hhh (by simp only [evI,gs])]
    ·cases h
   ·cases h
  ·rename_i e c hu hc;split at h
   ·rename_i n hn;split at h
    ·rename_i xs hxs;split at h
     ·rename_i l hh hl hhh;obtain ⟨t1,h1,h2,h3⟩:=jm h hq;rw [vC] at h3;simp only [evB,zAC] at h3;have a1:evI ρ (.lit 0)<=evI ρ l:=of_decide_eq_true h3.1;have a2:evI ρ l<=evI ρ hh:=of_decide_eq_true h3.2.1;have a3:evI ρ hh<=evI ρ (.len xs):=of_decide_eq_true h3.2.2;simp only [evI] at a1 a3;obtain ⟨vl,l1,l2⟩:=zgA (c:=0) hr.here hl rfl;obtain ⟨vh,m1,m2⟩:=zgA (c:=(evL ρ xs).length) hr.here hhh rfl
      have b1:(evI ρ l).toNat<=(evI ρ hh).toNat:=by omega
      have b2:(evI ρ hh).toNat<=(evL ρ xs).length:=by omega
      have e0:=zX hr.here hc;have hopN:evC ρ pa c=.snil->evL ρ xs=[]->∀ n,Cx.op ⟨P,gl,zk P gl n,gl.uq⟩ takes ⟨dst,.slice tt x lo hi none,type,pos,after,guard⟩ env H lk df=some (.val .snil,⟨env,H,lk,df⟩):=fun hv hx0 n=>by
       rw [hx0] at b2 m2;rw [zd2 hfr (zcP (NoU.out (gl:=gl)) _),l1,m1,e0,hv];have c1:(evI ρ hh).toNat=0:=by simpa using b2
       have c2:(evI ρ l).toNat=0:=by omega
       have m3:=m2 (by omega)
       simp only [List.length_nil] at m3;simp only [zAT,kU,hu,Option.bind_eq_bind,m3,l2 a1,hn,c1,c2,and_self,if_true,rdQ]
      have hopS:∀ o,evC ρ pa c=.sl n (evL ρ xs) o->∀ n',Cx.op ⟨P,gl,zk P gl n',gl.uq⟩ takes ⟨dst,.slice tt x lo hi none,type,pos,after,guard⟩ env H lk df=some (.val (.sl n (((evL ρ xs).take (evI ρ hh).toNat).drop (evI ρ l).toNat) .no),⟨env,H,lk,df⟩):=fun o hv n'=>by
       rw [zd2 hfr (zcP (NoU.out (gl:=gl)) _),l1,m1,e0,hv];simp only [zAT,kU,hu,Option.bind_eq_bind,m2 (by omega),l2 a1,hn,b1,b2,and_self,if_true,rdQ]
      have gb:∀ (ρ'':List V) (pa'':List Nat),ρ <+: ρ''->pa <+: pa''->∀ (y:Option Operand) (d tt:TI),zeV σ y d=some tt->evI ρ'' d=evI ρ d->evI ρ'' tt=evI ρ tt:=by
       intro ρ'' pa'' e1 e2 y d tt hy hd;cases y with
       | none=>cases hy;exact hd
       | some y =>
        simp only [zeV] at hy;split at hy
        ·rename_i k' t' hi;cases hy;have:=(qz (hr.ext ρ'' pa'' e1 e2) hi).symm.trans (qz hr.here hi);simpa using this
        ·cases hy
      split at h1
      ·rename_i sz tl o;rcases xQ (pa:=pa) hr.here.ks hxs with ⟨e3,_⟩|⟨o',e3⟩
       ·cases e3
       ·have e3':=e3;simp only [evC,V.sl.injEq] at e3';obtain ⟨rfl,e4,rfl⟩:=e3';refine zG h1 h2 (zAI _) hr (hopS _ e3) fun ρ'' pa'' e1 e2 v' hv'=>?_;cases hv';have hp'':=hr.ext ρ'' pa'' e1 e2;have gl':evL ρ'' xs=evL ρ xs:=by
         have f0:=(zX hp'' hc).symm.trans e0;rcases xQ (pa:=pa'') hp''.ks hxs with ⟨f3,_⟩|⟨o'',f3⟩
         ·cases f3
         ·rw [f3,e3] at f0;simp only [zAA,V.sl.injEq] at f0;exact f0.2.1
        simp only [evSC,evC,evL,gl',gb ρ'' pa'' e1 e2 _ _ _ hl rfl,gb ρ'' pa'' e1 e2 _ _ _ hhh (by simp only [evI,gl'])]
      ·rename_i i cl;obtain ⟨t2,g1,g2⟩:=zbz h1 h2;have hv:(evC ρ pa (.v i cl)=.snil/\evL ρ xs=[]/\zqf (at' ρ i) (evI ρ l) (evI ρ hh)=.snil)\/(∃ o,evC ρ pa (.v i cl)=.sl n (evL ρ xs) o/\zqf (at' ρ i) (evI ρ l) (evI ρ hh)=.sl n (((evL ρ xs).take (evI ρ hh).toNat).drop (evI ρ l).toNat) .no):=by
        have hl':=xQ (pa:=pa) hr.here.ks hxs;rcases hl' with ⟨f1,f2⟩|⟨o,f1⟩
        ·refine .inl ⟨f1,f2,?_⟩;cases cl
         ·simp only [evC] at f1;rw [f1];rfl
         ·simp only [evC] at f1;cases hat:at' ρ i<;>rw [hat] at f1<;>simp only [clr,reduceCtorEq] at f1;rfl
        ·refine .inr ⟨o,f1,?_⟩;cases cl
         ·simp only [evC] at f1;rw [f1];rfl
         ·simp only [evC] at f1;cases hat:at' ρ i<;>rw [hat] at f1<;>simp only [clr,reduceCtorEq,V.sl.injEq] at f1;obtain ⟨rfl,rfl,rfl⟩:=f1;rfl
       rcases hv with ⟨f1,f2,f3⟩|⟨o,f1,f3⟩
       ·simp only [evVE,f3] at g2;exact zG g1 g2 (zAq _ _) (hr.push1 (v:=.snil) (ck:=.sl n) rfl rfl) (hopN f1 f2) fun ρ'' pa'' e1 e2 v' hv'=>by cases hv';simp only [evSC,evC];exact wy e1 hr.kl.symm
       ·simp only [evVE,f3] at g2;exact zG g1 g2 (zAq _ _) (hr.push1 (v:=.sl n (((evL ρ xs).take (evI ρ hh).toNat).drop (evI ρ l).toNat) .no) (ck:=.sl n) (by simp [kOk,locked]) (tops_drop (tops_take (vX hr.top xs) _) _)) (hopS o f1) fun ρ'' pa'' e1 e2 v' hv'=>by cases hv';simp only [evSC,evC];exact wy e1 hr.kl.symm
      ·rcases xQ (pa:=pa) hr.here.ks hxs with ⟨e3,e4⟩|⟨o',e3⟩
       ·exact zG h1 h2 (zAI _) hr (hopN e3 e4) fun ρ'' pa'' e1 e2 v' hv'=>by cases hv';rfl
       ·cases e3
      ·cases h1
     ·cases h
    ·cases h
   ·cases h
  ·cases h
end Go.Vm.Sx
