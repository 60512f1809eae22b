/- Vm: maps, texts gone through, rows of zeros. Conditions: none but those named. -/
import Derived.Laws.MakeOwn
import Derived.Scope
import Derived.LoopN
import Derived.Recover
import Derived.RangeFuncOwn
import Derived.RangeFuncLeaves
import Derived.RangeFuncRecord
import Derived.Test.YthohlnmcjkjeiaaGreatDoorVmA
set_option linter.defProp false
namespace Go.Vm
open Go
section
variable{P:aM}{B:eu}{g:Gh}{s:St}{a:Act}{w:aK}
def ziI{_kd:TypeDesc}{k x:V}{ck cx:aS}(h:N5 k x=some true)(h1:aQ g k ck)(h2:aQ g x cx)(n:Nat):Instr.sameBits n cx ck=true:=by
 unfold N5 at h;split at h
 ·split at h<;>simp only[aR,reduceCtorEq] at h;rename_i e;subst e;cases h1;cases h2;have:=beq_iff_eq.1 h;subst this;simp[Instr.sameBits]
 ·simp only[aR] at h;cases h1 with
  | str b1=>cases h2 with
   | str b2 =>
    have:=pE _ _ b1 b2;rw[h] at this;simp only[Instr.sameBits,beq_toListBytes,vO];rw[beq_iff_eq] at this ⊢;exact this.symm
 ·simp only[aR] at h;cases h1;cases h2;have:=beq_iff_eq.1 h;subst this;simp[Instr.sameBits]
 ·cases h
def zlo{kd:TypeDesc}{k x:V}{ck cx:aS}(hk:Fe kd k=true)(h1:aQ g k ck)(h2:aQ g x cx):∀{es ux:List (V×V)}{en:List MapEntry}(i:Nat),nM g es en->N7 k x es=some ux ->
  (Instr.findNow kd ck en i=some none/\ux=es++[(k,x)]) \/
  ∃j e cv,Instr.findNow kd ck en i=some (some (i+j,cv))/\en[j]?=some e/\Instr.sameBits 10000 e.key ck=true/\ux=es.set j (k,x)/\j<es.length
 | [],_,[],i,_,h=>by simp only[N7,aR] at h;subst h;exact .inl ⟨rfl,rfl⟩
 | [],_,_::_,i,hr,h=>by have:=hr.len;simp at this
 | _::_,_,[],i,hr,h=>by have:=hr.len;simp at this
 | (y,v)::es,ux,e::en,i,hr,h=>by
  obtain⟨ht,hy,hv⟩:=hr.tail;simp only[N7] at h;split at h
  next Cn=>simp only[aR] at h;subst h;exact .inr ⟨0,e,e.val,by simp[Instr.findNow,xe hk Cn h1 hy],rfl,ziI (_kd:=kd) Cn h1 hy _,rfl,by simp⟩
  ·rename_i Cn;simp only[l8] at h;obtain⟨r,Uf,rfl⟩:=h;rcases zlo hk h1 h2 (i+1) ht Uf with⟨h3,h4⟩|⟨j,e',cv,h3,h4,h5,h6,h7⟩
   ·exact .inl ⟨by simp[Instr.findNow,xe hk Cn h1 hy,h3],by simp[h4]⟩
   ·refine .inr ⟨j+1,e',cv,?_,by simpa using h4,h5,by simp[h6],by simp;omega⟩
    simp only[Instr.findNow,xe hk Cn h1 hy,h3];rw[show i+1+j=i+(j+1) by omega]
  ·cases h
def zd8{w:aK}{r:Nat}{o:Obj}{c:Nat}(h:c≠r):({ w with heap:=w.heap.setIfInBounds r o }:aK).heap[c]?=w.heap[c]?:=by
 simp[Ne.symm h]
def zai{w:aK}{r:Nat}{o o':Obj}(h:w.heap[r]?=some o'):({ w with heap:=w.heap.setIfInBounds r o }:aK).heap[r]?=some o:=by
 have:=(sQ.1 h).1;simp[this]
def nM.push{es:List (V×V)}{en:List MapEntry}(h:nM g es en){x:V×V}{e:MapEntry}(h1:aQ g x.1 e.key)(h2:aQ g x.2 e.val):nM g (es++[x]) (en++[e]):=by
 refine⟨by simp[h.len],λj y f hy hf=>?_⟩
 rcases lP j es.length with hj|hj
 ·rw[mz hj] at hy;rw[mz (by rw[<- h.len];exact hj)] at hf
  exact h.rel j y f hy hf
 ·rw[oe hj] at hy;rw[oe (by rw[<- h.len];exact hj),<- h.len] at hf
  cases hk:j - es.length with
  | zero=>rw[hk] at hy hf;simp at hy hf;subst hy;subst hf;exact⟨h1,h2⟩
  | succ k=>rw[hk] at hy;simp at hy
def zcN(h:Rel B g s a w){t:aq}{m k x:aO}{b:Nat}{kv v:V}{es ux:List (V×V)}(hm:aB s.env m=some (.map b))(hk:aB s.env k=some kv)(hx:aB s.env x=some v)(As:Xs P t kv=true)
  (hb:s.H.get b=some (.map es)) (hs:N7 kv v es=some ux) :
  ∃w',(Instr.mapUpdate t (a.eval m) (a.eval k) (a.eval x)).run P w=.ok () w'/\Rel B g { s with H:=(s.H.set b (.map ux)).bI b (.bz [kv,v]) } a w':=by
 have m1:=(qZ h hm).1;obtain⟨k1,k2,_⟩:=qZ h hk;obtain⟨v1,v2,_⟩:=qZ h hx;generalize hme:a.eval m=cm at m1;cases m1;obtain⟨en,ck,e1,e2,e3,e4⟩:=XH h hb;unfold Xs at As;split at As<;>try (cases As;done)
 rename_i kt et ht;split at As<;>try (cases As;done)
 rename_i kd Qh;have pH:s.H.aj[b]?=some (.map es):=by simpa[Hp.get,zV] using hb
 have nk:∀off,¬FY B b off:=λoff hl=>by
  obtain⟨cs,t2,sz,xs,c1,_⟩:=h.gR b off hl;rw[pH] at c1;cases c1
 have cS:∀p8:List (V×V),(∀p∈p8,p∈es\/p=(kv,v))->(br.map p8).top<=max (br.map es).top (V.bz [kv,v]).top:=λp8 hp=>by
  refine uu.2 ⟨j7 λy hy=>?_,j7 λy hy=>?_⟩
  ·obtain⟨p,XV,rfl⟩:=ni.1 hy;rcases hp p XV with h1|h1
   ·exact cZ (qg (HQ (f:=(·.1)) h1)) (cZ (Eo _ _) (Eo _ _))
   ·subst h1;exact cZ (Eo _ _) (II _ _)
  ·obtain⟨p,XV,rfl⟩:=ni.1 hy;rcases hp p XV with h1|h1
   ·exact cZ (qg (HQ (f:=(·.2)) h1)) (cZ (II _ _) (Eo _ _))
   ·subst h1;simp only[V.top,aI];omega
 have nx:max (br.map es).top (V.bz [kv,v]).top<=s.H.aj.length:=uu.2 ⟨uu.2 ⟨e3,e4⟩,by simp only[V.top,aI];omega⟩
 have fin:∀(p8:List (V×V))(Qj:Array MapEntry)(clock:Nat),(∀p∈p8,p∈es\/p=(kv,v))->nM g p8 Qj.toList ->
   Rel B g { s with H:=(s.H.set b (.map p8)).bI b (.bz [kv,v]) } a { w with heap:=w.heap.setIfInBounds (g.bM b) (.map Qj clock) }:=λp8 Qj clock hp hre=>by
  have:=h.write (l:=s.lk) (b:=b) (x0:=.map es) (x:=.map p8) (v:=.bz [kv,v]) (w':={ w with heap:=w.heap.setIfInBounds (g.bM b) (.map Qj clock) }) rfl hb (λc hc=>zd8 hc) (by simp) rfl rfl rfl
   ⟨Qj,clock,zai e1,by simpa using hre.len,λj y e hy he=>hre.rel j y e hy (by simpa using he)⟩ (cZ (cS p8 hp) nx) (.inr (.inr (.inr (cS p8 hp)))) (λoff hl=>absurd hl (nk off)) h.nw
  exact this
 have hg:(getObj (g.bM b)).run P w=.ok (.map en ck) w:=by simp[getObj,Sem.run,e1]
 have nO:∀o,(setObj (g.bM b) o).run P w=.ok () { w with heap:=w.heap.setIfInBounds (g.bM b) o }:=λo=>by simp[setObj,Sem.run,e1]
 have DB:=zd7 (P:=P) Qh As k1 false w;rcases zlo As k1 v1 0 e2 hs with⟨h3,h4⟩|⟨j,e,cv,h3,h4,h5,h6,h7⟩
 ·subst h4;refine⟨{ w with heap:=w.heap.setIfInBounds (g.bM b) (.map (en.push { key:=a.eval k,val:=a.eval x,born:=ck }) (ck+1)) },?_,fin _ _ _ (λp hp=>?_) (by simpa using e2.push (x:=(kv,v)) (e:={ key:=a.eval k,val:=a.eval x,born:=ck }) k1 v1)⟩
  ·unfold Instr.mapUpdate;simp[run_underlying ht,hg,DB,Instr.findKey,run_underlying Qh,h3,nO]
  ·rcases uo.1 hp with hp|hp
   ·exact .inl hp
   ·exact .inr (by simpa using hp)
 ·subst h6;rw[cK] at h3;have XW:en[j]?=some e:=by simpa using h4
  have ajy:j<en.size:=(sQ.1 XW).1;refine⟨{ w with heap:=w.heap.setIfInBounds (g.bM b) (.map (en.modify j λe=>{ e with key:=a.eval k,val:=a.eval x }) ck) },?_,fin _ _ _ (λp hp=>List.mem_or_eq_of_mem_set hp) ?_⟩
  ·have DC:(Instr.keyThatStays e.key (a.eval k)).run P w=.ok (a.eval k) w:=by unfold Instr.keyThatStays;simp[h5]
   unfold Instr.mapUpdate;simp[run_underlying ht,hg,DB,Instr.findKey,run_underlying Qh,h3,nO,XW,DC]
  ·refine⟨by simp[e2.len],λi y f hy hf=>?_⟩
   have Ez:(en.modify j λe=>{ e with key:=a.eval k,val:=a.eval x })[i]?=some f:=by rw[<- LH];exact hf
   rw[Array.getElem?_modify] at Ez
   by_cases Fq:j=i
   ·subst Fq;rw[FN h7] at hy;cases hy;rw[if_pos rfl,XW] at Ez;simp only[bG,aR] at Ez;subst Ez;exact⟨k1,v1⟩
   ·rw[Bs Fq] at hy;rw[if_neg Fq] at Ez;exact e2.rel i y f hy (by simpa using Ez)
def zmy{l:bR}{pos:Nat}(hl:∀b:Nat,b∈l->b<256)(hp:pos<l.length):Utf8.decode (bytes l) pos=IL (l.drop pos):=by
 have nP:∀k,((bytes l).get! (pos+k)).toNat=(l.drop pos).getD k 0:=by
  intro k;have e1:(bytes l).get! (pos+k)=(bytes l).data[pos+k]!:=by cases l<;>rfl
  rw[e1]
  by_cases hk:pos+k<l.length
  ·have hb:=hl _ (List.getElem_mem hk);simp[bytes,List.getD,hk,UInt8.toNat_ofNat',HS hb]
  ·simp[bytes,List.getD,uj (by omega:l.length<=pos+k)]
   rfl
 have Qk:∀k,(decide (pos+k<(bytes l).size) && ((bytes l).get! (pos+k)).toNat / 64 == 2)=(Nat.blt k (l.drop pos).length && Nat.beq ((l.drop pos).getD k 0 / 64) 2):=by
  intro k;rw[nP]
  congr 1
  ·rw[we,List.length_drop,HT,decide_eq_true_iff,Ep];omega
  ·rw[HT,beq_iff_eq,Nat.beq_eq]
 have Ql:=nP 0;rw[cL] at Ql;have L0:∀k,(decide (pos+k<(bytes l).size) && (l.drop pos).getD k 0 / 64 == 2)=(Nat.blt k (l.drop pos).length && Nat.beq ((l.drop pos).getD k 0 / 64) 2):=λk=>by
  have:=Qk k;rw[nP] at this;exact this
 unfold Utf8.decode IL;simp only[cL,nP,Ql,L0]
def zpY(h:Rel B g s a w){it:aO}{b pos:Nat}{l:bR}(hi:aB s.env it=some (.ptr b 0))(hb:s.H.get b=some (.iter l pos))(ty:aq) :
  if Nat.blt pos l.length=true then
   ∃cv w',(Instr.next (a.eval it) true ty).run P w=.ok cv w'/\aQ g (.bz [.bool true,.int .i64 pos,.int .i32 (IL (l.drop pos)).1]) cv/\Rel B g { s with H:=(s.H.set b (.iter l (pos+(IL (l.drop pos)).2))).bI b .ef } a w'
  else ∃cv,(Instr.next (a.eval it) true ty).run P w=.ok cv w/\aQ g (.bz [.bool false]) cv:=by
 have i1:=(qZ h hi).1;generalize hie:a.eval it=ci at i1;cases i1;have pH:s.H.aj[b]?=some (.iter l pos):=by simpa[Hp.get,zV] using hb
 obtain⟨e1,e2⟩:=h.cN.ok b _ pH;have hg:(getObj (g.bM b)).run P w=.ok (.stringIter (bytes l) pos) w:=by simp[getObj,Sem.run,e1]
 have nO:∀o,(setObj (g.bM b) o).run P w=.ok () { w with heap:=w.heap.setIfInBounds (g.bM b) o }:=λo=>by simp[setObj,Sem.run,e1]
 have nk:∀off,¬FY B b off:=λoff hl=>by
  obtain⟨cs,t2,sz,xs,c1,_⟩:=h.gR b off hl;rw[pH] at c1;cases c1
 split
 ·rename_i bD;rw[Ep] at bD;refine⟨.tuple #[.bool true,goInt pos,.int .i32 (IL (l.drop pos)).1],{ w with heap:=w.heap.setIfInBounds (g.bM b) (.stringIter (bytes l) (pos+(IL (l.drop pos)).2)) },?_,?_,?_⟩
  ·unfold Instr.next
   simp[hg,we,bD,zmy e2 bD,nO]
  ·refine .bz rfl λj x u hx hu=>?_;rcases j with _|_|_|j
   ·simp at hx hu;subst hx;subst hu;exact .bool true
   ·simp at hx hu;subst hx;subst hu;exact .int _ _
   ·simp at hx hu;subst hx;subst hu;exact .int _ _
   ·simp at hx
  ·exact h.write (l:=s.lk) (b:=b) (x0:=.iter l pos) (x:=.iter l (pos+(IL (l.drop pos)).2)) (v:=.ef) (w':={ w with heap:=w.heap.setIfInBounds (g.bM b) (.stringIter (bytes l) (pos+(IL (l.drop pos)).2)) }) rfl hb (λc hc=>zd8 hc) (by simp) rfl rfl rfl
    ⟨zai e1,e2⟩ (ga _) (.inl (ga _)) (λoff hl=>absurd hl (nk off)) h.nw
 ·rename_i bD;rw[Ep] at bD;refine⟨.tuple #[.bool false],?_,?_⟩
  ·unfold Instr.next
   simp[hg,we,bD]
  ·refine .bz rfl λj x u hx hu=>?_;rcases j with _|j
   ·simp at hx hu;subst hx;subst hu;exact .bool false
   ·simp at hx
end
section
variable{P:aM}{B:eu}{g:Gh}{s:St}{a:Act}{w:aK}
def vm{t ty e:aq}{n:Nat}(ht:P.underlying t=some (.slice e))(hn:jh P e=some n)(v:aS)(base:Option Addr)(oP tf:Nat)(hv:v=.slice base oP tf)(hle:oP<=tf)(ad:Option Addr)(c:Nat)(w:aK) :
  (Builtin.append_ #[t,t] ty #[v,.slice ad 0 c]).run P w=.ok v w:=by
 subst hv;simp only[jh,l8] at hn;obtain⟨i,hi,rfl⟩:=hn;cases ad<;>cases base<;>simp[Builtin.append_,run_underlying ht,sizeOf,typeInfo,hi,Builtin.lenOf,Builtin.firstCells,hle,loadCells,loadCellsFrom,Go.storeCells]
def Gh.grown(g:Gh)(c:Nat)(vs:dY)(l:Option Loc):Gh :=
 {g with M:=λc' o=>if c'=c then vs[o]? else g.M c' o,own:=λc'=>if c'=c then l else g.own c' }
def Rel.I1(h:Rel B g s a w){c:Nat}{t0:Nat}(uz:s.env.length<=t0)(L1:t0<=s.env.length)(lG:g.own c=some (.slot B.d t0))(hc:c<w.heap.size)(vs:dY)(l:Option Loc){w':aK}
  (hold:∀c',c'≠c->w'.heap[c']?=w.heap[c']?) (gp:w'.heap.size=w.heap.size) (eC:∀o v,vs[o]?=some v->w'.cell? ⟨c,o,none⟩=some v) (I2:∀o v,g.M c o=some v->vs[o]?=some v)
  (uy:w'.os=w.os) (ht:w'.tape=w.tape) (lH:w'.output=w.output):Rel B (g.grown c vs l) s a w':=by
 have cG:∀c',(∀l',some (Loc.slot B.d t0)=some l'->g.own c'≠some l')->c'≠c:=λc' h' e=>h' _ rfl (e ▸ lG);have ajB:∀b,b<s.H.aj.length->g.bM b≠c:=λb hb e=>by
  have:=h.cN.dN b hb;rw[e,lG] at this;cases this
 refine h.iB (b0:=none) (l0:=some (.slot B.d t0)) ?_ (ek _) (λ_ _ _=>rfl) (λb x hb hx=>?_) (λb h1 h2=>?_) (λb b' h1 h2=>?_) (λc' o v hv=>?_) (λc' l' eY=>?_) (λb j e=>by cases e) rfl rfl
  (λt x hx=>⟨x,hx,.inl ⟨rfl,λe=>?_⟩⟩) h.aW h.gR h.nw (λt e=>by cases e;exact L1)
 ·refine⟨⟨λc' o v hv=>?_,λ_ _=>rfl,rfl,λ_ _ _ _ e=>e⟩,λc' _ _ h2=>hold c' (cG c' h2),λc' _ h2=>?_,λc' _ h2 o=>?_,by omega,λ_ _ _=>rfl,λl' lD=>?_,λb hb=>(by cases hb),λ_ _ _ _=>rfl,uy,ht,lH⟩
  ·simp only[Gh.grown];split
   next e=>subst e;exact I2 o v hv
   ·exact hv
  ·simp only[Gh.grown];rw[if_neg (cG c' h2)]
  ·simp only[Gh.grown];rw[if_neg (cG c' h2)]
  ·cases lD;exact .inl ⟨t0,rfl⟩
 ·rcases hb with hb|hb
  ·cases hb
  ·have:=(eE.1 hx).1;omega
 ·omega
 ·omega
 ·simp only[Gh.grown] at hv;split at hv
  next e=>subst e;exact eC o v hv
  next e=>rw[Oi (hold c' e)];exact h.cN.mem c' o v hv
 ·simp only[Gh.grown] at eY;split at eY
  next e=>omega
  ·have:=h.cN.eK c' l' eY;omega
 ·cases e;have:=(eE.1 hx).1;omega
end
section
variable{P:aM}{B:eu}{g:Gh}{s:St}{a:Act}{w:aK}
def zgz(h:Rel B g s a w){e sz:Nat}{xs:aA}{ow:Own}{cv:aS}{vs:dY}(hr:aQ g (.sl sz xs ow) cv)(ho:rowAt w e sz cv xs.length vs):bN g (q9 xs) vs:=by
 cases hr with
 | sl f h1 h2 h3 h4 h5 h6 =>
  rename_i ad cap c o;refine⟨by rw[jB h1,ho.1],h4,λj x v hx hv=>?_⟩
  have cG:xs≠[]:=by rintro rfl;simp[q9] at hx
  have e1:=h3 cG;subst e1;have:=ho.cells j v hv;rw[h.cN.mem _ _ _ (h5 j x hx)] at this;cases this;exact h6 j x hx
def Gh.L3(n:Nat){g:Gh}{w:aK}(hm:∀c o v,g.M c o=some v->w.cell? ⟨c,o,none⟩=some v)(vs:dY)(l:Option Loc):Gh.Le n g (g.row w.heap.size vs l):=by
 refine⟨λc o v hv=>?_,λ_ _=>rfl,rfl,λ_ _ _ _ e=>e⟩;have:=vP (hm c o v hv);simp only[Gh.row];rw[if_neg (by omega)]
 exact hv
def ziJ(h:Rel B g s a w){e sz:Nat}{z:aS}{zs:aA}{vs:dY}(F7:∀y:V,y∈zs->y.cells.length=sz)(ej:bN g (q9 zs) vs)(ht:aI zs<=s.H.aj.length)(hz:z.cells.size=sz)(L4:zs.length<=maxLen)(old:Nat)(l:Loc){arr:dI}(lq:arr.toList=vs) :
  ∃g',Rel B g' s a (w.drew.alloc (.cells (arr++Builtin.zeroCells z.cells (grownCap w zs.length old e - zs.length)) e))/\aQ g' (.sl sz zs (.yes e)) (.slice (some ⟨w.heap.size,0,none⟩) zs.length (grownCap w zs.length old e)) /\
   iy g' s.H.aj.length (w.drew.alloc (.cells (arr++Builtin.zeroCells z.cells (grownCap w zs.length old e - zs.length)) e)) l e sz zs.length (.slice (some ⟨w.heap.size,0,none⟩) zs.length (grownCap w zs.length old e)):=by
 have hlen:vs.length=zs.length * sz:=by rw[<- ej.len,jB F7]
 have ov:arr.size=zs.length * sz:=by rw[<- hlen,<- lq];simp
 have Du:=grownCap_ge w zs.length old e;generalize pF:grownCap w zs.length old e=cap at Du ⊢;have nr:cap<=maxLen:=by rw[<- pF];exact grownCap_le_maxLen w _ old e L4
 generalize nx:arr++Builtin.zeroCells z.cells (cap - zs.length)=cur;have gm:(w.drew.alloc (.cells cur e)).heap[w.heap.size]?=some (.cells cur e (0,0)):=heap_alloc_new w.drew _;have eC:∀o v,vs[o]?=some v->(w.drew.alloc (.cells cur e)).cell? ⟨w.heap.size,o,none⟩=some v:=λo v hv=>by
  rw[cell_of_row _ _ _ cur _ _ gm,<- nx];have ho:o<arr.size:=by rw[ov,<- hlen];exact(eE.1 hv).1
  rw[Array.getElem?_append_left ho,<- LH,lq];exact hv
 have hR:=h.settle vs (some l) (w':=w.drew.alloc (.cells cur e)) (by simp) (λc hc=>Go.heap_alloc_old w.drew _ hc) eC rfl rfl rfl
 refine⟨_,hR,aQ.settled (n:=s.H.aj.length) F7 Du ej (cZ y4 ht) (Gh.L3 _ h.cN.mem _ _),vs,⟨hlen,.inr ⟨w.heap.size,0,cap,cur,rfl,gm,Du,nr,.inr ?_,?_⟩⟩,λc hc=>?_⟩
 ·rw[<- nx,Array.size_append,ov,size_zeroCells,hz,<- uS,cK];congr 1;omega
 ·rw[IJ,<- nx,Array.toList_append,List.take_append_of_le_length (by simp;omega),lq]
  exact En (by omega)
 ·simp only[Value.ownBlock,aR] at hc;subst hc;refine⟨by simp[Gh.row],λo ho _=>?_,λb hb e=>?_⟩
  ·simp only[Gh.row,aU];simp only at ho;exact uj (by omega)
  ·have:=h.cN.lt b hb;simp only[Gh.row] at e;omega
def bN.append{xs ys:aA}{vs news:dY}(hold:bN g (q9 xs) vs)(ej:bN g (q9 ys) news):bN g (q9 (xs++ys)) (vs++news):=by
 simp only[q9,List.flatMap_append] at *;refine⟨by simp only[bY,hold.len,ej.len],λj x hx=>?_,λj x v hx dG=>?_⟩
 ·rcases lP j (xs.flatMap V.cells).length with h1|h1
  ·rw[mz h1] at hx;exact hold.one j x hx
  ·rw[oe h1] at hx;exact ej.one _ x hx
 ·rcases lP j (xs.flatMap V.cells).length with h1|h1
  ·rw[mz h1] at hx;rw[mz (by rw[<- hold.len];exact h1)] at dG
   exact hold.rel j x v hx dG
  ·rw[oe h1] at hx;rw[oe (by rw[<- hold.len];exact h1),<- hold.len] at dG
   exact ej.rel _ x v hx dG
def zkq(h:Rel B g s a w){e sz:Nat}{xs ys:aA}{news:dY}{cv:aS}(hv:aQ g (.sl sz xs (.yes e)) cv){t0:Nat}(uz:s.env.length<=t0)(L1:t0<=s.env.length)(ho:iy g s.H.aj.length w (.slot B.d t0) e sz xs.length cv)
  (F7:∀y:V,y∈xs++ys->y.cells.length=sz) (ej:bN g (q9 ys) news) (ht:aI (xs++ys)<=s.H.aj.length) (l:Loc) {c o cap:Nat} {cur:dI} (mY:cv=.slice (some ⟨c,o,none⟩) xs.length cap)
  (nx:w.heap[c]?=some (.cells cur e (0,0))) (gH:xs.length+ys.length<=cap) (cG:ys≠[]) :
  ∃g',Rel B g' s a (w.setRow c (cur.toList.take (o+xs.length * sz)++news++cur.toList.drop (o+xs.length * sz+news.length)).toArray)/\aQ g' (.sl sz (xs++ys) (.yes e)) (.slice (some ⟨c,o,none⟩) (xs.length+ys.length) cap) /\
   iy g' s.H.aj.length (w.setRow c (cur.toList.take (o+xs.length * sz)++news++cur.toList.drop (o+xs.length * sz+news.length)).toArray) l e sz (xs.length+ys.length) (.slice (some ⟨c,o,none⟩) (xs.length+ys.length) cap):=by
 subst mY;obtain⟨vs,Ug,Ol⟩:=ho;have hold:=zgz h hv Ug;obtain⟨DD,ho3⟩:=Ug;rcases ho3 with⟨e2,_⟩|⟨c',o',oM,ajE,e2,uV,hn,nr,gp,Qm⟩
 ·cases e2
 cases e2;rw[nx] at uV;cases uV;obtain⟨XX,XY,XZ⟩:=Ol c rfl;have hyl:0<ys.length:=Kk.2 cG;have gp:cur.size=o+cap * sz:=by rcases gp with h|h;omega;exact h
 have gX:news.length=ys.length * sz:=by rw[<- ej.len,jB λy hy=>F7 y (CA _ hy)]
 have L5:xs.length * sz+ys.length * sz<=cap * sz:=by rw[<- uS];exact Nat.mul_le_mul_right _ gH
 have iL:cur.toList.length=cur.size:=CC;have oN:(cur.toList.take (o+xs.length * sz)).length=o+xs.length * sz:=by rw[Bb];omega
 have fU:cur.toList.take (o+xs.length * sz)=cur.toList.take o++vs:=by rw[<- Qm,List.take_add]
 generalize sW:cur.toList.take (o+xs.length * sz)++news++cur.toList.drop (o+xs.length * sz+news.length)=L;have bD:c<w.heap.size:=(sQ.1 nx).1;have gm:(w.setRow c L.toArray).heap[c]?=some (.cells L.toArray e (0,0)):=setRow_heap w c _ _ _ _ nx;have tj:∀c',c'≠c->(w.setRow c L.toArray).heap[c']?=w.heap[c']?:=λc' cG=>setRow_other w c c' _ cG
 have oE:(w.setRow c L.toArray).heap.size=w.heap.size:=setRow_size w c _;generalize hF:cur.toList.take (o+xs.length * sz)++news=F at sW;have eC:∀k v,F[k]?=some v->(w.setRow c L.toArray).cell? ⟨c,k,none⟩=some v:=λk v dG=>by
  rw[cell_of_row _ _ _ _ _ _ gm,List.getElem?_toArray,<- sW,mz (eE.1 dG).1];exact dG
 have I2:∀k v,g.M c k=some v->F[k]?=some v:=λk v hm=>by
  have:=h.cN.mem _ _ _ hm;rw[cell_of_row w _ _ _ _ _ nx] at this;have hk:k<cur.size:=(sQ.1 this).1;have bD:k<o+xs.length * sz:=by
   rcases lP k (o+xs.length * sz) with h1|h1
   ·exact h1
   ·rw[XY k h1 (by simp only;omega)] at hm;cases hm
  rw[<- hF,mz (by rw[oN];exact bD),um,if_pos bD]
  simpa using this
 have hR:=h.I1 uz L1 XX bD F (some l) tj oE eC I2 rfl rfl rfl
 have hle:Gh.Le s.H.aj.length g (g.grown c F (some l)):=⟨λc' o v hm=>by
  simp only[Gh.grown];split
  next e=>subst e;exact I2 o v hm
  ·exact hm,λ_ _=>rfl,rfl,λ_ _ _ _ e=>e⟩
 have eD:bN g (q9 (xs++ys)) (vs++news):=hold.append ej;have hFl:F.length=o+xs.length * sz+news.length:=by rw[<- hF,bY,oN]
 have EA:(cur.toList.take o).length=o:=by rw[Bb];omega
 have hFo:∀j,F[o+j]?=(vs++news)[j]?:=λj=>by
  rw[<- hF,fU,b_,oe (by omega),EA,P2]
 refine⟨_,hR,?_,vs++news,⟨by rw[bY,DD,gX,uS],.inr ⟨c,o,cap,L.toArray,rfl,gm,gH,nr,.inr ?_,?_⟩⟩,λc' eY=>?_⟩
 ·rw[show xs.length+ys.length=(xs++ys).length by simp]
  refine .sl (c:=c) (o:=o) (λj=>(vs++news).getD j .nilFunc) F7 (by simpa using gH) (λ_=>rfl) eD.one (λj x hj=>?_) (λj x hj=>?_)
  ·obtain⟨v,dG,_⟩:=eD.get hj;simp[Gh.grown,hFo,dG,List.getD]
  ·obtain⟨v,dG,hr⟩:=eD.get hj;have:=hr.le hle (cZ (qg (qI hj)) (cZ y4 ht));simpa[List.getD,dG] using this
 ·rw[<- gp];simp only[List.size_toArray,<- sW,bY,hFl,List.length_drop,CC];omega
 ·rw[uS,<- gX,<- DD];simp only[<- sW,<- hF,fU];rw[b_,b_,List.drop_append_of_le_length (by omega),List.drop_of_length_le (by omega),cq,<- b_,List.take_append_of_le_length (by simp)]
  exact En (by simp)
 ·simp only[Value.ownBlock,aR] at eY;subst eY;refine⟨by simp[Gh.grown],λj ho _=>?_,λb hb e=>XZ b hb e⟩
  simp only[Gh.grown,aU];simp only[uS] at ho;exact uj (by rw[hFl,gX];omega)
end
section
variable{P:aM}{B:eu}{g:Gh}{s:St}{a:Act}{w:aK}
def X0{e:aq}{n:Nat}{i:TypeInfo}(hn:jh P e=some n)(hi:P.info? e=some i):i.size=n:=by
 simpa[jh,hi] using hn
def aQ.F8{sz:Nat}{xs:aA}{ow:Own}{cv:aS}(h:aQ g (.sl sz xs ow) cv):∃base cap,cv=.slice base xs.length cap/\xs.length<=cap:=by
 cases h;exact⟨_,_,rfl,by assumption⟩
def aQ.pI{cv:aS}(h:aQ g .aJ cv):cv=.slice none 0 0:=by
 cases h;rfl
def zdz{w:aK}(t ty e:aq)(i:TypeInfo)(ht:P.underlying t=some (.slice e))(hi:P.info? e=some i)
  (g o oP tf:Nat) (cur:dI) (hg:w.heap[g]?=some (.cells cur e (0,0)))
  (a:Addr) (m c:Nat) (news:dY) (hl:news.length=m * i.size) (Qn:∀j u,news[j]?=some u->w.cell? (a.add j)=some u) (h1:∀u∈news,u.oneCell'=true)
  (gH:oP+m<=tf) (I3:o+oP * i.size+news.length<=cur.size) :
  (Builtin.append_ #[t,t] ty #[.slice (some ⟨g,o,none⟩) oP tf,.slice (some a) m c]).run P w =
   .ok (.slice (some ⟨g,o,none⟩) (oP+m) tf) (w.setRow g (cur.toList.take (o+oP * i.size)++news++cur.toList.drop (o+oP * i.size+news.length)).toArray):=by
 have hf:=run_firstCells_some (P:=P) w i.size m a m c news hl Qn;have eM:=run_storeCells_at P g (o+oP * i.size) e news 0 cur w hg (by simpa using I3) h1
 simp only[cL] at eM;simp[Builtin.append_,run_underlying ht,sizeOf,typeInfo,hi,Builtin.lenOf,gH,hf,Addr.add_lit,eM]
def rz(h:Rel B g s a w){t ty:aq}{x y:aO}{yv v r:V}{dy:aA}
  (hy:aB s.env y=some yv) (hx:take s.env x=some (v,dy)) (hr:kG P s.H t v yv=some r) (l0:Nat) :
  ∃g' cv w',(Builtin.append_ #[t,t] ty #[a.eval x,a.eval y]).run P w=.ok cv w'/\Rel B g' { s with env:=dy } a w'/\aQ g' r cv/\c_ g' s.H.aj.length w' (.slot B.d l0) r cv/\r.top<=s.H.aj.length:=by
 obtain⟨y1,y3,_⟩:=qZ h hy;unfold kG at hr;simp only[Option.bind_eq_bind,fJ] at hr;obtain⟨td,ht,hr⟩:=hr;split at hr<;>try (cases hr;done)
 rename_i e;simp only[fJ] at hr;obtain⟨n,hn,i,hi,z,hz,hr⟩:=hr;have Be:=X0 hn hi;split at hr<;>try (cases hr;done)
 rename_i X3;have F7:z.cells.size=n:=gy (by simpa using X3)
 simp only[fJ] at hr;obtain⟨ys,ua,hr⟩:=hr;have Qo:=Qe h hn ua y1 y3
 by_cases cG:ys=[]
 ·subst cG;obtain⟨ad,cap,sF,_⟩:=Qo.form;obtain⟨g1,h1,v1,v2,v3,F6⟩:=gS h hx (.slot B.d l0);have hzero:∃base oP tf,a.eval x=.slice base oP tf/\oP<=tf/\aQ g1 r (a.eval x)/\c_ g1 s.H.aj.length w (.slot B.d l0) r (a.eval x)/\r.top<=s.H.aj.length:=by
   split at hr
   ·simp only[aR] at hr;subst hr;have e:=v1.pI;exact⟨_,_,_,e,ek _,v1,trivial,ga _⟩
   ·split at hr<;>simp only[aR,reduceCtorEq] at hr;rename_i hc;simp only[cR] at hc;have e1:=gy hc.1.1.1;have e2:=gy hc.1.1.2;subst e1;subst e2;subst hr;simp only[oZ];obtain⟨base,cap,f1,f2⟩:=v1.F8;exact⟨_,_,_,f1,f2,v1,v2,v3⟩
   ·cases hr
  obtain⟨base,oP,tf,e1,e2,r1,r2,r3⟩:=hzero;refine⟨g1,a.eval x,w,?_,h1,r1,r2,r3⟩;rw[sF];have:=vm (P:=P) (ty:=ty) ht hn (a.eval x) base oP tf e1 e2 ad cap w;exact this
 ·obtain⟨g1,h1,v1,v2,v3,F6⟩:=gS h hx (.slot B.d s.env.length);have iN:=Qe h1 (s:={ s with env:=dy }) hn ua (F6.rel y1) y3;obtain⟨ad,cy,sF,mD⟩:=iN.form;obtain⟨a0,news,rfl,ej,iW⟩:=mD cG;have oz:0<ys.length:=Kk.2 cG;have gX:news.length=ys.length * i.size:=by rw[<- ej.len,jB iN.sized,Be]
  have Au:∀u∈news,u.oneCell'=true:=λu hu=>by
   obtain⟨j,hj⟩:=List.getElem?_of_mem hu;have F1:j<(q9 ys).length:=by rw[ej.len];exact(eE.1 hj).1
   have hx:=mq F1;exact(ej.rel j _ u hx hj).pg (ej.one j _ hx)
  have tn:∀m,kr m i.bytes=true->m<=maxLen/\m * i.bytes<=140737488355328:=λm hm=>by
   simp only[kr,cR] at hm;exact⟨by have:=sE hm.1;simp only[maxLen];omega,sE hm.2⟩
  have mW:({ s with env:=dy }:St).env.length<=s.env.length:=by
   rw[h1.len,h.len];exact ek _
  have Qp:s.env.length<=({ s with env:=dy }:St).env.length:=by
   rw[h1.len,h.len];exact ek _
  have fresh:∀(zs:aA),zs=ys->a.eval x=.slice none 0 0->kr ys.length i.bytes=true->r=.sl n ys (.yes e) ->
    ∃g' cv w',(Builtin.append_ #[t,t] ty #[a.eval x,a.eval y]).run P w=.ok cv w'/\Rel B g' { s with env:=dy } a w'/\aQ g' r cv/\c_ g' s.H.aj.length w' (.slot B.d l0) r cv/\r.top<=s.H.aj.length:=by
   intro _ _ Kv L6 er;obtain⟨m1,m2⟩:=tn _ L6;obtain⟨g2,k1,k2,k3⟩:=ziJ h1 (e:=e) (sz:=n) (z:=z) iN.sized ej iN.aI F7 m1 0 (.slot B.d l0) (arr:=news.toArray) (by simp)
   refine⟨g2,_,_,?_,k1,by rw[er];exact k2,by rw[er];exact k3,by rw[er];exact iN.aI⟩
   rw[Kv,sF];exact run_append_nil (P:=P) w t ty e i z ht hi hz a0 ys.length cy news gX iW oz (by simp only[maxLen] at m1;omega) (by omega)
  split at hr
  ·split at hr
   ·exact absurd rfl cG
   ·split at hr<;>simp only[aR,reduceCtorEq] at hr;rename_i hc;simp only[cR] at hc;have Kv:a.eval x=.slice none 0 0:=v1.pI;exact fresh ys rfl Kv hc.1 hr.symm
  ·split at hr<;>simp only[aR,reduceCtorEq] at hr;rename_i sz xs e' hc;simp only[cR] at hc;have e1:=gy hc.1.1.1;have e2:=gy hc.1.1.2;subst e1;subst e2;obtain⟨m1,m2⟩:=tn _ hc.2;have lG:iy g1 s.H.aj.length w (.slot B.d s.env.length) e n xs.length (a.eval x):=v2;obtain⟨vs,ho,_⟩:=id lG;have hold:=zgz h1 v1 ho;have lu:∀y:V,y∈xs->y.cells.length=n:=by
    generalize a.eval x=c at v1;cases v1;assumption
   have eD:∀y:V,y∈xs++ys->y.cells.length=n:=λy hy=>(uo.1 hy).elim (lu y) (iN.sized y);have pG:aI (xs++ys)<=s.H.aj.length:=j7 λy hy=>(uo.1 hy).elim (λh=>cZ (qg h) v3) (λh=>cZ (qg h) iN.aI);rcases id ho with⟨DD,⟨e3,e4⟩|⟨c,o,cap,cur,e3,nx,hle,nr,Av,iu⟩⟩
   ·have Fp:xs=[]:=N0.1 e4;subst Fp;exact fresh ys rfl e3 (by simpa using hc.2) (by simpa using hr.symm)
   ·by_cases F9:xs.length+ys.length<=cap
    ·obtain⟨g2,k1,k2,k3⟩:=zkq h1 v1 mW Qp lG eD ej pG (.slot B.d l0) e3 nx F9 cG;refine⟨g2,_,_,?_,k1,by rw[<- hr];exact k2,by rw[<- hr];simpa[c_] using k3,by rw[<- hr];exact pG⟩
     rw[e3,sF];have Av:cur.size=o+cap * n:=by rcases Av with h|h;omega;exact h
     have:=zdz (P:=P) (w:=w) t ty e i ht hi c o xs.length cap cur nx a0 ys.length cy news gX iW Au F9 (by rw[gX,Be,Av,cU,<- uS];exact Nat.add_le_add_left (Nat.mul_le_mul_right _ F9) _)
     rw[Be] at this;exact this
    ·have Qq:bN g1 (q9 (xs++ys)) (vs++news):=hold.append ej;obtain⟨g2,k1,k2,k3⟩:=ziJ h1 (e:=e) (sz:=n) (z:=z) eD Qq pG F7 (by simpa using m1) cap (.slot B.d l0) (arr:=vs.toArray++news.toArray) (by simp)
     simp only[bY] at k1 k2 k3;refine⟨g2,_,_,?_,k1,by rw[<- hr];exact k2,by rw[<- hr];simpa[c_] using k3,by rw[<- hr];exact pG⟩
     rw[e3,sF];exact run_append_grow (P:=P) w t ty e i z ht hi hz ⟨c,o,none⟩ xs.length cap vs (by rw[DD,Be]) (λj u hu=>by rw[Addr.add_lit];exact(show rowAt w e n (.slice (some ⟨c,o,none⟩) xs.length cap) xs.length vs from e3 ▸ ho).cells j u hu) a0 ys.length cy news gX iW (by omega) (by simp only[maxLen] at m1;omega) (growslice_fits (by omega) m2)
  ·cases hr
end
section
variable{P:aM}{B:eu}{g:Gh}{s:St}{a:Act}{w:aK}
def gh(P:aM)(B:eu)(s':St)(a:Act)(w:aK)(o:Oper)(v:V):Prop :=
 ∃g' cv w',(execOp a.eval o).run P w=.ok (.value cv) w'/\Ew B g' s' a w' o.dst v cv
def zkr{w:aK}{c:Nat}{cs:dI}{t:aq}(h:w.heap[c]?=some (.cells cs t (0,0)))(k:Nat):(w.freeze { block:=c,off:=cs.size } 1).heap[k]?=if k=c then some (.cells cs t (cs.size,cs.size+1)) else w.heap[k]?:=by
 unfold World.freeze;simp only[Nat.one_ne_zero,bZ,Array.getElem?_modify]
 by_cases hk:k=c
 ·subst hk;simp[h]
 ·simp[hk,Ne.symm hk]
def zgk{P:aM}{t e:aq}{w:aK}{c o len cap:Nat}{cs:dI}{et:aq}(hs:P.underlying t=some (.slice e))(h8:P.underlying e=some (.int .u8))(h:w.heap[c]?=some (.cells cs et (0,0))) :
  (convert t t (.slice (some ⟨c,o,none⟩) len cap)).run P w=.ok (.slice (some ⟨c,o,none⟩) len cap) (w.freeze { block:=c,off:=cs.size } 1):=by
 have hsh:w.shape? c=some (et,cs.size):=by simp[World.shape?,h]
 simp[convert,run_underlying hs,run_underlying h8,markStringish,shape,freeze,Sem.run,hsh]
def zpZ(h:Rel B g s a w){src dst:aq}{x:aO}{o:Oper}{v:V}{dy:aA}(hm:vJ P src dst x s.env=some (v,dy))(ho:o.op=.convert src dst x):gh P B { s with env:=dy } a w o v:=by
 unfold vJ at hm;split at hm<;>try (cases hm;done)
 rename_i e DE hs;have X4:=gy DE;subst X4;split at hm<;>simp only[aR,reduceCtorEq,bS] at hm;rename_i sz y ys e' de h8 ht;obtain⟨rfl,rfl⟩:=hm;obtain⟨g',k1,k2,k3,k4,_⟩:=gS h ht (.slot B.d s.env.length);have hlen:de.length=s.env.length:=by
  have:=k1.len.trans h.len.symm;simpa using this
 have X5:iy g' s.H.aj.length w (.slot B.d s.env.length) e' sz (y::ys).length (a.eval x):=k3;obtain⟨vs,⟨_,eN⟩,lG⟩:=X5;rcases eN with⟨_,h0⟩|⟨c,ro,cap,cur,mY,hc,_⟩
 ·simp at h0
 obtain⟨o1,o2,o3⟩:=lG c (by rw[mY];rfl)
 rw[mY] at k2;have fu:=zkr hc;have eC:∀ad,(w.freeze { block:=c,off:=cur.size } 1).cell? ad=w.cell? ad:=λad=>by
  simp only[World.cell?,fu]
  by_cases e0:ad.block=c
  ·rw[if_pos e0,e0,hc]
  ·rw[if_neg e0]
 have oE:(w.freeze { block:=c,off:=cur.size } 1).heap.size=w.heap.size:=by simp[World.freeze]
 have hle:Gh.Le s.H.aj.length g' { g' with own:=λk=>if k=c then none else g'.own k }:=⟨λ_ _ _ h=>h,λ_ _=>rfl,rfl,λ_ _ _ _ h=>h⟩
 have fT:lS B.d none (some (.slot B.d s.env.length)) s.H.aj.length g' w { g' with own:=λk=>if k=c then none else g'.own k } (w.freeze { block:=c,off:=cur.size } 1):=by
  refine⟨hle,λk _ _ hk=>?_,λk _ hk=>?_,λ_ _ _ _=>rfl,by rw[oE];exact ek _,λ_ _ _=>rfl,λl hl=>.inl ⟨_,(ur hl).symm⟩,λb hb=>(by cases hb),λ_ _ _ _=>rfl,rfl,rfl,rfl⟩
  ·have cG:¬k=c:=λe0=>hk _ rfl (by rw[e0];exact o1)
   rw[fu,if_neg cG]
  ·have cG:¬k=c:=λe0=>hk _ rfl (by rw[e0];exact o1)
   simp only;rw[if_neg cG]
 refine⟨{ g' with own:=λk=>if k=c then none else g'.own k },.slice (some ⟨c,ro,none⟩) (y::ys).length cap,w.freeze { block:=c,off:=cur.size } 1,?_,?_,?_,λ_ _=>trivial,k4⟩
 ·simp only[execOp,ho,mY,Sem.run_bind,zgk hs h8 hc,Result.andThen_ok,Sem.run_pure]
 ·refine k1.iB (b0:=none) (l0:=some (.slot B.d s.env.length)) fT (ek _) (λ_ _ _=>rfl) (λb x hb hx=>?_) (λb h1 h2=>?_) (λb b' h1 h2=>?_) (λc' o' v' dG=>?_) (λc' l hl=>?_) (λb j e0=>by cases e0) rfl rfl (λt x hx=>⟨x,hx,.inl ⟨rfl,λe0=>?_⟩⟩) k1.aW k1.gR k1.nw (λt e0=>?_)
  ·rcases hb with hb|hb
   ·cases hb
   ·exact absurd (eE.1 hx).1 (Nat.not_lt.2 hb)
  ·exact absurd h2 (Nat.not_lt.2 h1)
  ·exact absurd h2 (Nat.not_lt.2 h1)
  ·rw[eC];exact k1.cN.mem c' o' v' dG
  ·simp only at hl;rw[oE];split at hl
   ·cases hl
   ·exact k1.cN.eK c' l hl
  ·simp only[aR,Loc.slot.injEq,cg] at e0;have:=(eE.1 hx).1;simp only at this;omega
  ·simp only[aR,Loc.slot.injEq,cg] at e0;simp only;omega
 ·exact(k2.le hle k4).aT
def oQ(P:aM)(B:eu)(s':St)(a:Act)(w:aK)(o:Oper):Prop :=
 ∃g' w',(execOp a.eval o).run P w=.ok .skip w'/\Rel B g' s' a w'
def X6(g:Gh)(n N:Nat):aQ (g.var n N) (.ptr n 0) (.pointer (some ⟨N,0,none⟩)):=by
 have:=aQ.ptr (g:=g.var n N) n 0;simpa[Gh.var] using this
def tq(h:Rel B g s a w){t:aq}{z:V}(hz:kf P t=some z)(hc:fH z=true){o:Oper}(ho:o.op=.alloc t) :
  gh P B { s with H:=s.H.push (.cells z.cells t) } a w o (.ptr s.H.aj.length 0):=by
 obtain⟨cz,z1,z2,z3,_,z5⟩:=Of (g:=g) hz w;have ej:=yz z2 hc
 have gX:=λx hx=>XT (v:=cz) (z:=z) (by
  simp only[kf,fJ] at hz;obtain⟨i,hi,zz,Oj,hv⟩:=hz;simp only[hi,bC] at z5
  rw[Oj] at z5;cases z5;exact hv) x hx
 refine⟨g.var s.H.aj.length w.heap.size,.pointer (some ⟨w.heap.size,0,none⟩),w.alloc (.cells cz.cells t),?_,?_,?_,λ_ _=>trivial,?_⟩
 ·simp[execOp,ho,Instr.alloc,z1,newVar,newRow]
 ·refine h.ru ej (j7 λx hx=>cZ (T8 hx) (by omega)) λj x v hx hv=>⟨?_,λsz xs e=>gX x (qI hx) _ _ _ e⟩
  cases x with
  | sl sz xs o=>exact absurd rfl (gX _ (qI hx) sz xs o)
  | _=>trivial
 ·exact X6 _ _ _
 ·simp[V.top,Hp.push]
def CM(h:Rel B g s a w){t:aq}{x:aO}{v:V}{dy:aA}(ht:take s.env x=some (v,dy))(hc:fH v=true){o:Oper}(ho:o.op=.box t x) :
  gh P B { s with env:=dy,H:=s.H.push (.cells v.laid t) } a w o (.ptr s.H.aj.length 0):=by
 obtain⟨g',h1,v1,v2,v3,F6⟩:=gS h ht (.cell s.H.aj.length 0);obtain⟨l1,l2,l3⟩:=zln v1 hc v2 (zb2 ht) v3;refine⟨g'.var s.H.aj.length w.heap.size,.pointer (some ⟨w.heap.size,0,none⟩),w.alloc (.cells (a.eval x).cells t),?_,?_,?_,λ_ _=>trivial,?_⟩
 ·simp[execOp,ho,Instr.box,newVar,newRow]
 ·exact h1.ru l1 l2 λj y u hy hu=>by have:=l3 j y u hy hu;rw[cK] at this;exact this
 ·exact X6 _ _ _
 ·simp[V.top,Hp.push]
def zks(h:Rel B g s a w){t:aq}{o:Oper}(ho:o.op=.makeMap t none):gh P B { s with H:=s.H.push (.map []) } a w o (.map s.H.aj.length):=by
 have hv:(g.var s.H.aj.length w.heap.size).bM s.H.aj.length=w.heap.size:=by simp[Gh.var]
 refine⟨g.var s.H.aj.length w.heap.size,.map (some w.heap.size),w.alloc (.map #[] 0),?_,?_,?_,λ_ _=>trivial,?_⟩
 ·simp[execOp,ho,Instr.makeMap]
 ·refine h.push (.map []) rfl rfl rfl rfl ⟨#[],0,?_,rfl,λj x me hx=>by simp at hx⟩ (by simp[br.top,aI])
  rw[hv];exact XS (w':=w.alloc (.map #[] 0)) rfl
 ·have:=aQ.map (g:=g.var s.H.aj.length w.heap.size) s.H.aj.length;rw[hv] at this;exact this
 ·simp[V.top,Hp.push]
def znM(h:Rel B g s a w){t:aq}{x:aO}{l:bR}(ht:P.underlying t=some .string)(hx:aB s.env x=some (.str l)){o:Oper}(ho:o.op=.range t x) :
  gh P B { s with H:=s.H.push (.iter l 0) } a w o (.ptr s.H.aj.length 0):=by
 have x1:=(qZ h hx).1;generalize Kw:a.eval x=cx at x1;cases x1 with
 | str hl =>
  have hv:(g.var s.H.aj.length w.heap.size).bM s.H.aj.length=w.heap.size:=by simp[Gh.var]
  refine⟨g.var s.H.aj.length w.heap.size,.pointer (some ⟨w.heap.size,0,none⟩),w.alloc (.stringIter (bytes l) 0),?_,?_,?_,λ_ _=>trivial,?_⟩
  ·simp[execOp,ho,Instr.range,Kw,run_underlying ht]
  ·refine h.push (.iter l 0) rfl rfl rfl rfl ⟨?_,hl⟩ (by simp[br.top])
   rw[hv];exact XS (w':=w.alloc (.stringIter (bytes l) 0)) rfl
  ·exact X6 _ _ _
  ·simp[V.top,Hp.push]
def znN{n:Nat}{z:V}{cz:aS}(hz:aQ g z cz)(dP:fH z=true)(hl:z.cells.length=n)(hn:n≠0)(len:Nat):bN g (q9 (List.replicate len z)) (madeCells cz.cells (len * n)).toList:=by
 have Dz:=yz hz dP;have F3:cz.cells.size=n:=by rw[<- hl,Dz.len];simp
 have mO:(q9 (List.replicate len z)).length=len * n:=by rw[jB (sz:=n) λy hy=>by rw[(List.mem_replicate.1 hy).2];exact hl];simp
 refine⟨by rw[mO];simp[madeCells],λj x hx=>?_,λj x v hx hv=>?_⟩
 ·have hj:j<len * n:=by rw[<- mO];exact(eE.1 hx).1
  rw[wU hl len j hj] at hx;exact Dz.one _ x hx
 ·have hj:j<len * n:=by rw[<- mO];exact(eE.1 hx).1
  rw[wU hl len j hj] at hx;have hm:j % n<cz.cells.size:=by rw[F3];exact Nat.mod_lt _ (by omega)
  simp only[madeCells,Array.toList_map,Array.toList_range,mS,List.getElem?_range,hj,bG,aR,F3] at hv;rw[getElem!_pos cz.cells (j % n) hm] at hv;refine Dz.rel _ x v hx ?_;rw[LH,FM hm,hv]
def zb3(z:V):∀n,(List.replicate n z.cells).flatten=q9 (List.replicate n z)
 | 0=>rfl
 | n+1=>by simp only[List.replicate_succ,List.flatten_cons,zb3 z n,q9,Fb]
def zht(h:Rel B g s a w){t e:aq}{lx cx:aO}{k k':IntKind}{l c:Int}{n:Nat}{i:TypeInfo}{z:V}(ht:P.underlying t=some (.slice e))(hlx:aB s.env lx=some (.int k l))(mh:aB s.env cx=some (.int k' c))
  (hn:jh P e=some n) (hi:P.info? e=some i) (hz:kf P e=some z) (hc:(Nat.beq n 0 || l<0 || c<l || !kr c.toNat i.bytes || !Nat.beq z.cells.length n || !fH z)=false) {o:Oper} (ho:o.op=.makeSlice t lx cx) :
  (l=0->gh P B s a w o (.sl n [] (.yes e)))/\gh P B { s with H:=s.H.push (.cells (List.replicate c.toNat z.cells).flatten e) } a w o (.sr s.H.aj.length 0 l.toNat c.toNat):=by
 simp only[LJ,Bool.not_eq_false',decide_eq_false_iff_not] at hc;obtain⟨⟨⟨⟨⟨c1,c2⟩,c3⟩,c4⟩,c5⟩,dP⟩:=hc;have Bf:n≠0:=by intro e;subst e;simp at c1
 have hzl:z.cells.length=n:=gy c5;simp only[kr,cR] at c4;have b1:=sE c4.1;have b2:=sE c4.2;obtain⟨cz,z1,z2,z3,_,z5⟩:=Of (g:=g) hz w;simp only[hi,bC] at z5;have l1:=(qZ h hlx).1;have k1:=(qZ h mh).1;generalize hle:a.eval lx=cl at l1;generalize s_:a.eval cx=cc at k1;cases l1;cases k1;have Be:=X0 hn hi;have L7:(i.bytes:Int) * c<=281474976710656:=by
  have h1:(i.bytes:Int) * c=((c.toNat * i.bytes:Nat):Int):=by
   rw[Int.natCast_mul,Int.toNat_of_nonneg (by omega),Int.mul_comm]
  rw[h1];omega
 have cX:=run_make (P:=P) w t e i cz ht hi z5 k k' l c (by omega) (by omega) L7 (by omega)
 have F_:(execOp a.eval o).run P w=.ok (.value (.slice (some ⟨w.heap.size,0,none⟩) l.toNat c.toNat)) (w.alloc (.cells (madeCells cz.cells (c.toNat * i.size)) e)):=by
  simp[execOp,ho,hle,s_,cX]
 constructor
 ·intro h0;subst h0;refine⟨_,_,_,F_,h.settle [] (some (.slot B.d (o.dst.getD 0))) (by simp) (λj hj=>Go.heap_alloc_old w _ hj) (λ_ _ e=>by simp at e) rfl rfl rfl,?_,λd hd=>?_,ga _⟩
  ·exact .sl (c:=w.heap.size) (o:=0) (λ_=>.nilFunc) (λ_ e=>by simp at e) (ga _) (λe=>absurd rfl e) (λ_ _ e=>by simp[q9] at e) (λ_ _ e=>by simp[q9] at e) (λ_ _ e=>by simp[q9] at e)
  ·refine⟨[],ziz (World.ownsRow_made w _ c.toNat (ga _) (by simp only[maxLen];omega) (by rw[size_madeCells,Be])),λc' eY=>?_⟩
   simp only[Value.ownBlock,aR] at eY;subst eY;refine⟨by simp[Gh.row,hd],λo' _ _=>by simp[Gh.row],λb hb e=>?_⟩
   have:=h.cN.lt b hb;simp only[Gh.row] at e;omega
 ·have hm:=znN z2 dP hzl Bf c.toNat
  have gX:=λx hx=>XT (v:=cz) (z:=z) (by
   simp only[kf,fJ] at hz;obtain⟨i',FW,zz,Oj,hv⟩:=hz;rw[hi] at FW;cases FW
   rw[Oj] at z5;cases z5;exact hv) x hx
  have mu:∀x∈q9 (List.replicate c.toNat z),∀sz xs o,x≠.sl sz xs o:=λx hx=>by
   obtain⟨y,hy,IV⟩:=List.mem_flatMap.1 hx;rw[(List.mem_replicate.1 hy).2] at IV;exact gX x IV
  have hv:(g.var s.H.aj.length w.heap.size).bM s.H.aj.length=w.heap.size:=by simp[Gh.var]
  rw[Be] at F_;refine⟨g.var s.H.aj.length w.heap.size,_,_,F_,?_,?_,λ_ _=>trivial,by simp[V.top,Hp.push]⟩
  ·rw[zb3];refine h.ru hm (j7 λx hx=>?_) λj x v hx dG=>⟨?_,λsz xs e=>mu x (qI hx) _ _ _ e⟩
   ·obtain⟨y,hy,IV⟩:=List.mem_flatMap.1 hx;rw[(List.mem_replicate.1 hy).2] at IV;exact cZ (T8 IV) (by omega)
   ·cases x with
    | sl sz xs o=>exact absurd rfl (mu _ (qI hx) sz xs o)
    | _=>trivial
  ·have:=aQ.sr (g:=g.var s.H.aj.length w.heap.size) (b:=s.H.aj.length) (off:=0) (show l.toNat<=c.toNat by omega)
   rw[hv] at this;exact this
def X7{sz:Nat}{xs:aA}(hs:∀y:V,y∈xs->y.cells.length=sz){c j:Nat}{y:V}(h:(q9 (xs.drop c))[j]?=some y):(q9 xs)[c * sz+j]?=some y :=
 xd (b:=xs.length) hs (by rw[List.take_length];exact h)
def znO(h:Rel B g s a w){t:aq}{x:aO}{lo:Option aO}{o:Oper}{v:V}{dy:aA}(hm:N_ P t x lo s.env=some (v,dy))(ho:o.op=.slice t x lo none none):gh P B { s with env:=dy } a w o v:=by
 unfold N_ at hm;split at hm<;>try (cases hm;done)
 rename_i e' sz xs e de k i ht hx mg;split at hm<;>try (cases hm;done)
 rename_i n hn;split at hm<;>simp only[aR,reduceCtorEq,bS] at hm;rename_i hc;obtain⟨rfl,rfl⟩:=hm;simp only[cR,decide_eq_true_eq] at hc;obtain⟨⟨c1,c2⟩,c3⟩:=hc;obtain rfl:=gy c1;have c3:=sE c3;have Om:=IZ h mg;obtain⟨g',k1,k2,k3,k4,_⟩:=gS h hx (.slot B.d (o.dst.getD 0));have X5:iy g' s.H.aj.length w (.slot B.d (o.dst.getD 0)) e n xs.length (a.eval x):=k3
 obtain⟨vs,eN,lG⟩:=X5;have hu:=run_underlying ht w;generalize hi:i.toNat=j at *;generalize Kv:a.eval x=cv at *;cases k2 with
 | sl f h1 h2 h3 h4 h5 h6 =>
  rename_i ad cap cb ro;have dK:=P_ (P:=P) (isSlice:=true) (lo:=some (.int k i)) (hi:=none) (Fk:=none) (len:=xs.length) (l:=j) (h:=xs.length) Om trivial rfl (by simp[kE,c2,hi]) c3 (ek _) h2 w
  have hlen:(xs.drop j).length=xs.length - j:=by simp
  have cX:(execOp a.eval o).run P w=.ok (.value (.slice (if cap=j then ad else ad.map (·.add (j * n))) (xs.length - j) (cap - j))) w:=by
   simp[execOp,ho,Kv,Instr.sliceAt,hu,Instr.slice,dK,kA hn]
  refine⟨g',_,w,cX,k1,?_,λd hd=>?_,cZ (j7 λy hy=>qg (Cj hy)) k4⟩
  ·rw[<- hlen];refine .sl (c:=cb) (o:=ro+j * n) (λq=>f (j * n+q)) (λy hy=>h1 y (Cj hy)) (by rw[hlen];omega) (λcG=>?_) (λq y hq=>h4 _ y (X7 h1 hq)) (λq y hq=>?_) (λq y hq=>h6 _ y (X7 h1 hq))
   ·have:0<xs.length - j:=by rw[<- hlen];exact Kk.2 cG
    rw[if_neg (by omega),h3 (by rintro rfl;simp at cG)]
    simp[Addr.add_lit]
   ·rw[cU];exact h5 _ y (X7 h1 hq)
  ·have Cq:o.dst.getD 0=d:=by rw[hd];rfl
   subst Cq;show iy g' s.H.aj.length w _ e n (xs.drop j).length _;rw[hlen];obtain⟨r1,⟨r2,r3⟩|⟨c,X8,oM,cur,r2,r3,r4,r5,r6,r7⟩⟩:=eN
   ·simp only[Value.slice.injEq] at r2;obtain⟨rfl,_,rfl⟩:=r2;have hj:j=0:=by omega
    subst hj;simp only[aU,r3,Nat.zero_sub];exact⟨[],⟨by simp,.inl ⟨rfl,rfl⟩⟩,λc hc=>(by cases hc)⟩
   ·simp only[Value.slice.injEq,cg] at r2;obtain⟨rfl,rfl⟩:=r2;obtain⟨o1,o2,o3⟩:=lG c rfl
    by_cases X9:cap=j
    ·rw[if_pos X9];have Fp:xs.length - j=0:=by omega
     rw[Fp,X9,Nat.sub_self];refine⟨[],⟨by simp,.inr ⟨c,X8,0,cur,rfl,r3,ek _,by simp[maxLen],.inl rfl,by simp⟩⟩,λc' eY=>?_⟩
     cases eY;exact⟨o1,λq q1 q2=>by simp only at q1 q2;omega,o3⟩
    ·rw[if_neg X9];simp only[bG,Addr.add_lit];have ej:cur.size=X8+cap * n:=by rcases r6 with r6|r6;omega;exact r6
     refine⟨vs.drop (j * n),⟨by rw[List.length_drop,r1,Nat.sub_mul],.inr ⟨c,X8+j * n,cap - j,cur,rfl,r3,by omega,by omega,.inr ?_,?_⟩⟩,λc' eY=>?_⟩
     ·rw[ej,cU,<- uS]
      congr 2
      omega
     ·rw[<- r7,<- List.drop_drop,List.drop_take,Nat.sub_mul]
     ·cases eY;refine⟨o1,λq q1 q2=>o2 q ?_ ?_,o3⟩
      ·simp only at q1 ⊢;have:j * n+(xs.length - j) * n=xs.length * n:=by rw[<- uS];congr 1;omega
       omega
      ·simp only at q2 ⊢;have:j * n+(cap - j) * n=cap * n:=by rw[<- uS];congr 1;omega
       omega
def zp0(h:Rel B g s a w){t:aq}{p:aO}{b off sz:Nat}{xs:aA}{e:aq}{cs:aA}{ty:aq}(sV:ka P t=some false)(hp:aB s.env p=some (.ptr b off))(hb:s.H.get b=some (.cells cs ty))
  (hc:cs[off]?=some (.sl sz xs (.yes e))) {o:Oper} (ho:o.op=.load t p) :
  gh P B { s with H:=s.H.set b (.cells (cs.set off (.sl sz xs .lock)) ty),lk:=(b,off)::s.lk } a w o (.sl sz xs (.yes e)):=by
 have p1:=(qZ h hp).1;generalize Qi:a.eval p=cp at p1;cases p1;have pH:s.H.aj[b]?=some (.cells cs ty):=by simpa[Hp.get,zV] using hb
 have lz:b<s.H.aj.length:=(eE.1 pH).1;obtain⟨arr,a1,a2,a3⟩:=h.cN.ok b _ pH;have cS:=h.cN.aI b _ pH;have EA:off<cs.length:=(eE.1 hc).1;have hoa:off<arr.size:=by omega
 have mY:arr[off]?=some arr[off]:=FM hoa;generalize arr[off]=cv at mY;obtain⟨c1,c2,c3,_⟩:=a3 off _ cv hc mY;have lG:iy g s.H.aj.length w (.cell b off) e sz xs.length cv:=c3;have eC:w.cell? ⟨g.bM b,off,none⟩=some cv:=by rw[cell_of_row w _ _ arr _ _ a1];exact mY
 have cX:(execOp a.eval o).run P w=.ok (.value cv) w:=by
  simp[execOp,ho,Qi,Instr.loadAt,Instr.sureAddr,loadVar,T' sV,eC]
 let l1:Loc:=.slot B.d (o.dst.getD 0)
 let g':Gh:={ g with own:=λc=>if cv.ownBlock=some c then some l1 else g.own c,lk:=λb' o'=>if b'=b/\o'=off then cv else g.lk b' o' }
 have L8:∀c,(∀l,some (Loc.cell b off)=some l->g.own c≠some l)->cv.ownBlock≠some c:=λc eY e=>by
  obtain⟨vs,_,Ol⟩:=lG;exact eY _ rfl (Ol c e).1
 have fT:lS B.d (some b) (some (.cell b off)) s.H.aj.length g w g' w :=
  ⟨⟨λ_ _ _ e=>e,λ_ _=>rfl,rfl,λ_ _ _ _ e=>e⟩,λ_ _ _ _=>rfl,λc _ eY=>by show(if _ then _ else _)=_;rw[if_neg (L8 c eY)],λ_ _ _ _=>rfl,ek _,
   λb' o' hl=>by show(if _ then _ else _)=_;rw[if_neg];rintro⟨rfl,rfl⟩;exact hl _ rfl rfl,λl hl=>.inr ⟨b,off,by cases hl;rfl,rfl⟩,λb' dK=>by cases dK;exact lz,λ_ _ _ _=>rfl,rfl,rfl,rfl⟩
 have gX:¬j8 s.H.aj b off:=by
  rintro⟨cs',t',mc,Bd,h1,h2⟩;rw[pH] at h1;cases h1;rw[hc] at h2;cases h2
 have hlen:(s.H.set b (.cells (cs.set off (.sl sz xs .lock)) ty)).aj.length=s.H.aj.length:=by simp[Hp.set]
 have BA:(s.H.set b (.cells (cs.set off (.sl sz xs .lock)) ty)).aj[b]?=some (.cells (cs.set off (.sl sz xs .lock)) ty):=by simp[Hp.set,lz]
 have tj:∀b',b'≠b->(s.H.set b (.cells (cs.set off (.sl sz xs .lock)) ty)).aj[b']?=s.H.aj[b']?:=λb' cG=>by simp[Hp.set,Bs (Ne.symm cG)]
 have DF:(br.cells (cs.set off (.sl sz xs .lock)) ty).top<=(br.cells cs ty).top :=
  XJ (cs:=cs) (ek _) (by show aI xs<=_;exact qg (qI hc))
 have Qr:∀b' o',j8 s.H.aj b' o'->j8 (s.H.set b (.cells (cs.set off (.sl sz xs .lock)) ty)).aj b' o':=by
  rintro b' o' ⟨cs',t',mc,Bd,h1,h2⟩
  by_cases e1:b'=b
  ·subst e1;rw[pH] at h1;cases h1
   by_cases e2:o'=off
   ·subst e2;exact⟨_,_,sz,xs,BA,FN EA⟩
   ·exact⟨_,_,mc,Bd,BA,by rw[Bs (Ne.symm e2)];exact h2⟩
  ·exact⟨cs',t',mc,Bd,by rw[tj b' e1];exact h1,h2⟩
 have hR:Rel B g' { s with H:=s.H.set b (.cells (cs.set off (.sl sz xs .lock)) ty),lk:=(b,off)::s.lk } a w:=by
  refine h.iB (s':={ s with H:=s.H.set b (.cells (cs.set off (.sl sz xs .lock)) ty),lk:=(b,off)::s.lk }) fT (by rw[hlen];exact ek _) (λb' _ cG=>tj b' λe=>cG (by rw[e])) (λb' x ud hx=>?_) (λb' h1 h2=>?_) (λb1 b2 h1 h2=>?_) h.cN.mem (λc l iL=>?_)
   (λb' j e=>by cases e;exact gX) rfl rfl (λt x hx=>⟨x,hx,.inl ⟨rfl,λe=>by cases e⟩⟩) (λb' x hx=>?_) (λb' o' hl=>Qr b' o' (h.gR b' o' hl)) (λq hq=>?_) (λ_ e=>by cases e)
  ·have dK:b'=b:=by
    rcases ud with ud|ud
    ·cases ud;rfl
    ·have:=(eE.1 hx).1;rw[hlen] at this;omega
   subst dK;rw[BA] at hx;cases hx;rw[hlen];refine⟨⟨arr,a1,by simpa using a2,λj x v hx hv=>?_⟩,cZ DF cS⟩
   by_cases e2:j=off
   ·subst e2;rw[FN EA] at hx;cases hx;rw[mY] at hv;cases hv;refine⟨rfl,?_,trivial,?_⟩
    ·have:=c2.le fT.le (cZ (qg (qI hc)) cS);cases this with
     | sl f h1 h2 h3 h4 h5 h6=>exact .sl f h1 h2 h3 h4 h5 h6
    ·show cv=(if _ then _ else _)
     rw[if_pos ⟨rfl,rfl⟩]
   ·rw[Bs (Ne.symm e2)] at hx;obtain⟨d1,d2,d3,d4⟩:=a3 j x v hx hv;refine⟨d1,d2.le fT.le (cZ (qg (qI hx)) cS),c_.same fT (λe=>by cases e;exact e2 rfl) (λb1 h2 h3=>absurd h3 (Nat.not_lt.2 h2)) d3,?_⟩
    unfold LS at *;split
    ·show v=(if _ then _ else _)
     rw[if_neg (λe=>e2 e.2)];exact d4
    ·trivial
  ·rw[hlen] at h2;omega
  ·rw[hlen] at h2;omega
  ·simp only[g'] at iL;split at iL
   next e=>exact lG.lt c e
   ·exact h.cN.eK c l iL
  ·by_cases e1:b'=b
   ·subst e1;rw[show({ s with H:=s.H.set b' (.cells (cs.set off (.sl sz xs .lock)) ty),lk:=(b',off)::s.lk }:St).H.aj[b']?=_ from BA] at hx;cases hx;rcases h.aW b' _ pH with h1|⟨m,h1,h2⟩|⟨y,h1,h2⟩
    ·exact .inl (cZ DF h1)
    ·exact .inr (.inl ⟨m,h1,cZ DF h2⟩)
    ·exact .inr (.inr ⟨y,h1,cZ DF h2⟩)
   ·rw[show({ s with H:=s.H.set b (.cells (cs.set off (.sl sz xs .lock)) ty),lk:=(b,off)::s.lk }:St).H.aj[b']?=s.H.aj[b']? from tj b' e1] at hx;exact h.aW b' x hx
  ·rcases dh.1 hq with rfl|hq
   ·exact λhl=>gX (h.gR b off hl)
   ·exact h.nw q hq
 have htx:aI xs<=s.H.aj.length:=cZ (show(V.sl sz xs (.yes e)).top<=_ from qg (qI hc)) cS;refine⟨g',cv,w,cX,hR,c2.le fT.le (cZ (qg (qI hc)) cS),λd hd=>?_,by rw[hlen];exact htx⟩
 obtain⟨vs,Ug,Ol⟩:=lG;refine⟨vs,Ug,λc eY=>⟨?_,(Ol c eY).2.1,?_⟩⟩
 ·show(if _ then _ else _)=_
  rw[if_pos eY];simp only[l1,hd,t_]
 ·rw[hlen];exact(Ol c eY).2.2
end
section
variable{P:aM}{B:eu}{g:Gh}{s:St}{a:Act}{w:aK}
def zrB{s':St}{o:Oper}{v:V}(h:gh P B s' a w o v){K:Act->aK->Prop}{Q:Exit->Act->aK->Prop}(hk:∀g' cv w',Ew B g' s' a w' o.dst v cv->K (a.put o.dst cv) w'):o.wp P a w K Q:=by
 obtain⟨g',cv,w',h1,h2⟩:=h;unfold Oper.wp;rw[h1,Oper.upon_value];exact hk g' cv w' h2
def wp_skip{s':St}{o:Oper}(h:oQ P B s' a w o){K:Act->aK->Prop}{Q:Exit->Act->aK->Prop}(hk:∀g' w',Rel B g' s' a w'->K (a.put o.dst undef) w'):o.wp P a w K Q:=by
 obtain⟨g',w',h1,h2⟩:=h;unfold Oper.wp;rw[h1,Oper.upon_skip];exact hk g' w' h2
def ziK(h:Rel B g s a w){x:aO}{v:V}{dy:aA}(ht:take s.env x=some (v,dy)){o:Oper}(ho:o.op=.move x\/o.op=.assign x):gh P B { s with env:=dy } a w o v:=by
 obtain⟨g',h1,v1,v2,v3,_⟩:=gS h ht (.slot B.d (o.dst.getD 0));refine⟨g',a.eval x,w,by rcases ho with ho|ho<;>simp[execOp,ho],h1,v1,λd hd=>?_,v3⟩
 simpa[hd] using v2
def zp1(h:Rel B g s a w){x:aO}{v:V}{t ty:aq}{n:Int}(hx:aB s.env x=some v)(hl:kU P s.H t v=some n):(Builtin.len_ #[t] ty #[a.eval x]).run P w=.ok (.int .i64 n) w:=by
 have x1:=(qZ h hx).1;unfold kU at hl;split at hl
 next ht=>simp only[aR] at hl;subst hl;generalize a.eval x=c at x1;cases x1;simp[Builtin.len_,run_underlying ht,goInt,we]
 next ht=>simp only[aR] at hl;subst hl;rw[x1.pI];simp[Builtin.len_,run_underlying ht,goInt]
 next ht=>simp only[aR] at hl;subst hl;obtain⟨b,c,e,_⟩:=x1.F8;rw[e];simp[Builtin.len_,run_underlying ht,goInt]
 next ht=>simp only[aR] at hl;subst hl;generalize a.eval x=c at x1;cases x1;simp[Builtin.len_,run_underlying ht,goInt]
 next ht=>simp only[aR] at hl;subst hl;generalize a.eval x=c at x1;cases x1;simp[Builtin.len_,run_underlying ht,goInt]
 next ht=>simp only[aR] at hl;subst hl;generalize a.eval x=c at x1;cases x1;simp[Builtin.len_,run_underlying ht,goInt]
 ·rename_i b ht;split at hl<;>simp only[aR,reduceCtorEq] at hl;rename_i es hb;subst hl;obtain⟨en,ck,e1,e2,_⟩:=XH h hb;generalize a.eval x=c at x1;cases x1;have hg:(getObj (g.bM b)).run P w=.ok (.map en ck) w:=by simp[getObj,Sem.run,e1]
  have:es.length=en.size:=by have:=e2.len;simpa using this
  simp[Builtin.len_,run_underlying ht,hg,goInt,this]
 ·cases hl
def zgA(h:Rel B g s a w){x y:aO}{k k':IntKind}{m n:Int}(hx:aB s.env x=some (.int k m))(hy:aB s.env y=some (.int k' n))(ps:Array aq)(ty:aq) :
  (Builtin.min_ ps ty #[a.eval x,a.eval y]).run P w=.ok (.int k (if n<m then n else m)) w/\(Builtin.max_ ps ty #[a.eval x,a.eval y]).run P w=.ok (.int k (if n > m then n else m)) w:=by
 have x1:=(qZ h hx).1;have y1:=(qZ h hy).1;generalize a.eval x=c at x1;generalize a.eval y=d at y1;cases x1;cases y1;constructor
 ·simp[Builtin.min_,Builtin.min2]
 ·simp[Builtin.max_,Builtin.max2]
end
section
variable{P:aM}{B:eu}{g:Gh}{s:St}{a:Act}{w:aK}
structure lZ(d:Nat)(H:Hp)(g:Gh)(w:aK)(H':Hp)(g':Gh)(w':aK):Prop where
 cN:rj g' H'.aj w'
 fr:Fr d H.aj g w g' w'
 len:H.aj.length<=H'.aj.length
 dA:∀b,H.aj.length<=b->b<H'.aj.length->w.heap.size<=g'.bM b
 aW:∀(b:Nat)(x:br),H'.aj[b]?=some x->x.top<=b+1\/(∃m,(b,m)∈H'.aW/\x.top<=m)\/∃y:br,H.aj[b]?=some y/\x.top<=y.top
 uA:∀p∈H.aW,p∈H'.aW
 gR:∀b off,j8 H.aj b off->j8 H'.aj b off
def hO(d:Nat)(H:Hp)(g:Gh)(w:aK)(l:Loc)(out:Out)(H':Hp):Ending->aK->Prop
 | .returned cv,w'=>∃v g',out=.ret v/\lZ d H g w H' g' w'/\aQ g' v cv/\c_ g' H'.aj.length w' l v cv/\v.top<=H'.aj.length
 | .panicked chain,w'=>∃v cv g',out=.p7 v/\chain=[{ v:=cv,recovered:=false }]/\lZ d H g w H' g' w'/\aQ g' v cv/\v.top<=H'.aj.length
 | .outgrown,_=>False
def ziL(args:aA):Prop:=∀x∈args,∀sz xs e,x≠.sl sz xs (.yes e)
structure gz(g:Gh)(n:Nat)(args:aA)(bx:dI):Prop where
 len:args.length=bx.size
 rel:∀(j:Nat)(x:V)(v:aS),args[j]?=some x->bx[j]?=some v->aQ g x v
 top:aI args<=n
 no:ziL args
def L9(P:aM)(gl:Nat->Nat->cP)(call:FuncId->aA->Hp->Option (Out×Hp))(d:Nat):Prop :=
 ∀f args H out H',call f args H=some (out,H')->∀g w bx l,lg P gl g->rj g H.aj w->gz g H.aj.length args bx->Calls P f bx w (hO d H g w l out H')
def rm.mono{d d' n:Nat}(h:d<=d'){c:Nat}(hp:rm d' n g w c):rm d n g w c :=
 ⟨hp.1,hp.2.1,hp.2.2.imp id λ⟨k,t,e,hk⟩=>⟨k,t,e,Nat.lt_of_le_of_lt h hk⟩⟩
def Fr.mono{d d':Nat}(h:d<=d'){bs:List br}{g':Gh}{w':aK}(hf:Fr d bs g w g' w'):Fr d' bs g w g' w' :=
 ⟨hf.le,λc hc=>hf.heap c (hc.mono h),λc hc=>hf.own c (hc.mono h),λc hc=>hf.M c (hc.mono h),hf.size,hf.lk,hf.os,hf.tape,hf.output⟩
def c_.after{d dd t:Nat}(hd:d<dd){H H':Hp}{g':Gh}{w':aK}(hA:lZ d H g w H' g' w'){x:V}{cv:aS}(h:c_ g H.aj.length w (.slot dd t) x cv):c_ g' H'.aj.length w' (.slot dd t) x cv:=by
 unfold c_ at *;split
 ·rename_i sz xs e;have h':iy g H.aj.length w (.slot dd t) e sz xs.length cv:=h;have bD:=h'.lt;obtain⟨vs,h1,h2⟩:=h';have hp:∀c,cv.ownBlock=some c->rm d H.aj.length g w c:=λc hc=>⟨bD c hc,(h2 c hc).2.2,.inr ⟨dd,t,(h2 c hc).1,hd⟩⟩;refine⟨vs,zb0 h1 λc hc=>hA.fr.heap c (hp c hc),λc hc=>⟨?_,?_,λb hb e=>?_⟩⟩
  ·rw[hA.fr.own c (hp c hc)];exact(h2 c hc).1
  ·exact(h2 c hc).2.1.eq λo=>hA.fr.M c (hp c hc) o
  ·rcases lP b H.aj.length with dK|dK
   ·exact(h2 c hc).2.2 b dK ((hA.fr.le.bM b dK).symm.trans e)
   ·have:=hA.dA b dK hb;have:=bD c hc;omega
 ·trivial
def Rel.call(h:Rel B g s a w){d:Nat}(hd:d<B.d){H':Hp}{g':Gh}{w':aK}(hA:lZ d s.H g w H' g' w'):Rel B g' { s with H:=H' } a w':=by
 refine { cN:=hA.cN,len:=h.len,env:=λt x v hx hv=>?_,cW:=λt x hx=>cZ (h.cW t x hx) hA.len,n0:=cZ h.n0 hA.len,aW:=λb x hx=>?_,dA:=λb h1 h2=>?_,fr:=?_,gR:=λb off hl=>hA.gR b off (h.gR b off hl),nw:=h.nw,cQ:=λp hp=>?_,dD:=h.dD,defers:=λj x q hx hq=>(h.defers j x q hx hq).le hA.fr.le hA.len,marks:=λdm Uh D hD=>?_,iJ:=h.iJ }
 ·obtain⟨h1,h2⟩:=h.env t x v hx hv;exact⟨h1.le hA.fr.le (h.cW t x hx),h2.after hd hA⟩
 ·rcases hA.aW b x hx with h1|h1|⟨y,h1,h2⟩
  ·exact .inl h1
  ·exact .inr (.inl h1)
  ·rcases h.aW b y h1 with h3|⟨m,h3,h4⟩|⟨z,h3,h4⟩
   ·exact .inl (cZ h2 h3)
   ·exact .inr (.inl ⟨m,hA.uA _ h3,cZ h2 h4⟩)
   ·exact .inr (.inr ⟨z,h3,cZ h2 h4⟩)
 ·rcases lP b s.H.aj.length with h3|h3
  ·rw[hA.fr.le.bM b h3];exact h.dA b h1 h3
  ·exact cZ h.fr.size (hA.dA b h3 h2)
 ·exact h.fr.trans h.n0 h.dA (λb off hl=>h.gR b off (.inl hl)) (hA.fr.mono (Nat.le_of_lt hd))
 ·obtain⟨p1,p2,p3,p4,p5⟩:=h.cQ p hp;refine⟨p1,p2.le hA.fr.le p4,p3.after hd hA,cZ p4 hA.len,λb off e=>?_⟩;rw[hA.fr.lk b off (h.gR b off (.inr ⟨p,hp,e⟩))];exact p5 b off e
 ·obtain⟨h0,h1,h2,h3⟩:=h.marks dm Uh D hD;have bD:D<w.heap.size:=(sQ.1 h1).1;have hp:rm d s.H.aj.length g w D:=⟨bD,h2,.inl h3⟩;refine⟨h0,(hA.fr.heap D hp).trans h1,λb hb e=>?_,(hA.fr.own D hp).trans h3⟩;rcases lP b s.H.aj.length with h4|h4
  ·rw[hA.fr.le.bM b h4] at e;exact h2 b h4 e
  ·have:=hA.dA b h4 hb;omega
structure Ends(P:aM)(B:eu)(o:Oper)(r:OR)(s':St)(K:Act->aK->Prop)(Q:Exit->Act->aK->Prop):Prop where
 val:∀v,r=.val v->∀g' cv a' w',Ew B g' s' a' w' o.dst v cv->K (a'.put o.dst cv) w'
 skip:r=.skip->∀g' a' w',Rel B g' s' a' w'->K (a'.put o.dst undef) w'
 p7:∀v,r=.p7 v->∀g' cv a' w',Rel B g' s' a' w'->aQ g' v cv->v.top<=s'.H.aj.length->Q (.panic [{ v:=cv,recovered:=false }]) a' w'
def xL(P:aM):Prop:=∀(f:FuncId)(fn:Func),P.funcs[f]?=some fn->(fn.name == "runtime.NumGoroutine")=false
def vQ(P:aM):Prop:=∀(f:FuncId)(fn:Func)(args:aA)(v:V),P.funcs[f]?=some fn->fn.body=none->Xr fn.name args=some v ->
 ∀g n bx w,gz g n args bx->∃cv,(callFunc f bx).run P w=.ok (.value cv) w/\aQ g v cv/\v.top=0/\(∀k l,c_ g k w l v cv)
def ziM{cx:Cx}(hP:cx.P=P)(gT:xL P)(eV:vQ P){d:Nat}(hd:d<B.d)(ez:lg P cx.gl B.g)(fN:L9 P cx.gl cx.call d)(h:Rel B g s a w){f:FuncId}{args:aA}{bx:dI}{r:OR}{H':Hp}
  (hc:cx.dZ f args s.H=some (r,H')) (gO:gz g s.H.aj.length args bx) {o:Oper} (ho:(execOp a.eval o).run P w=(callFunc f bx).run P w) {K:Act->aK->Prop} {Q:Exit->Act->aK->Prop} (hE:Ends P B o r { s with H:=H' } K Q):o.wp P a w K Q:=by
 have Ga:lg P cx.gl g:=ez.le h.fr.le;unfold Cx.dZ at hc;rw[hP] at hc;cases hf:P.funcs[f]? with
 | none=>rw[hf] at hc;cases hc
 | some fn =>
  rw[hf] at hc;simp only at hc;cases hb:fn.body with
  | none =>
   rw[hb] at hc;simp only at hc;split at hc<;>simp only[aR,reduceCtorEq,bS] at hc;rename_i v hv;obtain⟨rfl,rfl⟩:=hc;obtain⟨cv,h1,h2,h3,h4⟩:=eV f fn args v hf hb hv g _ bx w gO;unfold Oper.wp;rw[ho,h1,Oper.upon_value];exact hE.val v rfl g cv a w ⟨h,h2,λ_ _=>h4 _ _,by omega⟩
  | some c =>
   rw[hb] at hc;simp only at hc;split at hc<;>simp only[aR,reduceCtorEq] at hc;rename_i res pJ;obtain⟨out,H1⟩:=res;have cX:(callFunc f bx).run P w=.ok (.enter f bx) w:=by
    have cG:fn.name≠ "runtime.NumGoroutine":=by simpa using gT f fn hf
    simp[callFunc,hf,hb,cG]
   unfold Oper.wp;rw[ho,cX,Oper.upon_enter];refine Calls.mono (fN f args s.H out H1 pJ g w bx (.slot B.d (o.dst.getD 0)) Ga h.cN gO) λe w' hp=>?_;cases e with
   | returned cv =>
    obtain⟨v,g',rfl,hA,v1,v2,v3⟩:=hp;simp only[IN,bS] at hc;obtain⟨rfl,rfl⟩:=hc;exact hE.val v rfl g' cv a w' ⟨h.call hd hA,v1,λt ht=>by simpa[ht] using v2,v3⟩
   | panicked chain =>
    obtain⟨v,cv,g',rfl,rfl,hA,v1,v3⟩:=hp;simp only[IN,bS] at hc;obtain⟨rfl,rfl⟩:=hc;exact hE.p7 v rfl g' cv a w' (h.call hd hA) v1 v3
   | outgrown=>exact hp.elim
end
section
variable{P:aM}{B:eu}{g:Gh}{s:St}{a:Act}{w:aK}
def zhu(l:aA):ziL (l.map aT):=λx hx sz xs e h=>by
 obtain⟨y,_,rfl⟩:=ni.1 hx;exact yx y sz xs e h
def gz.Gb{n:Nat}{l:aA}{arr:dI}(hl:l.length=arr.size)(hr:∀(j:Nat)(x:V)(v:aS),l[j]?=some x->arr[j]?=some v->aQ g x v)(ht:aI l<=n):gz g n (l.map aT) arr :=
 ⟨by simpa using hl,λj x v hx hv=>by
  simp only[mS,l8] at hx;obtain⟨y,hy,rfl⟩:=hx
  exact(hr j y v hy hv).aT,by rw[kL];exact ht,zhu l⟩
def yd{l m:aA}{x y:dI}(h1:l.length=x.size)(hl:∀(j:Nat)(z:V)(v:aS),l[j]?=some z->x[j]?=some v->aQ g z v)(hm:∀(j:Nat)(z:V)(v:aS),m[j]?=some z->y[j]?=some v->aQ g z v) :
  ∀(j:Nat)(z:V)(v:aS),(l++m)[j]?=some z->(x++y)[j]?=some v->aQ g z v:=λj z v hz hv=>by
 rcases lP j l.length with h|h
 ·rw[mz h] at hz;rw[Array.getElem?_append_left (by omega)] at hv
  exact hl j z v hz hv
 ·rw[oe h] at hz;rw[Array.getElem?_append_right (by omega),<- h1] at hv
  exact hm _ z v hz hv
def vx{l m:aA}{n:Nat}(h1:aI l<=n)(h2:aI m<=n):aI (l++m)<=n :=
 j7 λ_ hx=>(uo.1 hx).elim (λh=>cZ (qg h) h1) (λh=>cZ (qg h) h2)
def zmz{t:aq}{v rv:V}{cv:aS}{name:String}{f:FuncId}(hm:Xq P t v name=some (f,rv))(k:Nat):rv=v/\(method (k+1) t cv name).run P w=.ok (f,cv) w:=by
 simp only[Xq,Option.bind_eq_bind,fJ] at hm;obtain⟨i,hi,m,hmm,hm⟩:=hm;split at hm<;>try (cases hm;done)
 rename_i hp;simp only[fJ] at hm;obtain⟨⟨f',pr⟩,hf,ds,Qs,hm⟩:=hm;have tu:m.path=#[]:=by simpa using hp
 simp only at hm;split at hm<;>simp only[aR,reduceCtorEq,bS] at hm
 ·obtain⟨rfl,rfl⟩:=hm;refine⟨rfl,?_⟩;simp[method,typeInfo,hi,hmm,tu,follow,hf,receiverAt,run_underlying Qs,Place.get]
 ·obtain⟨rfl,rfl⟩:=hm;refine⟨rfl,?_⟩;cases ds<;>first
   |(simp[method,typeInfo,hi,hmm,tu,follow,hf,receiverAt,run_underlying Qs,Place.get];done)
   |(exfalso;simp_all;done)
def zkt(P:aM):∃k,P.types.size+Made.depth=k+1:=⟨P.types.size+(Made.depth - 1),by simp[Made.depth]⟩
def ziN{cx:Cx}(hP:cx.P=P)(gT:xL P)(eV:vQ P){d:Nat}(hd:d<B.d)(ez:lg P cx.gl B.g)(fN:L9 P cx.gl cx.call d)(h:Rel B g s a w){fv:V}{args:aA}{fn:Fn}{fa fc bx:dI}{r:OR}{H':Hp}
  (hc:cx.s8 fv args s.H=some (r,H')) (Ui:aQ g fv (.func fn fa fc)) (Uj:fv.top<=s.H.aj.length) (hl:args.length=bx.size) (hr:∀(j:Nat)(x:V)(v:aS),args[j]?=some x->bx[j]?=some v->aQ g x v) (ht:aI args<=s.H.aj.length)
  {o:Oper} (ho:(execOp a.eval o).run P w=(invoke (.fn fn fc) (fa++bx)).run P w) {K:Act->aK->Prop} {Q:Exit->Act->aK->Prop} (hE:Ends P B o r { s with H:=H' } K Q):o.wp P a w K Q:=by
 unfold Cx.s8 at hc;split at hc
 ·rename_i f first cap
  simp only[fj] at hc;cases Ui with
  | fn f1 f2 f3 f4 =>
   have Uk:aI first<=s.H.aj.length/\aI cap<=s.H.aj.length:=uu.1 Uj
   refine ziM hP gT eV hd ez fN h hc (bx:=fa++bx++fc) (gz.Gb (by simp[f1,f2,hl]) (yd (by simp[f1,hl]) (yd f1 f3 hr) f4) (vx (vx Uk.1 ht) Uk.2)) ?_ hE
   rw[ho];rfl
 ·rename_i name first cap
  split at hc<;>try (cases hc;done)
  rename_i t v rest Qt;split at hc<;>try (cases hc;done)
  rename_i f rv hm;rw[hP] at hm;simp only[fj] at hc;cases Ui with
  | fn f1 f2 f3 f4 =>
   have Uk:aI first<=s.H.aj.length/\aI cap<=s.H.aj.length:=uu.1 Uj
   have eD:=yd f1 f3 hr;have hlen:(first++args).length=(fa++bx).size:=by simp[f1,hl]
   have cS:=vx Uk.1 ht;rw[Qt] at eD hlen cS;have h0:0<(fa++bx).size:=by rw[<- hlen];simp
   have mF:=eD 0 _ _ rfl (FM h0);generalize HZ:(fa++bx)[0]=cr at mF;cases mF with
   | fq hv =>
    rename_i cv;obtain⟨k,hk⟩:=zkt P;obtain⟨rfl,hmr⟩:=zmz (P:=P) (w:=w) (cv:=cv) hm k;have BB:(fa++bx)[0]?=some (.iface t cv):=by rw[FM h0,HZ]
    refine ziM hP gT eV hd ez fN h hc (bx:=#[cv]++(fa++bx).extract 1 (fa++bx).size) (gz.Gb ?_ (λj x u hx hu=>?_) ?_) ?_ hE
    ·simp only[bq] at hlen;simp only[bq,Array.size_append,Array.size_extract,List.size_toArray,List.length_nil] at *;omega
    ·cases j with
     | zero =>
      rw[Array.getElem?_append_left (by simp)] at hu
      simp only[Ba,aR,List.getElem?_toArray] at hx hu;subst hx;subst hu;exact hv
     | succ j =>
      refine eD (j+1) x u (by simpa using hx) ?_
      rw[Array.getElem?_append_right (by simp)] at hu
      simp only[List.size_toArray,bq,List.length_nil,cK,Nat.add_sub_cancel] at hu;rw[Array.getElem?_extract] at hu;split at hu
      ·rw[Nat.add_comm] at hu;exact hu
      ·cases hu
    ·exact j7 λx hx=>by
      rcases dh.1 hx with rfl|hx
      ·exact cZ (show _<=(V.fq t x).top from ek _) (cZ (qg (eS ..)) cS)
      ·exact cZ (qg (dB _ hx)) cS
    ·rw[ho];simp only[invoke,BB,callMethod];simp[hk,hmr]
 ·cases hc
end
section
variable{P:aM}{B:eu}{g:Gh}{s:St}{a:Act}{w:aK}
def sk{args:ot}{x y:aO}(h:args.toList=[x,y]):args=#[x,y]:=by
 apply Array.ext';simpa using h
def zsw{args:ot}{x:aO}(h:args.toList=[x]):args=#[x]:=by
 apply Array.ext';simpa using h
def znP{args:Array aq}{x y:aq}(h:args.toList=[x,y]):args=#[x,y]:=by
 apply Array.ext';simpa using h
def zrC{args:Array aq}{x:aq}(h:args.toList=[x]):args=#[x]:=by
 apply Array.ext';simpa using h
def zku{cx:Cx}(hP:cx.P=P)(h:Rel B g s a w){b:Builtin}{ts:Array aq}{args:ot}{r:OR}{dy:aA}(hb:cx.builtin b ts args s.env s.H=some (r,dy)){o:Oper}{c:Call}(ho:o.op=.call c)(hc:c.callee=.builtin b)(X_:c.argTypes=ts)(gO:c.args=args) :
  ∃v,r=.val v/\gh P B { s with env:=dy } a w o v:=by
 have cX:∀m:Sem aS,(∀x,builtin b ts o.type x (args.map a.eval)=(do pure (.value (<- m))))->∀cv w',m.run P w=.ok cv w'->(execOp a.eval o).run P w=.ok (.value cv) w':=by
  intro m hm cv w' hr;simp[execOp,ho,resolve,hc,X_,gO,invoke,hm,hr]
 unfold Cx.builtin at hb;split at hb
 next x t hx ht=>have e1:=zsw hx;have e2:=zrC ht;subst e1;subst e2;simp only[Option.bind_eq_bind,fJ,aR,bS] at hb;obtain⟨v,hv,n,hn,rfl,rfl⟩:=hb;rw[hP] at hn;exact⟨_,rfl,g,.int .i64 n,w,cX (Builtin.len_ #[t] o.type #[a.eval x]) (λ_=>by simp[builtin]) _ _ (zp1 h hv hn),h,.int _ _,λ_ _=>trivial,ga _⟩
 ·rename_i x y t u hx ht;have e1:=sk hx;have e2:=znP ht;subst e1;subst e2;split at hb<;>try (cases hb;done)
  rename_i L_;have e3:t=u:=gy (by simpa using L_)
  subst e3;simp only[Option.bind_eq_bind,fJ,aR,bS] at hb;obtain⟨yv,hy,⟨v,bK⟩,mC,r',Uf,rfl,rfl⟩:=hb;rw[hP] at Uf;obtain⟨g',cv,w',h1,h2,h3,h4,h5⟩:=rz (ty:=o.type) h hy mC Uf (o.dst.getD 0);exact⟨_,rfl,g',cv,w',cX (Builtin.append_ #[t,t] o.type #[a.eval x,a.eval y]) (λ_=>by simp[builtin]) _ _ h1,h2,h3,λd hd=>by simpa[hd] using h4,h5⟩
 next x y hx=>have e1:=sk hx;subst e1;simp only[Option.bind_eq_bind,fJ] at hb;obtain⟨u,hu,v,hv,hb⟩:=hb;split at hb<;>simp only[aR,reduceCtorEq,bS] at hb;obtain⟨rfl,rfl⟩:=hb;exact⟨_,rfl,g,_,w,cX (Builtin.min_ ts o.type #[a.eval x,a.eval y]) (λ_=>by simp[builtin]) _ _ (zgA h hu hv ts o.type).1,h,.int _ _,λ_ _=>trivial,ga _⟩
 next x y hx=>have e1:=sk hx;subst e1;simp only[Option.bind_eq_bind,fJ] at hb;obtain⟨u,hu,v,hv,hb⟩:=hb;split at hb<;>simp only[aR,reduceCtorEq,bS] at hb;obtain⟨rfl,rfl⟩:=hb;exact⟨_,rfl,g,_,w,cX (Builtin.max_ ts o.type #[a.eval x,a.eval y]) (λ_=>by simp[builtin]) _ _ (zgA h hu hv ts o.type).2,h,.int _ _,λ_ _=>trivial,ga _⟩
 ·cases hb
end
section
variable{P:aM}{B:eu}{g:Gh}{s:St}{a:Act}{w:aK}
def Gh.fE(g:Gh)(b u:Nat)(v:aS)(own:Nat->Option Loc):Gh :=
 {g with gC:=λb' u'=>if b'=b/\u'=u then some v else g.gC b' u',own:=own }
def ziO{H:Hp}{Fh:List br}(h:T9 Fh H){b:Nat}{x0 x:br}{v:V}(hb:H.aj[b]?=some x0)(iz:x.top<=max x0.top v.top):T9 Fh ((H.set b x).bI b v):=by
 have lz:b<H.aj.length:=(eE.1 hb).1;have nq:((H.set b x).bI b v).aj=H.aj.set b x:=by simp only[Hp.bI,Hp.set];split<;>rfl
 have eL:∀p∈H.aW,p∈((H.set b x).bI b v).aW:=by
  intro p hp;simp only[Hp.bI,Hp.set];split
  ·exact hp
  ·exact dB _ hp
 intro b' y hy;rw[nq] at hy
 by_cases e:b'=b
 ·subst e;rw[FN lz] at hy;cases hy;rcases Nat.le_total x0.top v.top with h2|h2
  ·rw[Nat.max_eq_right h2] at iz
   by_cases h3:v.top<=b'+1
   ·exact .inl (cZ iz h3)
   ·refine .inr (.inl ⟨v.top,?_,iz⟩);simp only[Hp.bI,Hp.set];rw[if_neg h3];exact eS ..
  ·rw[Nat.max_eq_left h2] at iz;rcases h b' x0 hb with h1|⟨m,h1,h2⟩|⟨y,h1,h2⟩
   ·exact .inl (cZ iz h1)
   ·exact .inr (.inl ⟨m,eL _ h1,cZ iz h2⟩)
   ·exact .inr (.inr ⟨y,h1,cZ iz h2⟩)
 ·rw[Bs (λe'=>e e'.symm)] at hy;rcases h b' y hy with h1|⟨m,h1,h2⟩|h1
  ·exact .inl h1
  ·exact .inr (.inl ⟨m,eL _ h1,h2⟩)
  ·exact .inr (.inr h1)
def Rel.Gc(h:Rel B g s a w){b fE sz:Nat}{cs:aA}{e:aq}{x:br}{v:V}{g':Gh}{w':aK}(hb:s.H.get b=some (.ul fE sz cs e))
  (hs:lS B.d (some b) (some (.cell b 0)) s.H.aj.length g w g' w') (hM:g'.M=g.M) (r_:∀c o v,g.M c o=some v->w'.heap[c]?=w.heap[c]?) (CF:∀c l,g'.own c=some l->c<w'.heap.size)
  (dP:gG g' s.H.aj.length w' b x) (cS:x.top<=s.H.aj.length) (iz:x.top<=max (aI cs) v.top):Rel B g' { s with H:=(s.H.set b x).bI b v } a w':=by
 simp only[Hp.get,zV] at hb;have lz:b<s.H.aj.length:=(eE.1 hb).1;have nq:((s.H.set b x).bI b v).aj=s.H.aj.set b x:=by
  simp only[Hp.bI,Hp.set];split<;>rfl
 have hlen:((s.H.set b x).bI b v).aj.length=s.H.aj.length:=by rw[nq];simp
 have gX:∀off,¬j8 s.H.aj b off:=by
  rintro off ⟨cs',t',mc,Bd,h1,h2⟩;rw[hb] at h1;cases h1
 refine h.iB (s':={ s with H:=(s.H.set b x).bI b v }) hs (by rw[hlen];exact ek _) (λb' dK cG=>?_) (λb' y F5 hy=>?_) (λb' h1 h2=>?_) (λb1 b2 h1 h2=>?_) (λc o u hu=>?_) CF
  (λb' j e=>by cases e;exact gX 0) rfl rfl (λt y hy=>⟨y,hy,.inl ⟨rfl,λe=>by cases e⟩⟩) (ziO h.aW hb iz) (λb' off I0=>?_) h.nw (λ_ e=>by cases e)
 ·rw[nq,Bs (λe=>cG (by rw[e]))]
 ·have dK:b'=b:=by
   rcases F5 with F5|F5
   ·cases F5;rfl
   ·have:=(eE.1 hy).1;rw[hlen] at this;omega
  subst dK;rw[nq,FN lz] at hy;cases hy;rw[hlen];exact⟨dP,cS⟩
 ·rw[hlen] at h2;omega
 ·rw[hlen] at h2;omega
 ·rw[hM] at hu;rw[Oi (r_ c o u hu)];exact h.cN.mem c o u hu
 ·have h0:=h.gR b' off I0;have cG:b'≠b:=λe=>gX off (e ▸ h0);obtain⟨cs,t,sz,xs,h1,h2⟩:=h0;exact⟨cs,t,sz,xs,by rw[nq,Bs (λe'=>cG e'.symm)];exact h1,h2⟩
def Ul(h:Rel B g s a w){b fE sz:Nat}{cs:aA}{e:aq}(hb:s.H.get b=some (.ul fE sz cs e)):b<s.H.aj.length/\(g.own (g.bM b)=none):=by
 simp only[Hp.get,zV] at hb;have lz:b<s.H.aj.length:=(eE.1 hb).1;exact⟨lz,h.cN.dN b lz⟩
def Gh.Ma{n:Nat}{g:Gh}{b u:Nat}{v:aS}{own:Nat->Option Loc}(hf:g.gC b u=none):Gh.Le n g (g.fE b u v own):=by
 refine⟨λ_ _ _ e=>e,λ_ _=>rfl,rfl,λb' u' v' _ e=>?_⟩;simp only[Gh.fE];split
 next e'=>obtain⟨rfl,rfl⟩:=e';rw[hf] at e;cases e
 ·exact e
def iO:∀(l:aA),dz l=q9 l
 | []=>rfl
 | x::xs=>by simp[dz,q9,iO xs]
def Um(h:Rel B g s a w){b fE sz:Nat}{cs cs':aA}{e:aq}{c len cap c' CN oM:Nat}{vs Aw:dY}{v:V}{w':aK}(hb:s.H.get b=some (.ul fE sz cs e))(hu:IP g s.H.aj.length w b fE sz cs e c len cap vs)
  (tj:∀k,k<w.heap.size->k≠c->w'.heap[k]?=w.heap[k]?) (gp:w.heap.size<=w'.heap.size) (uy:w'.os=w.os) (ht:w'.tape=w.tape) (lH:w'.output=w.output) (eY:c'=c\/c'=w.heap.size)
  (eN:w'.ownsRow 0 e sz (.slice (some ⟨c',0,none⟩) CN oM) CN Aw) (ej:bN g cs' Aw) (cS:aI cs'<=s.H.aj.length) (iz:aI cs'<=max (aI cs) v.top) :
  ∃g',Rel B g' { s with H:=(s.H.set b (.ul (fE+1) sz cs' e)).bI b v } a w'/\aQ g' (.eo b (fE+1) CN) (.slice (some ⟨c',0,none⟩) CN oM):=by
 obtain⟨lz,CO⟩:=Ul h hb;have bD:c<w.heap.size:=(hu.row.lt c rfl).2;have Ya:c'<w'.heap.size:=(eN.lt c' rfl).2;have mu:∀k,k<w.heap.size->(∀b',some b=some b'->g.bM b'≠k)->(∀l,some (Loc.cell b 0)=some l->g.own k≠some l)->k≠c:=λk _ h1 h2 e=>by
  subst e;rcases hu.An with h3|h3
  ·exact h1 b rfl h3.symm
  ·exact h2 _ rfl h3
 let own:Nat->Option Loc:=λk=>if c'≠c/\k=c' then some (.cell b 0) else g.own k
 let g':Gh:=g.fE b (fE+1) (.slice (some ⟨c',0,none⟩) CN oM) own
 have lG:∀k,k<w.heap.size->own k=g.own k:=λk hk=>by
  show(if _ then _ else _)=_
  rw[if_neg];rintro⟨h1,rfl⟩;rcases eY with h2|h2
  ·exact h1 h2
  ·omega
 have hle:Gh.Le s.H.aj.length g g':=Gh.Ma (hu.fresh _ (Nat.lt_succ_self _));have Ge:g'.gC b (fE+1)=some (.slice (some ⟨c',0,none⟩) CN oM):=by simp[g',Gh.fE]
 have hS:lS B.d (some b) (some (.cell b 0)) s.H.aj.length g w g' w' :=
  ⟨hle,λk hk h1 h2=>tj k hk (mu k hk h1 h2),λk hk _=>lG k hk,λ_ _ _ _=>rfl,gp,λ_ _ _=>rfl,λl hl=>.inr ⟨b,0,by cases hl;rfl,rfl⟩,λb' dK=>by cases dK;exact lz,
   λb' u dK cG=>by
    show(if _ then _ else _)=_
    rw[if_neg];rintro⟨rfl,_⟩;exact cG rfl,uy,ht,lH⟩
 refine⟨g',h.Gc hb hS rfl (λk o x hx=>?_) (λk l hk=>?_) ⟨c',CN,oM,Aw,Ge,hu.pos,eN,?_,λo=>?_,λb' dK cG e'=>?_,ej.len,λj x u hx hv=>⟨ej.one j x hx,?_⟩,λu hlu=>?_⟩ cS iz,.eo Ge⟩
 ·refine tj k (vP (h.cN.mem k o x hx)) λe=>?_;subst e;rw[hu.M o] at hx;cases hx
 ·have:(if c'≠c/\k=c' then some (Loc.cell b 0) else g.own k)=some l:=hk
  split at this
  next e=>rw[e.2];exact Ya
  ·exact oY (h.cN.eK k l this) gp
 ·rcases eY with e'|e'
  ·subst e';rcases hu.An with h1|h1
   ·exact .inl h1
   ·refine .inr ?_;show(if _ then _ else _)=_
    rw[if_neg (λe=>e.1 rfl)];exact h1
  ·refine .inr ?_;show(if _ then _ else _)=_
   rw[if_pos ⟨by omega,rfl⟩]
 ·show g.M c' o=none;rcases eY with e'|e'
  ·subst e';exact hu.M o
  ·cases hm:g.M c' o with
   | none=>rfl
   | some x=>have:=vP (h.cN.mem _ _ _ hm);omega
 ·rcases eY with e2|e2
  ·subst e2;exact hu.others b' dK cG e'
  ·have:=h.cN.lt b' dK;have e3:g.bM b'=c':=e';omega
 ·exact(ej.rel j x u hx hv).le hle (cZ (qg (qI hx)) cS)
 ·show(if _ then _ else _)=_
  rw[if_neg (λe=>by omega)]
  exact hu.fresh u (by omega)
def ziP{w:aK}{e:aq}{sz c len cap k:Nat}{vs:dY}(h:w.ownsRow 0 e sz (.slice (some ⟨c,0,none⟩) len cap) len vs)(hk:k<=len):w.ownsRow 0 e sz (.slice (some ⟨c,0,none⟩) k cap) k (vs.take (k * sz)):=by
 obtain⟨hl,h|⟨c',oM,cur,hv,h0,hb,h1,h2,h3,hx⟩⟩:=h
 ·cases h.1
 ·cases hv;have hm:k * sz<=len * sz:=Nat.mul_le_mul_right _ hk;refine⟨by rw[Bb,hl];omega,.inr ⟨c,cap,cur,rfl,h0,hb,by omega,h2,h3,?_⟩⟩
  rw[<- hx,List.take_take,Nat.min_eq_left hm]
def lE(cs:aA)(k:Nat):aI (cs.take k)<=aI cs:=j7 λ_ hx=>qg (CB hx)
def zmA{cx:Cx}(hP:cx.P=P)(h:Rel B g s a w){t:aq}{x:aO}{lo hi:Option aO}{r:OR}{s':St}(aF:cx.oK t x lo hi s.env s.H s.lk s.defers=some (r,s')){o:Oper}(ho:o.op=.slice t x lo hi none) :
  ∃v,r=.val v/\gh P B s' a w o v:=by
 unfold Cx.oK at aF;rw[hP] at aF;split at aF<;>try (cases aF;done)
 rotate_left
 next b off len cap T6 FW hx mg Bc=>split at aF<;>simp only[aR,reduceCtorEq,bS] at aF;rename_i v hv;obtain⟨rfl,rfl⟩:=aF;obtain⟨x1,x2,_⟩:=qZ h hx;obtain⟨cv,e1,e2,e3,e4⟩:=zgy (P:=P) (n:=s.H.aj.length) hv x1 (IZ h mg) (IZ h Bc) x2 w;exact⟨v,rfl,g,cv,w,by simp[execOp,ho,e1],h,e2,λd _=>e4 _ _,e3⟩
 rename_i e' b u len k hh ht hx mg Bc;split at aF<;>try (cases aF;done)
 rename_i m fE sz cs e hm hb;split at aF<;>try (cases aF;done)
 rename_i hc;simp only[fj,jr,jU,aR,bS] at aF;obtain⟨rfl,rfl⟩:=aF;simp only[cR,decide_eq_true_eq] at hc;obtain⟨⟨hv,h0⟩,hle⟩:=hc;have hv:=gy hv;have hle:=sE hle;subst hv;obtain⟨x1,x2,_⟩:=qZ h hx;obtain⟨c,l0,cap,vs,hu,h2,h3⟩:=Ua h hb;have Yb:=IZ h mg;have Yc:=IZ h Bc;have pF:l0<=cap:=by
  obtain⟨_,hr|⟨_,_,_,hr,_,_,h5,_⟩⟩:=hu.row
  ·cases hr.1
  ·cases hr;exact h5
 generalize Kw:a.eval x=Un at x1;cases x1 with
 | eo Qu =>
  rw[hu.gC] at Qu;cases Qu;have dK:=P_ (P:=P) (isSlice:=true) (len:=len) (cap:=cap) (l:=0) (h:=hh.toNat) Yb Yc (by simp[kE,h0]) rfl (ga _) hle pF w
  obtain⟨g',r1,r2⟩:=Um (v:=.ef) h hb hu (λ_ _ _=>rfl) (ek _) rfl rfl rfl (.inl rfl) (ziP hu.row hle) (h2.take _) (cZ (lE _ _) h3) (cZ (lE _ _) (Eo _ _));refine⟨_,rfl,g',_,w,?_,r1,r2,λ_ _=>trivial,?_⟩
  ·have hs:(Instr.sliceAt t (.slice (some ⟨c,0,none⟩) len cap) (lo.map a.eval) (hi.map a.eval) none).run P w=.ok (.slice (some ⟨c,0,none⟩) hh.toNat cap) w:=by
    simp[Instr.sliceAt,run_underlying ht,Instr.slice,dK,kA hm,Addr.add_lit]
   simp[execOp,ho,Kw,hs]
  ·have:((s.H.set b (.ul (fE+1) sz (cs.take (hh.toNat * sz)) e)).bI b .ef).aj.length=s.H.aj.length:=by
    simp only[Hp.bI,Hp.set];split<;>simp
   rw[this];have:=(Ul h hb).1;simp only[V.top];omega
end
section
variable{P:aM}{B:eu}{g:Gh}{s:St}{a:Act}{w:aK}
def zex{α:Type}(l vs:List α)(off m:Nat)(h:off+vs.length<=m)(hm:m<=l.length):(storeCells l off vs).take m=storeCells (l.take m) off vs:=by
 apply Dt;intro j;rw[um,jx _ _ _ _ (by omega),jx _ _ _ _ (by rw[Bb];omega),um]
 by_cases hj:j<m
 ·simp[hj]
 ·have:¬(off<=j/\j<off+vs.length):=by omega
  simp[hj,this]
def ziQ(H:Hp)(b:Nat)(x:br)(v:V):((H.set b x).bI b v).aj.length=H.aj.length:=by
 simp only[Hp.bI,Hp.set];split<;>simp
def zmB{w:aK}{e:aq}{sz c len cap off:Nat}{vs news:dY}(h:w.ownsRow 0 e sz (.slice (some ⟨c,0,none⟩) len cap) len vs)(hf:off+news.length<=vs.length)(h1:∀u∈news,u.oneCell'=true) :
  ∃w',(Go.storeCells ⟨c,off,none⟩ news 0).run P w=.ok () w'/\w'.ownsRow 0 e sz (.slice (some ⟨c,0,none⟩) len cap) len (storeCells vs off news)/\(∀k,k≠c->w'.heap[k]?=w.heap[k]?)/\w'.heap.size=w.heap.size/\w'.os=w.os/\w'.tape=w.tape/\w'.output=w.output:=by
 obtain⟨hl,h|⟨c',oM,cur,hv,h0,hb,Fl,h2,h3,hx⟩⟩:=h
 ·cases h.1
 ·cases hv;have DD:vs.length<=cur.toList.length:=by rw[<- hx];simp;omega
  have lq:cur.toList.take off++news++cur.toList.drop (off+news.length)=storeCells cur.toList off news:=by
   have oO:cur.toList=cur.toList.take off++(cur.toList.drop off).take news.length++cur.toList.drop (off+news.length):=by
    rw[b_,<- List.drop_drop,FO,FO]
   have hlen:(cur.toList.take off).length=off:=by rw[Bb];omega
   have:=wm news ((cur.toList.drop off).take news.length) (cur.toList.take off) (cur.toList.drop (off+news.length)) (by rw[Bb,List.length_drop];omega)
   rw[hlen,<- oO] at this;rw[this]
  have eM:=run_storeCells_at P c off e news 0 cur w hb (by simp at DD ⊢;omega) h1
  simp only[cL] at eM;rw[lq] at eM;refine⟨_,eM,⟨by rw[kY];exact hl,.inr ⟨c,cap,_,rfl,h0,setRow_heap w c _ _ _ _ hb,Fl,h2,by simp[kY,h3],?_⟩⟩,λk hk=>setRow_other w c k _ hk,setRow_size w c _,rfl,rfl,rfl⟩
  show(storeCells cur.toList off news).take (len * sz)=_;have hle:len * sz<=cur.toList.length:=by rw[<- hl];exact DD
  rw[zex _ _ _ _ (by omega) hle,hx]
def Rel.eW(h:Rel B g s a w){b fE sz:Nat}{cs cs':aA}{e:aq}{c len cap:Nat}{vs Aw:dY}{v:V}{w':aK}(hb:s.H.get b=some (.ul fE sz cs e))(hu:IP g s.H.aj.length w b fE sz cs e c len cap vs)
  (tj:∀k,k≠c->w'.heap[k]?=w.heap[k]?) (gp:w'.heap.size=w.heap.size) (uy:w'.os=w.os) (ht:w'.tape=w.tape) (lH:w'.output=w.output)
  (eN:w'.ownsRow 0 e sz (.slice (some ⟨c,0,none⟩) len cap) len Aw) (ej:bN g cs' Aw) (cS:aI cs'<=s.H.aj.length) (iz:aI cs'<=max (aI cs) v.top) :
  Rel B g { s with H:=(s.H.set b (.ul fE sz cs' e)).bI b v } a w':=by
 obtain⟨lz,CO⟩:=Ul h hb;have mu:∀k,k<w.heap.size->(∀b',some b=some b'->g.bM b'≠k)->(∀l,some (Loc.cell b 0)=some l->g.own k≠some l)->k≠c:=λk _ h1 h2 e=>by
  subst e;rcases hu.An with h3|h3
  ·exact h1 b rfl h3.symm
  ·exact h2 _ rfl h3
 have hS:lS B.d (some b) (some (.cell b 0)) s.H.aj.length g w g w' :=
  ⟨.refl _ _,λk hk h1 h2=>tj k (mu k hk h1 h2),λk hk _=>rfl,λ_ _ _ _=>rfl,by omega,λ_ _ _=>rfl,λl hl=>.inr ⟨b,0,by cases hl;rfl,rfl⟩,λb' dK=>by cases dK;exact lz,
   λb' u dK cG=>rfl,uy,ht,lH⟩
 refine h.Gc hb hS rfl (λk o x hx=>?_) (λk l hk=>?_) ⟨c,len,cap,Aw,hu.gC,hu.pos,eN,hu.An,hu.M,hu.others,ej.len,λj x u hx hv=>⟨ej.one j x hx,ej.rel j x u hx hv⟩,hu.fresh⟩ cS iz
 ·refine tj k λe=>?_;subst e;rw[hu.M o] at hx;cases hx
 ·rw[gp];exact h.cN.eK k l hk
def bN.pK{cs:aA}{vs:dY}(h:bN g cs vs):∀u∈vs,u.oneCell'=true:=λu hu=>by
 obtain⟨j,hj⟩:=List.getElem?_of_mem hu;have F1:j<cs.length:=by rw[h.len];exact(eE.1 hj).1
 have hx:=mq F1;exact(h.rel j _ u hx hj).pg (h.one j _ hx)
def zmC(h:Rel B g s a w){t:aq}{p x:aO}{b fE k n sz:Nat}{v0 v:V}{dy:aA}{cs:aA}{e:aq}(hp:aB s.env p=some (.gY b fE k))(hx:take s.env x=some (v0,dy))(hv:aT v0=v)(hn:jh P t=some n)
  (hb:s.H.get b=some (.ul fE sz cs e)) (dP:fH v=true) (hl:v.cells.length=n) (hle:k+n<=cs.length) :
  ∃g' w',(Instr.storeAt t (a.eval p) (a.eval x)).run P w=.ok () w'/\Rel B g' { s with env:=dy,H:=(s.H.set b (.ul fE sz (storeCells cs k v.cells) e)).bI b v } a w':=by
 obtain⟨p1,p2,_⟩:=qZ h hp;obtain⟨g',h1,v1,_,v2,F6⟩:=gS h hx .ret;have v1:=v1.aT;rw[hv] at v1;have v2:v.top<=s.H.aj.length:=by rw[<- hv,dx];exact v2
 have p1:=F6.rel p1;have dK:({ s with env:=dy }:St).H.get b=some (.ul fE sz cs e):=hb;obtain⟨c,len,cap,vs,hu,h2,h3⟩:=Ua h1 dK;generalize Qi:a.eval p=cp at p1;cases p1 with
 | gY _ hh =>
  rw[hu.gC] at hh;cases hh;have ej:=yz v1 dP;have ry:(a.eval x).cells.size=n:=by rw[<- hl,ej.len];simp
  obtain⟨w',e1,e2,e3,e4,e5,e6,e7⟩:=zmB (P:=P) (off:=k) hu.row (by rw[<- hu.len,CC,ry];exact hle) ej.pK
  refine⟨g',w',?_,h1.eW (v:=v) dK hu e3 e4 e5 e6 e7 e2 (h2.store k ej) (yb h3 (cZ (xf v) v2)) (cZ xZ (uu.2 ⟨Eo _ _,cZ (xf v) (II _ _)⟩))⟩;unfold Instr.storeAt storeVar;simp[Instr.sureAddr,kA hn,ry,e1]
def Gh.pL(g:Gh)(n N:Nat)(v:aS):Gh:={ g.var n N with gC:=λb u=>if b=n then (if u=0 then some v else none) else g.gC b u }
def Gh.DG(g:Gh)(n N:Nat)(v:aS):Gh.Le n g (g.pL n N v) :=
 ⟨λ_ _ _ h=>h,λb hb=>by simp only[Gh.pL,Gh.var];rw[if_neg (by omega)],rfl,λb u x hb e=>by simp only[Gh.pL];rw[if_neg (by omega)];exact e⟩
def Rel.Qv(h:Rel B g s a w)(bM:br){obj:Obj}{w':aK}{v:aS}(hw:w'.heap=w.heap.push obj)(uy:w'.os=w.os)(ht:w'.tape=w.tape)(lH:w'.output=w.output)
  (dP:gG (g.pL s.H.aj.length w.heap.size v) (s.H.aj.length+1) w' s.H.aj.length bM) (cS:bM.top<=s.H.aj.length+1):Rel B (g.pL s.H.aj.length w.heap.size v) { s with H:=s.H.push bM } a w':=by
 have hl:(s.H.push bM).aj.length=s.H.aj.length+1:=by simp[Hp.push]
 have fu:∀b,b<s.H.aj.length->(s.H.push bM).aj[b]?=s.H.aj[b]?:=λb hb=>by simp only[Hp.push];rw[mz hb]
 have By:(s.H.push bM).aj[s.H.aj.length]?=some bM:=by simp[Hp.push]
 have hv:(g.pL s.H.aj.length w.heap.size v).bM s.H.aj.length=w.heap.size:=by simp[Gh.pL,Gh.var]
 have gp:w'.heap.size=w.heap.size+1:=by rw[hw];simp
 have hS:lS B.d none none s.H.aj.length g w (g.pL s.H.aj.length w.heap.size v) w' :=
  ⟨g.DG _ _ _,λc hc _ _=>Ue hw hc,λ_ _ _=>rfl,λ_ _ _ _=>rfl,by rw[hw];simp,λ_ _ _=>rfl,λl hl=>(by cases hl),λb hb=>(by cases hb),λb u hb _=>by simp only[Gh.pL];rw[if_neg (by omega)],uy,ht,lH⟩
 refine h.iB (s':={ s with H:=s.H.push bM }) hS (by rw[hl];omega) (λb hb _=>fu b hb) (λb x hb hx=>?_) (λb h1 h2=>?_) (λb b' h1 h2 h3 h4 _=>?_) (λc o v hv=>?_) (λc l hc=>?_)
  (λb j e=>by cases e) rfl rfl (λt x hx=>⟨x,hx,.inl ⟨rfl,λe=>by cases e⟩⟩) ?_ (λb off nk=>zb1 fu (h.gR b off nk)) h.nw (λ_ e=>by cases e)
 ·have dK:b=s.H.aj.length:=by
   rcases hb with hb|hb
   ·cases hb
   ·have:=(eE.1 hx).1;rw[hl] at this;omega
  subst dK;rw[By] at hx;cases hx;rw[hl];exact⟨dP,cS⟩
 ·have:b=s.H.aj.length:=by rw[hl] at h2;omega
  subst this;rw[hv];refine⟨ek _,by omega,?_,λo=>?_⟩
  ·show g.own w.heap.size=none;cases ho:g.own w.heap.size with
   | none=>rfl
   | some l=>have:=h.cN.eK _ _ ho;omega
  ·show g.M w.heap.size o=none;cases hm:g.M w.heap.size o with
   | none=>rfl
   | some v=>have:=vP (h.cN.mem _ _ _ hm);omega
 ·rw[hl] at h2 h4;omega
 ·rw[Oi (Ue hw (vP (h.cN.mem c o v hv)))];exact h.cN.mem c o v hv
 ·have:=h.cN.eK c l hc;omega
 ·intro b x hx;rcases lP b s.H.aj.length with h1|h1
  ·rw[show({ s with H:=s.H.push bM }:St).H.aj[b]?=s.H.aj[b]? from fu b h1] at hx;exact h.aW b x hx
  ·have dK:b=s.H.aj.length:=by
    have:=(eE.1 hx).1;have lD:({ s with H:=s.H.push bM }:St).H.aj.length=s.H.aj.length+1:=hl;omega
   subst dK;rw[show({ s with H:=s.H.push bM }:St).H.aj[s.H.aj.length]?=some bM from By] at hx;cases hx;exact .inl cS
def zrD(h:Rel B g s a w){cs:aA}{vs:dY}{e:aq}{sz len cap:Nat}{cur:dI}{w':aK}(hw:w'.heap=w.heap.push (.cells cur e (0,0)))(uy:w'.os=w.os)(ht:w'.tape=w.tape)(lH:w'.output=w.output)
  (oz:0<sz) (eN:w'.ownsRow 0 e sz (.slice (some ⟨w.heap.size,0,none⟩) len cap) len vs) (ej:bN g cs vs) (cS:aI cs<=s.H.aj.length) :
  ∃g',Rel B g' { s with H:=s.H.push (.ul 0 sz cs e) } a w'/\aQ g' (.eo s.H.aj.length 0 len) (.slice (some ⟨w.heap.size,0,none⟩) len cap):=by
 have Ge:(g.pL s.H.aj.length w.heap.size (.slice (some ⟨w.heap.size,0,none⟩) len cap)).gC s.H.aj.length 0=some (.slice (some ⟨w.heap.size,0,none⟩) len cap):=by simp[Gh.pL]
 refine⟨_,h.Qv (.ul 0 sz cs e) hw uy ht lH ⟨w.heap.size,len,cap,vs,Ge,oz,eN,.inl (by simp[Gh.pL,Gh.var]),λo=>?_,λb' dK cG e'=>?_,ej.len,λj x u hx hv=>⟨ej.one j x hx,?_⟩,λu hu=>?_⟩ (Nat.le_succ_of_le cS),.eo Ge⟩
 ·show g.M w.heap.size o=none;cases hm:g.M w.heap.size o with
  | none=>rfl
  | some v=>have:=vP (h.cN.mem _ _ _ hm);omega
 ·have h1:b'<s.H.aj.length:=by omega
  have:=h.cN.lt b' h1;simp only[Gh.pL,Gh.var] at e';rw[if_neg cG] at e';omega
 ·exact(ej.rel j x u hx hv).le (g.DG _ _ _) (cZ (qg (qI hx)) cS)
 ·simp only[Gh.pL,aU];rw[if_neg (by omega)]
def zb4{w:aK}{e:aq}{sz k old:Nat}{z:aS}{vs:dY}{arr:dI}(lq:arr.toList=vs)(hl:vs.length=k * sz)(hz:z.cells.size=sz)(L4:k<=maxLen) :
  (w.drew.alloc (.cells (arr++Builtin.zeroCells z.cells (grownCap w k old e - k)) e)).ownsRow 0 e sz (.slice (some ⟨w.heap.size,0,none⟩) k (grownCap w k old e)) k vs:=by
 have Du:=grownCap_ge w k old e;have nr:grownCap w k old e<=maxLen:=grownCap_le_maxLen w k old e L4;have ov:arr.size=k * sz:=by rw[<- hl,<- lq];simp
 refine⟨hl,.inr ⟨w.heap.size,_,_,rfl,ga _,heap_alloc_new w.drew _,Du,nr,?_,?_⟩⟩
 ·rw[Array.size_append,ov,size_zeroCells,hz,<- uS];congr 1;omega
 ·rw[Array.toList_append,List.take_append_of_le_length (by simp;omega),lq]
  exact En (by omega)
end
section
variable{P:aM}{B:eu}{g:Gh}{s:St}{a:Act}{w:aK}
def znQ(v:V):aT (aT v)=aT v:=by cases v<;>rfl
def Yd(h:Rel B g s a w){b off:Nat}{cs L:aA}{tt:aq}{arr:dI}{news:dY}(hb:s.H.get b=some (.cells cs tt))(a1:w.heap[g.bM b]?=some (.cells arr tt (0,0)))(a2:bN g cs arr.toList)(a3:aI cs<=s.H.aj.length)
  (a4:∀(j:Nat)(x:V)(v:aS),cs[j]?=some x->arr[j]?=some v->c_ g s.H.aj.length w (.cell b j) x v/\LS g b j x v) (gm:bN g L news) (iL:∀q∈L,aT q=q) (Ye:aI L<=s.H.aj.length) (c3:off+L.length<=cs.length) (nN:wQ s.lk b off L.length (cs.drop off)=true) :
  Rel B g { s with H:=(s.H.set b (.cells (storeCells cs off L) tt)).bI b (.bz L) } a (w.setRow (g.bM b) (storeCells arr.toList off news).toArray):=by
 have ov:cs.length=arr.size:=by have:=a2.len;simpa using this
 have lz:b<s.H.aj.length:=by simp only[Hp.get,zV] at hb;exact(eE.1 hb).1
 have gX:news.length=L.length:=gm.len.symm;have hLc:∀q∈L,(∀sz xs o,q=.sl sz xs o->o=.no):=λq hq sz xs o e=>by
  have:=iL q hq;subst e;simp[aT] at this;exact this.symm
 have CL:(w.setRow (g.bM b) (storeCells arr.toList off news).toArray).heap[g.bM b]?=some (.cells (storeCells arr.toList off news).toArray tt (0,0)):=setRow_heap w _ _ _ tt _ a1;have fT:lS B.d (some b) none s.H.aj.length g w g (w.setRow (g.bM b) (storeCells arr.toList off news).toArray) :=
  ⟨.refl _ _,λc _ hc _=>setRow_other w _ c _ (λe=>hc b rfl e.symm),λ_ _ _=>rfl,λ_ _ _ _=>rfl,by simp[World.setRow],λ_ _ _=>rfl,λl hl=>(by cases hl),λb' dK=>(by cases dK;exact lz),λ_ _ _ _=>rfl,rfl,rfl,rfl⟩
 refine Rel.write (l:=s.lk) (v:=.bz L) h (b:=b) (x0:=.cells cs tt) (x:=.cells (storeCells cs off L) tt) (N:=g.bM b) rfl hb (λc hc=>setRow_other w _ c _ hc) (by simp[World.setRow]) rfl rfl rfl
  ⟨_,CL,by simp[kY,ov],λj y u hy hu=>?_⟩ (yb a3 Ye) (.inr (.inr (.inr (cZ xZ (uu.2 ⟨Eo _ _,II _ _⟩))))) (λo mg=>?_) h.nw
 ·have eM:=a2.store off gm;have hr:=eM.rel j y u hy (by simpa using hu)
  refine⟨eM.one j y hy,hr,?_,?_⟩
  ·rw[jx _ _ _ _ (by omega)] at hy
   have og:(storeCells arr.toList off news)[j]?=some u:=by simpa using hu
   rw[jx _ _ _ _ (by have:arr.toList.length=arr.size:=CC;omega)] at og
   by_cases hj:off<=j/\j<off+L.length
   ·rw[if_pos hj] at hy;have:=hLc y (qI hy);cases y with
    | sl sz xs o=>have e:=this sz xs o rfl;subst e;trivial
    | _=>trivial
   ·rw[if_neg hj] at hy;rw[if_neg (by rw[gX];exact hj)] at og
    exact c_.same fT (λe=>by cases e) (λb1 h2 h3=>absurd (show b1<s.H.aj.length from h3) (Nat.not_lt.2 h2)) (a4 j y u hy (by simpa using og)).1
  ·rw[jx _ _ _ _ (by omega)] at hy
   have og:(storeCells arr.toList off news)[j]?=some u:=by simpa using hu
   rw[jx _ _ _ _ (by have:arr.toList.length=arr.size:=CC;omega)] at og
   by_cases hj:off<=j/\j<off+L.length
   ·rw[if_pos hj] at hy;have:=hLc y (qI hy);cases y with
    | sl sz xs o=>have e:=this sz xs o rfl;subst e;trivial
    | _=>trivial
   ·rw[if_neg hj] at hy;rw[if_neg (by rw[gX];exact hj)] at og
    exact(a4 j y u hy (by simpa using og)).2
 ·obtain⟨HY,t2',sz,xs,d1,d2⟩:=h.gR b o mg;have pH:s.H.aj[b]?=some (.cells cs tt):=by simpa[Hp.get,zV] using hb
  rw[pH] at d1;cases d1;refine⟨_,_,sz,xs,rfl,?_⟩;rw[jx _ _ _ _ (by omega)]
  by_cases hj:off<=o/\o<off+L.length
  ·have:=XU nN (o - off) (.sl sz xs .lock) (by omega) (by rw[FP,show off+(o - off)=o by omega];exact d2) rfl
   rw[show off+(o - off)=o by omega] at this
   exact absurd mg (h.nw _ this)
  ·rw[if_neg hj];exact d2
def zkv{cx:Cx}(hP:cx.P=P)(h:Rel B g s a w){t ty:aq}{x y:aO}{r:OR}{s':St}(aF:cx.mV t x y s.env s.H s.lk s.defers=some (r,s')) :
  ∃v g' cv w',r=.val v/\(Builtin.append_ #[t,t] ty #[a.eval x,a.eval y]).run P w=.ok cv w'/\Rel B g' s' a w'/\aQ g' v cv/\(∀n l,c_ g' n w' l v cv)/\v.top<=s'.H.aj.length:=by
 unfold Cx.mV at aF;rw[hP] at aF;simp only[Option.bind_eq_bind,fJ] at aF;obtain⟨td,ht,aF⟩:=aF;split at aF<;>try (cases aF;done)
 rename_i e;simp only[fJ] at aF;obtain⟨n,hn,i,hi,z,hz,yv,hy,ys,ua,aF⟩:=aF;have Be:=X0 hn hi;split at aF<;>try (cases aF;done)
 rename_i BC;simp only[mT,not_or,Bool.not_eq_true,Bool.not_eq_false'] at BC;have F7:z.cells.size=n:=gy (by simpa using BC.1)
 have Bf:0<n:=by
  rcases N3 n with e|e
  ·subst e;simp at BC
  ·exact e
 simp only[fJ] at aF;obtain⟨xv,hx,aF⟩:=aF;obtain⟨y1,y3,_⟩:=qZ h hy;obtain⟨x1,x3,x4⟩:=qZ h hx;clear x4;have iN:=Qe h hn ua y1 y3;have tn:∀m,kr m i.bytes=true->m<=maxLen/\m * i.bytes<=140737488355328:=λm hm=>by
  simp only[kr,cR] at hm;exact⟨by have:=sE hm.1;simp only[maxLen];omega,sE hm.2⟩
 split at aF
 ·have Kv:=x1.pI;split at aF
  ·simp only[aR,bS] at aF;obtain⟨rfl,rfl⟩:=aF;obtain⟨ad,cap,sF,_⟩:=iN.form;refine⟨.aJ,g,.slice none 0 0,w,rfl,?_,h,.aJ,λ_ _=>trivial,ga _⟩;rw[Kv,sF];exact vm (P:=P) (ty:=ty) ht hn _ none 0 0 rfl (ek _) ad cap w
  ·rename_i cG;have cG:ys≠[]:=λe=>cG e;split at aF<;>try (cases aF;done)
   rename_i L6;simp only[ep,jr,jv,aR,bS] at aF;obtain⟨rfl,rfl⟩:=aF;obtain⟨ad,cy,sF,mD⟩:=iN.form;obtain⟨a0,news,rfl,ej,iW⟩:=mD cG;obtain⟨m1,m2⟩:=tn _ L6;have oz:0<ys.length:=Kk.2 cG;have gX:news.length=ys.length * i.size:=by rw[<- ej.len,jB iN.sized,Be]
   have eN:=zb4 (w:=w) (e:=e) (old:=0) (k:=ys.length) (sz:=n) (z:=z) (arr:=news.toArray) (vs:=news) (by simp) (by rw[gX,Be]) F7 m1
   have Av:bN g (dz ys) news:=by rw[iO];exact ej
   obtain⟨g',r1,r2⟩:=zrD (w':=w.drew.alloc (.cells (news.toArray++Builtin.zeroCells z.cells (grownCap w ys.length 0 e - ys.length)) e)) h rfl rfl rfl rfl Bf eN Av (by rw[iO];exact cZ y4 iN.aI)
   refine⟨_,g',_,_,rfl,?_,r1,r2,λ_ _=>trivial,by simp[V.top,Hp.push]⟩
   rw[Kv,sF];exact run_append_nil (P:=P) w t ty e i z ht hi hz a0 ys.length cy news gX iW oz (by simp only[maxLen] at m1;omega) (by omega)
 ·rename_i b u len;split at aF<;>try (cases aF;done)
  rename_i fE sz cs e' hb;split at aF<;>try (cases aF;done)
  rename_i hc;simp only[ep,jr,jU,aR,bS] at aF;obtain⟨rfl,rfl⟩:=aF;simp only[cR] at hc;obtain⟨⟨⟨c1,c2⟩,c3⟩,L6⟩:=hc;have c1:=gy c1;have c2:=gy c2;have c3:=gy c3;subst c1;subst c2;subst c3;obtain⟨m1,m2⟩:=tn _ L6;obtain⟨c,l0,cap,vs,hu,h2,h3⟩:=Ua h hb;have BD:aI (cs++dz ys)<=max (aI cs) (V.bz ys).top:=by
   refine j7 λq hq=>?_;rcases uo.1 hq with hq|hq
   ·exact cZ (qg hq) (Eo _ _)
   ·rw[iO] at hq;exact cZ (Xw hq) (II _ _)
  have Mb:aI (cs++dz ys)<=s.H.aj.length:=cZ BD (uu.2 ⟨h3,iN.aI⟩);have cS:(V.eo b (fE+1) (len+ys.length)).top<=((s.H.set b (.ul (fE+1) n (cs++dz ys) e)).bI b (.bz ys)).aj.length:=by
   rw[ziQ];have:=(Ul h hb).1;simp only[V.top];omega
  generalize Kw:a.eval x=Un at x1;cases x1 with
  | eo hh =>
   rw[hu.gC] at hh;cases hh
   by_cases cG:ys=[]
   ·subst cG;obtain⟨ad,oM,sF,_⟩:=iN.form;have uW:len<=cap:=by
     obtain⟨_,hr|⟨_,_,_,hr,_,_,h5,_⟩⟩:=hu.row
     ·cases hr.1
     ·cases hr;exact h5
    obtain⟨g',r1,r2⟩:=Um (v:=.bz []) h hb hu (λ_ _ _=>rfl) (ek _) rfl rfl rfl (.inl rfl) hu.row (cs':=cs++dz []) (by simpa[dz] using h2) Mb BD
    refine⟨_,g',_,w,rfl,?_,r1,r2,λ_ _=>trivial,cS⟩;rw[sF];exact vm (P:=P) (ty:=ty) ht hn _ (some ⟨c,0,none⟩) len cap rfl uW ad oM w
   ·obtain⟨ad,cy,sF,mD⟩:=iN.form;obtain⟨a0,news,rfl,ej,iW⟩:=mD cG;have oz:0<ys.length:=Kk.2 cG;have gX:news.length=ys.length * i.size:=by rw[<- ej.len,jB iN.sized,Be]
    have Av:bN g (dz ys) news:=by rw[iO];exact ej
    have eD:bN g (cs++dz ys) (vs++news):=by
     refine⟨by simp only[bY,h2.len,Av.len],λj q hq=>?_,λj q v' hq dG=>?_⟩
     ·rcases lP j cs.length with h4|h4
      ·rw[mz h4] at hq;exact h2.one j q hq
      ·rw[oe h4] at hq;exact Av.one _ q hq
     ·rcases lP j cs.length with h4|h4
      ·rw[mz h4] at hq;rw[mz (by rw[<- h2.len];exact h4)] at dG
       exact h2.rel j q v' hq dG
      ·rw[oe h4] at hq;rw[oe (by rw[<- h2.len];exact h4),<- h2.len] at dG
       exact Av.rel _ q v' hq dG
    obtain⟨DD,hr|⟨c',oM,cur,hr,_,nx,uW,nr,ry,iu⟩⟩:=id hu.row
    ·cases hr.1
    cases hr;have hlen:(vs++news).length=(len+ys.length) * n:=by rw[bY,DD,gX,Be,uS]
    by_cases F9:len+ys.length<=cap
    ·have I3:len * i.size+news.length<=cur.size:=by rw[gX,Be,ry,<- uS];exact Nat.mul_le_mul_right _ F9
     have cX:=run_append_room (P:=P) w t ty e i ht hi c len cap cur nx a0 ys.length cy news gX iW ej.pK F9 I3;rw[Be] at cX I3;have eN:(w.setRow c (cur.toList.take (len * n)++news++cur.toList.drop (len * n+news.length)).toArray).ownsRow 0 e n (.slice (some ⟨c,0,none⟩) (len+ys.length) cap) (len+ys.length) (vs++news):=by
      refine⟨hlen,.inr ⟨c,cap,_,rfl,ga _,setRow_heap w c cur _ e _ nx,F9,nr,?_,?_⟩⟩
      ·simp only[List.size_toArray,bY,Bb,List.length_drop,CC];omega
      ·rw[iu,<- hlen];exact List.take_left
     obtain⟨g',r1,r2⟩:=Um (v:=.bz ys) h hb hu (λk _ hk=>setRow_other w c k _ hk) (Nat.le_of_eq (setRow_size w c _).symm) rfl rfl rfl (.inl rfl) eN eD Mb BD;refine⟨_,g',_,_,rfl,?_,r1,r2,λ_ _=>trivial,cS⟩;rw[sF];exact cX
    ·have eN:=zb4 (w:=w) (e:=e) (old:=cap) (k:=len+ys.length) (sz:=n) (z:=z) (arr:=vs.toArray++news.toArray) (vs:=vs++news) (by simp) hlen F7 m1
     obtain⟨g',r1,r2⟩:=Um (v:=.bz ys) h hb hu (λk hk _=>heap_alloc_old w.drew _ hk) (by simp) rfl rfl rfl (.inr rfl) eN eD Mb BD
     refine⟨_,g',_,_,rfl,?_,r1,r2,λ_ _=>trivial,cS⟩;rw[sF];exact run_append_grow (P:=P) w t ty e i z ht hi hz ⟨c,0,none⟩ len cap vs (by rw[DD,Be]) (hu.row.cells rfl) a0 ys.length cy news gX iW (by omega) (by simp only[maxLen] at m1;omega) (growslice_fits (by omega) m2)
 ·rename_i b off len cap;split at aF<;>try (cases aF;done)
  rename_i cs tt hb;split at aF<;>try (cases aF;done)
  rename_i hc;simp only[ep,jr,jU,aR,bS] at aF;obtain⟨rfl,rfl⟩:=aF;simp only[cR] at hc;obtain⟨⟨⟨⟨⟨⟨c1,c2⟩,c3⟩,c4⟩,c5⟩,c6⟩,nN⟩:=hc;have c1:=gy c1;have c2:=gy c2;have c3:=gy c3;have c4:=gy c4;have c5:=sE c5;have c6:=sE c6;subst c1;subst c2;subst c3;rw[iO] at c4 ⊢;have lz:b<s.H.aj.length:=by simp only[Hp.get,zV] at hb;exact(eE.1 hb).1
  have cS:(V.sr b 0 (len+ys.length) cap).top<=((s.H.set b (.cells (storeCells cs len ((q9 ys).map aT)) tt)).bI b (.bz ((q9 ys).map aT))).aj.length:=by
   rw[ziQ];simp only[V.top];omega
  generalize Kw:a.eval x=Un at x1;cases x1 with
  | sr uW =>
   obtain⟨arr,a1,a2,a3,a4⟩:=Qc h hb;have ov:cs.length=arr.size:=by have:=a2.len;simpa using this
   obtain⟨ad,cy,sF,mD⟩:=iN.form;have bD:aI ((q9 ys).map aT)<=s.H.aj.length:=by
    rw[kL];exact cZ y4 iN.aI
   have iL:∀q∈(q9 ys).map aT,aT q=q:=λq hq=>by
    obtain⟨q',_,rfl⟩:=ni.1 hq;exact znQ q'
   by_cases cG:ys=[]
   ·subst cG;have:=Yd (news:=[]) (off:=len) h hb a1 a2 a3 a4 (L:=[]) ⟨rfl,λ_ _ e=>by simp at e,λ_ _ _ e=>by simp at e⟩ (λq hq=>by cases hq) (ga _) (by simp at c6 ⊢;omega) (by simp[wQ])
    have e1:(w.setRow (g.bM b) (storeCells arr.toList len []).toArray)=w:=by
     show w.setRow (g.bM b) arr.toList.toArray=w;rw[Array.toArray_toList];exact setRow_self w _ arr _ _ a1
    rw[e1] at this;refine⟨_,g,_,w,rfl,?_,by simpa[q9] using this,.sr (by simpa using uW),λ_ _=>trivial,cS⟩
    rw[sF];exact vm (P:=P) (ty:=ty) ht hn _ (some ⟨g.bM b,0,none⟩) len cap rfl uW ad _ w
   ·obtain⟨a0,news,rfl,ej,iW⟩:=mD cG;have gX:news.length=ys.length:=by rw[<- ej.len,jB iN.sized,LL]
    have cX:=run_append_room (P:=P) w t ty tt i ht hi (g.bM b) len cap arr a1 a0 ys.length cy news (by rw[gX,Be,LL]) iW ej.pK c5 (by rw[gX,Be];omega)
    have eD:=Yd (off:=len) h hb a1 a2 a3 a4 (L:=(q9 ys).map aT) (news:=news) ej.Ar iL bD (by rw[c4];exact c6) (by rw[c4];exact nN)
    have lq:arr.toList.take (len * i.size)++news++arr.toList.drop (len * i.size+news.length)=storeCells arr.toList len news:=by
     rw[Be,LL];have oO:arr.toList=arr.toList.take len++(arr.toList.drop len).take ys.length++arr.toList.drop (len+ys.length):=by
      rw[b_,<- List.drop_drop,FO,FO]
     have hlen:(arr.toList.take len).length=len:=by rw[Bb,CC];omega
     have:=wm news ((arr.toList.drop len).take ys.length) (arr.toList.take len) (arr.toList.drop (len+ys.length)) (by have hL:arr.toList.length=arr.size:=CC;simp only[Bb,List.length_drop];omega)
     rw[hlen,<- oO] at this;rw[this,gX]
    rw[lq] at cX;refine⟨_,g,_,_,rfl,?_,eD,.sr (by omega),λ_ _=>trivial,cS⟩
    rw[sF];exact cX
 ·cases aF
def znR{cx:Cx}(hP:cx.P=P)(h:Rel B g s a w){t t2 ty:aq}{x y:aO}{r:OR}{s':St}(aF:cx.s9 t x y s.env s.H s.lk s.defers=some (r,s')) :
  ∃v g' cv w',r=.val v/\(Builtin.copy_ #[t,t2] ty #[a.eval x,a.eval y]).run P w=.ok cv w'/\Rel B g' s' a w'/\aQ g' v cv/\(∀n l,c_ g' n w' l v cv)/\v.top<=s'.H.aj.length:=by
 unfold Cx.s9 at aF;rw[hP] at aF;simp only[Option.bind_eq_bind,fJ] at aF;obtain⟨td,ht,aF⟩:=aF;split at aF<;>try (cases aF;done)
 rename_i e;simp only[fJ] at aF;obtain⟨n,hn,yv,hy,ys,ua,xv,hx,aF⟩:=aF;obtain⟨y1,y3,_⟩:=qZ h hy;obtain⟨x1,x3,x4⟩:=qZ h hx;clear x4;have iN:=Qe h hn ua y1 y3;split at aF<;>try (cases aF;done)
 rename_i b off len cap;split at aF<;>try (cases aF;done)
 rename_i cs tt hb;split at aF<;>try (cases aF;done)
 rename_i hc;simp only[ep,jU,aR,bS] at aF;obtain⟨rfl,rfl⟩:=aF;simp only[cR] at hc;obtain⟨⟨⟨c1,c2⟩,c3⟩,nN⟩:=hc;have c1:=gy c1;have c2:=gy c2;have c3:=sE c3;subst c1;rw[iO] at c2;have Yf:(P.info? e).map (·.size)=some 1:=hn;generalize hm:min len ys.length=m at c2 c3 nN ⊢;generalize Kw:a.eval x=Un at x1;cases x1 with
 | sr uW =>
  obtain⟨arr,a1,a2,a3,a4⟩:=Qc h hb;have ov:cs.length=arr.size:=by have:=a2.len;simpa using this
  have lz:b<s.H.aj.length:=by simp only[Hp.get,zV] at hb;exact(eE.1 hb).1
  obtain⟨ad,cy,sF,mD⟩:=iN.form;obtain⟨news,gm,cX⟩:∃news,bN g ((q9 (ys.take m)).map aT) news/\(Builtin.copy_ #[t,t2] ty #[.slice (some ⟨g.bM b,off,none⟩) len cap,a.eval y]).run P w=.ok (goInt m) (w.setRow (g.bM b) (storeCells arr.toList off news).toArray):=by
   by_cases cG:ys=[]
   ·subst cG;have I4:m=0:=by rw[<- hm];simp
    subst I4;refine⟨[],⟨by simp[q9],λ_ _ e=>by simp[q9] at e,λ_ _ _ e=>by simp[q9] at e⟩,?_⟩
    rw[sF];have e1:(w.setRow (g.bM b) (storeCells arr.toList off []).toArray)=w:=by
     show w.setRow (g.bM b) arr.toList.toArray=w;rw[Array.toArray_toList];exact setRow_self w _ arr _ _ a1
    rw[e1];simp only[jh,l8] at hn;obtain⟨i,hi,Gf⟩:=hn;cases ad<;>simp[Builtin.copy_,run_underlying ht,Builtin.lenOf,Builtin.firstCells,sizeOf,typeInfo,hi,Go.storeCells,loadCells,loadCellsFrom]
   ·obtain⟨a0,news,rfl,ej,iW⟩:=mD cG;have gX:news.length=ys.length:=by rw[<- ej.len,jB iN.sized];simp
    have Gg:m<=ys.length:=by omega
    have Uj:q9 (ys.take m)=(q9 ys).take m:=by
     have h1:q9 ys=q9 (ys.take m)++q9 (ys.drop m):=by rw[<- XD,FO]
     have h2:(q9 (ys.take m)).length=m:=by rw[jB (sz:=1) λy hy=>iN.sized y (CB hy)];simp;omega
     rw[h1,List.take_append_of_le_length (by omega)];exact(En (by omega)).symm
    refine⟨news.take m,by rw[Uj];exact(ej.take m).Ar,?_⟩
    have HZ:=run_copy_row P w t t2 ty e (g.bM b) off len cap a0 ys.length cy arr tt (news.take m) ht Yf a1 (by rw[Bb,gX,<- hm];show min (min len ys.length) ys.length=min ys.length len;omega) (λj v hv=>iW j v (by
     rw[um] at hv;split at hv
     ·exact hv
     ·cases hv)) (by rw[Bb,gX];omega) (ej.take m).pK
    rw[sF,HZ];have e1:(news.take m).length=m:=by rw[Bb,gX];omega
    have lq:arr.toList.take off++news.take m++arr.toList.drop (off+(news.take m).length)=storeCells arr.toList off (news.take m):=by
     have oO:arr.toList=arr.toList.take off++(arr.toList.drop off).take m++arr.toList.drop (off+m):=by
      rw[b_,<- List.drop_drop,FO,FO]
     have hlen:(arr.toList.take off).length=off:=by rw[Bb,CC];omega
     have:=wm (news.take m) ((arr.toList.drop off).take m) (arr.toList.take off) (arr.toList.drop (off+m)) (by rw[Bb,List.length_drop,CC];omega)
     rw[hlen,<- oO] at this;rw[this,e1]
    rw[lq,e1]
  have gX:news.length=m:=gm.len.symm.trans c2;simp only[iO];generalize hL:(q9 (ys.take m)).map aT=L at *;have Ye:aI L<=s.H.aj.length:=by
   rw[<- hL,kL];exact cZ y4 (cZ (lE _ _) iN.aI)
  refine⟨_,g,_,_,rfl,cX,Yd h hb a1 a2 a3 a4 gm (λq hq=>?_) Ye (by omega) (by rw[c2];exact nN),.int _ _,λ_ _=>trivial,ga _⟩
  rw[<- hL] at hq;obtain⟨q',_,rfl⟩:=ni.1 hq;exact znQ q'
end
section
variable{P:aM}{B:eu}{g:Gh}{s:St}{a:Act}{w:aK}
structure pM(P:aM)(cx:Cx)(B:eu):Prop where
 prog:cx.P=P
 num:xL P
 Yg:vQ P
 gl:lg P cx.gl B.g
 calls:∃d,d<B.d/\L9 P cx.gl cx.call d
def gh.ends{s':St}{o:Oper}{v:V}(hv:gh P B s' a w o v){r:OR}(hr:r=.val v){K:Act->aK->Prop}{Q:Exit->Act->aK->Prop}(hE:Ends P B o r s' K Q):o.wp P a w K Q :=
 zrB hv λg' cv w' hk=>hE.val v hr g' cv a w' hk
def oQ.ends{s':St}{o:Oper}(hv:oQ P B s' a w o){r:OR}(hr:r=.skip){K:Act->aK->Prop}{Q:Exit->Act->aK->Prop}(hE:Ends P B o r s' K Q):o.wp P a w K Q :=
 wp_skip hv λg' w' hk=>hE.skip hr g' a w' hk
def Yh(h:Rel B g s a w){xs:ot}{vs:aA}(hp:aL s.env xs.toList=some vs):vs.length=(xs.map a.eval).size/\(∀(j:Nat)(x:V)(v:aS),vs[j]?=some x->(xs.map a.eval)[j]?=some v->aQ g x v)/\aI vs<=s.H.aj.length:=by
 obtain⟨h1,h2,h3,_⟩:=Ub h hp;refine⟨by simp[h1],λj x v hx hv=>h2 j x v hx ?_,h3⟩
 rw[<- LH] at hv;simpa using hv
def Mc{cx:Cx}(mh:pM P cx B)(h:Rel B g s a w){takes:bP}{o:Oper}{r:OR}{s':St}(aF:cx.op takes o s.env s.H s.lk s.defers=some (r,s')){K:Act->aK->Prop}{Q:Exit->Act->aK->Prop}(hE:Ends P B o r s' K Q):o.wp P a w K Q:=by
 obtain⟨hP,gT,eV,ez,d,hd,fN⟩:=mh;subst hP;have Ga:lg cx.P cx.gl g:=ez.le h.fr.le;have read:∀v,jA cx.P cx.gl o s.env s.H=some v->r=.val v->s'=s->o.wp cx.P a w K Q:=by
  intro v hv hr hs;subst hs;exact gh.ends (XO h Ga hv) hr hE
 have uY:(match jA cx.P cx.gl o s.env s.H with|none=>none|some v=>some (OR.val v,(⟨s.env,s.H,s.lk,s.defers⟩:St)))=some (r,s')->o.wp cx.P a w K Q:=by
  intro hh;split at hh<;>simp only[aR,reduceCtorEq,bS] at hh;rename_i v hv;exact read v hv hh.1.symm hh.2.symm
 unfold Cx.op at aF;simp only at aF;split at aF
 ·rename_i x ho;split at aF
  ·split at aF<;>simp only[aR,reduceCtorEq,bS] at aF;rename_i v dy ht;obtain⟨rfl,rfl⟩:=aF;exact(ziK h ht (.inl ho)).ends rfl hE
  ·exact uY aF
 next x ho=>split at aF<;>simp only[aR,reduceCtorEq,bS] at aF;rename_i v dy ht;obtain⟨rfl,rfl⟩:=aF;exact(ziK h ht (.inr ho)).ends rfl hE
 ·rename_i t p ho;split at aF
  ·exact uY aF
  ·split at aF<;>try (cases aF;done)
   rename_i b off sV hp;split at aF<;>try (cases aF;done)
   rename_i cs ty hb;split at aF<;>try (cases aF;done)
   next sz xs e hc=>simp only[fB,jU,aR,bS] at aF;obtain⟨rfl,rfl⟩:=aF;rw[zV] at hc;have:=zp0 h sV hp hb hc ho;refine gh.ends (v:=.sl sz xs (.yes e)) ?_ rfl hE;simpa[Hp.bI,V.top] using this
   ·rename_i hc;simp only[aR,bS] at aF;obtain⟨rfl,rfl⟩:=aF;rw[zV] at hc;have hl:qJ cx.P s.H cx.gl t (.ptr b off)=some .aJ:=by
     simp[qJ,hb,wk,sV,zV,hc]
    have On:jA cx.P cx.gl o s.env s.H=some .aJ:=by
     obtain⟨dst,op,type,pos,after,guard⟩:=o;simp only at ho;subst ho;simp[jA,hp,hl,aT]
    exact gh.ends (XO h Ga On) rfl hE
   ·rename_i c9 u9 n9 hc;simp only[aR,bS] at aF;obtain⟨rfl,rfl⟩:=aF;rw[zV] at hc;have hl:qJ cx.P s.H cx.gl t (.ptr b off)=some (.eo c9 u9 n9):=by
     simp[qJ,hb,wk,sV,zV,hc]
    have On:jA cx.P cx.gl o s.env s.H=some (.eo c9 u9 n9):=by
     obtain⟨dst,op,type,pos,after,guard⟩:=o;simp only at ho;subst ho;simp[jA,hp,hl,aT]
    exact gh.ends (XO h Ga On) rfl hE
 ·rename_i t ho;split at aF<;>try (cases aF;done)
  rename_i z hz;split at aF<;>try (cases aF;done)
  rename_i dP;simp only[qd,jv,aR,bS] at aF;obtain⟨rfl,rfl⟩:=aF;exact(tq h hz (by simpa using dP) ho).ends rfl hE
 ·rename_i t x ho;split at aF<;>try (cases aF;done)
  rename_i v dy ht;split at aF<;>try (cases aF;done)
  rename_i dP;simp only[qd,ep,jv,aR,bS] at aF;obtain⟨rfl,rfl⟩:=aF;exact(CM h ht (by simpa using dP) ho).ends rfl hE
 ·rename_i t p x ho;split at aF<;>try (cases aF;done)
  ·rename_i b off hp;split at aF<;>try (cases aF;done)
   rename_i v dy n cs ty ht hn hb;simp only[qd,ep,fj,jU] at aF;split at aF<;>simp only[aR,reduceCtorEq,bS] at aF;rename_i hc;obtain⟨rfl,rfl⟩:=aF;simp only[cR] at hc;obtain⟨g',w',h1,h2⟩:=tc h hp ht hn hb hc.1.1.1 (gy hc.1.1.2) (sE hc.1.2) hc.2;exact oQ.ends ⟨g',w',by simp[execOp,ho,h1],h2⟩ rfl hE
  ·rename_i b u k hp;split at aF<;>try (cases aF;done)
   rename_i xv dy n fE sz cs e hx hn hb;simp only[qd,fj,jU] at aF;split at aF<;>simp only[aR,reduceCtorEq,bS] at aF;rename_i hc;obtain⟨rfl,rfl⟩:=aF;simp only[cR] at hc;have hv:=gy hc.1.1.1;subst hv;obtain⟨g',w',h1,h2⟩:=zmC h hp hx rfl hn hb hc.1.1.2 (gy hc.1.2) (sE hc.2);exact oQ.ends ⟨g',w',by simp[execOp,ho,h1],h2⟩ rfl hE
 ·rename_i t rr ho;split at aF<;>try (cases aF;done)
  simp only[jv,aR,bS] at aF;obtain⟨rfl,rfl⟩:=aF;exact(zks h ho).ends rfl hE
 ·rename_i t l c ho;split at aF<;>try (cases aF;done)
  rename_i e k lv k' cv ht hl hc;split at aF<;>try (cases aF;done)
  rename_i n i z hn hi hz;split at aF<;>try (cases aF;done)
  rename_i BC;have hm:=zht h ht hl hc hn hi hz (Bool.eq_false_iff.2 BC) ho;split at aF
  ·simp only[ep,jr,jv,aR,bS] at aF;obtain⟨rfl,rfl⟩:=aF;exact hm.2.ends rfl hE
  split at aF
  next h0=>simp only[aR,bS] at aF;obtain⟨rfl,rfl⟩:=aF;exact(hm.1 h0).ends rfl hE
  ·split at aF<;>try (cases aF;done)
   simp only[ep,jv,aR,bS] at aF;obtain⟨rfl,rfl⟩:=aF;exact hm.2.ends rfl hE
 ·rename_i t m k x ho;split at aF<;>try (cases aF;done)
  rename_i b kv v hm hk hx;split at aF<;>try (cases aF;done)
  rename_i As;simp only[qd,fj,jU] at aF;split at aF<;>try (cases aF;done)
  rename_i es hb;split at aF<;>simp only[aR,reduceCtorEq,bS] at aF;rename_i ux hs;obtain⟨rfl,rfl⟩:=aF;obtain⟨w',h1,h2⟩:=zcN h hm hk hx (by simpa using As) hb hs
  exact oQ.ends ⟨g,w',by simp[execOp,ho,h1],h2⟩ rfl hE
 ·rename_i t m k x ho;split at aF<;>try (cases aF;done)
  rename_i b kv v hm hk hx;split at aF<;>try (cases aF;done)
  rename_i As;simp only[qd,fj,jU] at aF;split at aF<;>try (cases aF;done)
  rename_i es hb;split at aF<;>simp only[aR,reduceCtorEq,bS] at aF;rename_i ux hs;obtain⟨rfl,rfl⟩:=aF;obtain⟨w',h1,h2⟩:=zcN h hm hk hx (by simpa using As) hb hs
  exact oQ.ends ⟨g,w',by simp[execOp,ho,h1],h2⟩ rfl hE
 ·rename_i t x ho;split at aF<;>try (cases aF;done)
  rename_i l ht hx;simp only[jv,aR,bS] at aF;obtain⟨rfl,rfl⟩:=aF;exact(znM h ht hx ho).ends rfl hE
 ·rename_i it ho;split at aF<;>try (cases aF;done)
  rename_i b hi;split at aF<;>try (cases aF;done)
  rename_i l pos hb;have hn:=zpY (P:=cx.P) h hi hb o.type;split at aF
  next bD=>rw[if_pos bD] at hn;obtain⟨cv,w',h1,h2,h3⟩:=hn;simp only[jr,jU,aR,bS] at aF;obtain⟨rfl,rfl⟩:=aF;exact gh.ends ⟨g,cv,w',by simp[execOp,ho,h1],h3,h2,λ_ _=>trivial,by simp[V.top,aI]⟩ rfl hE
  next bD=>rw[if_neg bD] at hn;obtain⟨cv,h1,h2⟩:=hn;simp only[aR,bS] at aF;obtain⟨rfl,rfl⟩:=aF;exact gh.ends ⟨g,cv,w,by simp[execOp,ho,h1],h,h2,λ_ _=>trivial,by simp[V.top,aI]⟩ rfl hE
 ·rename_i src dst x ho;split at aF
  next v dy hv=>simp only[aR,bS] at aF;obtain⟨rfl,rfl⟩:=aF;exact(zpZ (P:=cx.P) h hv ho).ends rfl hE
  ·split at aF
   ·split at aF<;>simp only[aR,reduceCtorEq,bS] at aF;rename_i v hv;obtain⟨rfl,rfl⟩:=aF;cases hx:aB s.env x with
    | none=>rw[hx] at hv;cases hv
    | some u =>
     rw[hx] at hv;obtain⟨u1,u2,_⟩:=qZ h hx;simp only[T5] at hv;split at hv<;>try (cases hv;done)
     rename_i u' og
     by_cases Uo:∃b o l c,u=.sr b o l c
     ·obtain⟨b,off,len,cap,rfl⟩:=Uo;exact gh.ends (znK (P:=cx.P) h og hv u1 u2 ho) rfl hE
     ·obtain rfl:u=u':=by
       have:=Xv (P:=cx.P) (H:=s.H) (a:=src) (v:=u) λb o l c e=>Uo ⟨b,o,l,c,e⟩;rw[this] at og;exact ur og
      refine uY ?_;rw[show jA cx.P cx.gl o s.env s.H=some v by simp[jA,ho,hx,hv]]
   ·exact uY aF
 ·rename_i t x lo hi ho;split at aF
  ·rename_i hf;split at aF<;>simp only[aR,reduceCtorEq,bS] at aF;rename_i v dy hv;obtain⟨rfl,rfl⟩:=aF;obtain rfl:hi=none:=by unfold xX at hf;split at hf<;>first|rfl|cases hf
   exact(znO (P:=cx.P) h hv ho).ends rfl hE
  ·split at aF
   ·obtain⟨v,e1,e2⟩:=zmA rfl h aF ho;exact e2.ends e1 hE
   ·exact uY aF
 ·rename_i c ho;split at aF
  ·rename_i b iw;have plain:(match cx.builtin b c.argTypes c.args s.env s.H with|none=>none|some (r,env)=>some (r,(⟨env,s.H,s.lk,s.defers⟩:St)))=some (r,s')->o.wp cx.P a w K Q:=by
    intro aF;split at aF<;>simp only[aR,reduceCtorEq,bS] at aF;rename_i r' dy hb;obtain⟨rfl,rfl⟩:=aF;obtain⟨v,hv,dP⟩:=zku rfl h hb ho iw rfl rfl;exact dP.ends hv hE
   split at aF
   ·rename_i x y t ts gO CP;obtain⟨v,g',cv,w',e1,e2,e3,e4,e5,e6⟩:=znR (t2:=ts.headD 0) (ty:=o.type) rfl h aF;have ea:=sk gO;have cX:(execOp a.eval o).run cx.P w=.ok (.value cv) w':=by
     have:(Builtin.copy_ c.argTypes o.type #[a.eval x,a.eval y]).run cx.P w=.ok cv w':=by
      rw[<- e2];have:c.argTypes[0]?=some t:=by rw[<- LH,CP];rfl
      simp[Builtin.copy_,this]
     simp[execOp,ho,resolve,iw,ea,invoke,builtin,this]
    exact gh.ends ⟨g',cv,w',cX,e3,e4,λ_ _=>e5 _ _,e6⟩ e1 hE
   ·rename_i x y t u gO CP;split at aF
    ·split at aF<;>try (cases aF;done)
     rename_i L_;have L_:=gy L_;subst L_;obtain⟨v,g',cv,w',e1,e2,e3,e4,e5,e6⟩:=zkv (ty:=o.type) rfl h aF;have ea:=sk gO;have et:=znP CP;have cX:(execOp a.eval o).run cx.P w=.ok (.value cv) w':=by
      simp[execOp,ho,resolve,iw,ea,et,invoke,builtin,e2]
     exact gh.ends ⟨g',cv,w',cX,e3,e4,λ_ _=>e5 _ _,e6⟩ e1 hE
    ·exact plain aF
   ·exact plain aF
  ·rename_i f iw;split at aF<;>try (cases aF;done)
   rename_i fv args hf ha;split at aF<;>simp only[aR,reduceCtorEq,bS] at aF;rename_i r' H' hc;obtain⟨rfl,rfl⟩:=aF;obtain⟨f1,f2,_⟩:=qZ h hf;obtain⟨a1,a2,a3⟩:=Yh h ha;have mD:∃fn fa fc,a.eval f=.func fn fa fc:=by
    unfold Cx.s8 at hc;split at hc
    ·generalize a.eval f=c at f1;cases f1;exact⟨_,_,_,rfl⟩
    ·generalize a.eval f=c at f1;cases f1;exact⟨_,_,_,rfl⟩
    ·cases hc
   obtain⟨fn,fa,fc,Uq⟩:=mD;rw[Uq] at f1;refine ziN rfl gT eV hd ez fN h hc f1 f2 a1 a2 a3 ?_ hE;simp[execOp,ho,resolve,iw,Uq,Deferred.ofValue]
  ·rename_i rcv m iw;split at aF<;>try (cases aF;done)
   rename_i rv args hf ha;split at aF<;>simp only[aR,reduceCtorEq,bS] at aF;rename_i r' H' hc;obtain⟨rfl,rfl⟩:=aF;obtain⟨f1,f2,_⟩:=qZ h hf;obtain⟨a1,a2,a3⟩:=Yh h ha
   refine ziN (fn:=.method m) (fa:=#[]) (fc:=#[]) (bx:=#[a.eval rcv]++c.args.map a.eval) rfl gT eV hd ez fN h hc (.fn rfl rfl (λ_ _ _ e=>by simp at e) (λ_ _ _ e=>by simp at e)) (by simp[V.top,aI]) (by simp at a1 ⊢;omega) ?_ (uu.2 ⟨f2,a3⟩) ?_ hE
   ·exact yd (l:=[rv]) (x:=#[a.eval rcv]) rfl (λj z v hz hv=>by
     cases j with
     | zero=>simp at hz hv;subst hz;subst hv;exact f1
     | succ j=>simp at hz) a2
   ·simp[execOp,ho,resolve,iw]
 ·rename_i c ho;split at aF<;>try (cases aF;done)
  rename_i f iw;split at aF<;>simp only[aR,reduceCtorEq,bS] at aF;rename_i f' first cap args hf ha
  obtain⟨rfl,rfl⟩:=aF;obtain⟨f1,f2,_⟩:=qZ h hf;obtain⟨a1,a2,a3⟩:=Yh h ha;generalize Uq:a.eval f=cf at f1;cases f1 with
  | fn e1 e2 e3 e4 =>
   rename_i fa fc;have ht:=uu.1 (show max (aI first) (aI cap)<=s.H.aj.length from f2)
   have cX:(execOp a.eval o).run cx.P w=.ok (.defer { target:=.fn (.func f') fc,args:=fa++c.args.map a.eval }) w:=by
    simp[execOp,ho,resolve,iw,Uq,Deferred.ofValue]
   unfold Oper.wp;rw[cX,Oper.upon_defer];refine hE.skip rfl g { a with defers:={ target:=.fn (.func f') fc,args:=fa++c.args.map a.eval }::a.defers } w ?_
   refine { cN:=h.cN,len:=h.len,env:=h.env,cW:=h.cW,n0:=h.n0,aW:=h.aW,dA:=h.dA,fr:=h.fr,gR:=h.gR,nw:=h.nw,cQ:=h.cQ,dD:=by simp[h.dD],defers:=λj x q hx hq=>?_,marks:=λd hd D hD=>(by rcases dh.1 hd with e|Gi;{ subst e;cases hD };{ exact h.marks d Gi D hD }),iJ:=.cons (λ_ _ D hD=>nomatch hD) h.iJ }
   cases j with
   | zero =>
    simp only[Ba,aR] at hx hq;subst hx;subst hq;exact .inl ⟨f',first,cap,fc,rfl,rfl,by rw[bY,e1,Array.size_append,a1],e2,yd e1 e3 a2,e4,vx ht.1 a3,ht.2⟩
   | succ j=>exact h.defers j x q (by simpa using hx) (by simpa using hq)
 ·rename_i x ho;split at aF<;>simp only[aR,reduceCtorEq,bS] at aF;rename_i t v hx;obtain⟨rfl,rfl⟩:=aF;obtain⟨x1,x2,_⟩:=qZ h hx;generalize Kw:a.eval x=Un at x1;cases x1 with
  | fq hv =>
   rename_i cv;unfold Oper.wp;have:(execOp a.eval o).run cx.P w=.halt (.panic (.iface t cv)) w:=by
    simp[execOp,ho,Kw,Instr.panic,goPanic]
   rw[this,Oper.upon_panic];exact hE.p7 _ rfl g (.iface t cv) a w h (.fq hv) x2
 ·exact uY aF
end
section
variable{P:aM}{B:eu}{g:Gh}{s:St}{a:Act}{w:aK}
def Qw(g:Gh)(n:Nat):Ex->Exit->Prop
 | .normal,.normal=>True
 | .exit i,.exit j=>i=j
 | .goto i,.goto j=>i=j
 | .ret,.ret=>True
 | .p7 v,.panic chain=>∃cv,chain=[{ v:=cv,recovered:=false }]/\aQ g v cv/\v.top<=n
 | _,_=>False
def xg(B:eu)(ex:Ex)(s':St):Exit->Act->aK->Prop:=λe a w=>∃g,Rel B g s' a w/\Qw g s'.H.aj.length ex e
def y5(h:Rel B g s a w){ops:Array Oper}{o:Oper}{b:Bool}(hw:q8 ops o s.env=some b):Region.wanted o (yielded ops a.tmps)=b:=by
 unfold q8 at hw;unfold Region.wanted;split at hw
 next hg=>simp only[aR] at hw;rw[hg,<- hw]
 ·rename_i j want hg;rw[hg];simp only;split at hw<;>try (cases hw;done)
  rename_i d hd;rw[zV] at hw;unfold yielded;rw[hd];simp only[bC];split at hw<;>simp only[aR,reduceCtorEq] at hw
  next c hc=>obtain⟨cv,mY,_⟩:=h.slot hc;have hr:=(h.env d _ cv hc mY).1;cases hr;rw[mY];simp only[<- hw];cases c<;>cases want<;>rfl
  next c hc=>obtain⟨cv,mY,_⟩:=h.slot hc;have hr:=(h.env d _ cv hc mY).1;cases hr;rw[mY,<- hw];rfl
def Oo(h:Rel B g s a w)(o:Oper):Ew B g s a w o.dst (.bz []) undef :=
 ⟨h,.bz rfl (λ_ _ _ e=>by simp at e),λ_ _=>trivial,ga _⟩
def Yi{cx:Cx}(mh:pM P cx B){all:Array Oper}{takes:bP}{ex:Ex}{s':St}{Q:Exit->Act->aK->Prop}(hQ:∀e a w,xg B ex s' e a w->Q e a w):∀(l:List Oper)(s:St)(g:Gh)(a:Act)(w:aK),Rel B g s a w->cx.ops all takes l s=some (ex,s')->wpList P all Q l a w
 | [],s,g,a,w,h,hc=>by
  simp only[Cx.ops,aR,bS] at hc;obtain⟨rfl,rfl⟩:=hc;exact hQ _ _ _ ⟨g,h,trivial⟩
 | o::os,⟨env,H,lk,df⟩,g,a,w,h,hc=>by
  have ih:=Yi mh (all:=all) (takes:=takes) hQ os;simp only[Cx.ops] at hc;unfold wpList;split at hc<;>try (cases hc;done)
  ·rename_i hw;rw[if_neg (by rw[y5 h hw];simp)]
   rw[jX] at hc;exact ih _ g _ w (xc (Oo h o)) hc
  ·rename_i hw;rw[if_pos (y5 h hw)]
   left
   split at hc<;>try (cases hc;done)
   next v dy H' oh Cs aF=>rw[jX] at hc;refine Mc mh h aF ⟨λv' hv g' cv a' w' hk=>?_,(λhv=>nomatch hv),(λv' hv=>nomatch hv)⟩;cases hv;exact ih _ g' _ w' (xc hk) hc
   next dy H' oh Cs aF=>rw[jX] at hc;refine Mc mh h aF ⟨(λv' hv=>nomatch hv),λ_ g' a' w' hk=>?_,(λv' hv=>nomatch hv)⟩;exact ih _ g' _ w' (xc (Oo hk o)) hc
   next v s1 aF=>simp only[aR,bS] at hc;obtain⟨rfl,rfl⟩:=hc;refine Mc mh h aF ⟨(λv' hv=>nomatch hv),(λhv=>nomatch hv),λv' hv g' cv a' w' hk h1 h2=>?_⟩;cases hv;exact hQ _ _ _ ⟨g',hk,cv,rfl,h1,h2⟩
def Rel.bu(h:Rel B g s a w):Rel B g { s with lk:=[] } a w :=
 {cN:=h.cN,len:=h.len,env:=h.env,cW:=h.cW,n0:=h.n0,aW:=h.aW,dA:=h.dA,fr:=h.fr,gR:=h.gR,nw:=λ_ hp=>by simp at hp,cQ:=h.cQ,dD:=h.dD,defers:=h.defers,marks:=h.marks,iJ:=h.iJ }
def Oq(P:aM)(cx:Cx)(B:eu):Prop:=pM P cx B->∀(id:Nat)(ops:Array Oper)(s s':St)(ex:Ex)(g:Gh)(a:Act)(w:aK),cx.draw ops s=some (ex,s')->Rel B g s a w->(Code.region id ops true).wp P (xg B ex s') a w
def Ot(P:aM)(cx:Cx)(B:eu):Prop:=pM P cx B->∀(n:Nat)(f:aO)(ps:Array Tmp)(as bd:Code)(s s':St)(ex:Ex)(g:Gh)(a:Act)(w:aK),cx.code n (.rangeFunc f ps as bd) s=some (ex,s')->Rel B g s a w->(Code.rangeFunc f ps as bd).wp P (xg B ex s') a w
def vy{B:eu}{ex:Ex}{s':St}{K:Act->aK->Prop}{Q:Exit->Act->aK->Prop}(hn:ex=.normal->∀g a w,Rel B g s' a w->K a w)(ho:ex≠.normal->∀e a w,xg B ex s' e a w->Q e a w):∀e a w,xg B ex s' e a w->Exit.then K Q e a w:=by
 rintro e a w ⟨g,h1,h2⟩;cases ex<;>cases e<;>first
  |(exact h2.elim)
  |(exact hn rfl g a w h1)
  | (exact ho (λe=>by cases e) _ _ _ ⟨g,h1,h2⟩)
def zlp{cx:Cx}(mh:pM P cx B)(gC:Oq P cx B)(hrg:Ot P cx B)(n:Nat):∀(c:Code)(s s':St)(ex:Ex)(g:Gh)(a:Act)(w:aK),cx.code n c s=some (ex,s')->Rel B g s a w->c.wp P (xg B ex s') a w:=by
 intro c
 induction c with
 | skip =>
  intro s s' ex g a w hc h;simp only[Cx.code,aR,bS] at hc;obtain⟨rfl,rfl⟩:=hc;exact Go.wp_skip ⟨g,h,trivial⟩
 | label l =>
  intro s s' ex g a w hc h;simp only[Cx.code,aR,bS] at hc;obtain⟨rfl,rfl⟩:=hc;exact wp_label ⟨g,h,trivial⟩
 | region id ops draw =>
  intro s s' ex g a w hc h;cases draw with
  | false =>
   obtain⟨env,H,lk,df⟩:=s;simp only[Cx.code] at hc;exact wp_region_list (Yi mh (λ_ _ _ q=>q) _ _ g a w h.bu hc)
  | true =>
   simp only[Cx.code] at hc;exact gC mh id ops s s' ex g a w hc h
 | seq x y DH Gj =>
  intro s s' ex g a w hc h;simp only[Cx.code] at hc;split at hc<;>try (cases hc;done)
  next s1 hx=>refine wp_seq (Code.wp_mono (vy (λ_ g' a' w' h'=>Gj s1 s' ex g' a' w' hc h') (λe=>absurd rfl e)) (DH s s1 .normal g a w hx h))
  next e1 s1 cG hx=>simp only[aR,bS] at hc;obtain⟨rfl,rfl⟩:=hc;refine wp_seq (Code.wp_mono (vy (λe=>absurd e ?_) (λ_ _ _ _ q=>q)) (DH s _ _ g a w hx h));exact λe=>by simp_all
 | cond c x y DH Gj =>
  intro s s' ex g a w hc h;simp only[Cx.code] at hc;split at hc<;>try (cases hc;done)
  next hp=>have c1:=(qZ h hp).1;generalize s_:a.eval c=cc at c1;cases c1;exact wp_cond_true s_ (DH s s' ex g a w hc h)
  next hp=>have c1:=(qZ h hp).1;generalize s_:a.eval c=cc at c1;cases c1;exact wp_cond_false s_ (Gj s s' ex g a w hc h)
 | block id c ih =>
  intro s s' ex g a w hc h;simp only[Cx.code] at hc;split at hc<;>try (cases hc;done)
  ·rename_i i s1 hx;simp only[aR,bS] at hc;obtain⟨rfl,rfl⟩:=hc;refine wp_block (Code.wp_mono ?_ (ih s s1 (.exit i) g a w hx h));rintro e a' w' ⟨g',h1,h2⟩;cases e<;>first|(exact h2.elim)|skip
   rename_i j;have:i=j:=h2;subst this;simp only[Exit.inBlock];split
   next e=>subst e;exact⟨g',h1,by simp[Qw]⟩
   ·rename_i e;refine⟨g',h1,?_⟩;have:Nat.beq i id=false:=by
     cases hb:Nat.beq i id with
     | false=>rfl
     | true=>exact absurd (gy hb) e
    simp[this,Qw]
  ·rename_i e1 s1 cG hx;simp only[aR,bS] at hc;obtain⟨rfl,rfl⟩:=hc;refine wp_block (Code.wp_mono ?_ (ih s _ _ g a w hx h));rintro e a' w' ⟨g',h1,h2⟩;cases e with
   | exit j=>cases e1<;>first|(exact h2.elim)|(exact(cG _ rfl).elim)
   | _=>exact⟨g',h1,h2⟩
 | loop c ih =>
  intro s s' ex g a w hc h;simp only[Cx.code] at hc;refine wp_loop_rounds n ?_;have key:∀(m:Nat)(s:St)(g:Gh)(a:Act)(w:aK),xK (cx.code n c) m s=some (ex,s')->Rel B g s a w->Code.rounds P c (xg B ex s') m a w:=by
   intro m
   induction m with
   | zero=>intro s g a w hi;simp[xK] at hi
   | succ m Yj =>
    intro s g a w hi h;simp only[xK] at hi;rw[rounds_succ];split at hi<;>try (cases hi;done)
    next s1 hx=>exact Code.wp_mono (vy (λ_ g' a' w' h'=>Yj s1 g' a' w' hi h') (λe=>absurd rfl e)) (ih s s1 .normal g a w hx h)
    next e1 s1 cG hx=>simp only[aR,bS] at hi;obtain⟨rfl,rfl⟩:=hi;exact Code.wp_mono (vy (λe=>absurd e (λe=>by simp_all)) (λ_ _ _ _ q=>q)) (ih s _ _ g a w hx h)
  exact key n s g a w hc h
 | exit id =>
  intro s s' ex g a w hc h;simp only[Cx.code,aR,bS] at hc;obtain⟨rfl,rfl⟩:=hc;exact wp_exit ⟨g,h,rfl⟩
 | ret =>
  intro s s' ex g a w hc h;simp only[Cx.code,aR,bS] at hc;obtain⟨rfl,rfl⟩:=hc;exact wp_ret ⟨g,h,trivial⟩
 | scope c ih =>
  intro s s' ex g a w hc h;simp only[Cx.code] at hc;split at hc<;>try (cases hc;done)
  rename_i e1 s1 hng hx;simp only[aR,bS] at hc;obtain⟨rfl,rfl⟩:=hc;refine wp_scope_straight (Code.wp_mono ?_ (ih s _ _ g a w hx h));rintro e a' w' ⟨g',h1,h2⟩;cases e with
  | goto l=>cases e1<;>first|(exact h2.elim)|(exact(hng _ rfl).elim)|(exact(hng _ _ rfl).elim)|(simp_all;done)
  | _=>exact⟨g',h1,h2⟩
 | rangeFunc f ps as bd=>intro s s' ex g a w hc h;exact hrg mh n f ps as bd s s' ex g a w hc h
 | _=>intro s s' ex g a w hc;simp[Cx.code] at hc
end
section
variable{P:aM}{B:eu}{g:Gh}{s:St}{a:Act}{w:aK}
def zgl(n:Nat):aI (List.replicate n (V.bz []))=0:=by
 induction n with
 | zero=>rfl
 | succ n ih=>simp[List.replicate_succ,aI,V.top,ih]
def ziR{H:Hp}{args:aA}{bx:dI}(hw:rj g H.aj w)(ha:gz g H.aj.length args bx)(d n:Nat) :
  Rel ⟨d,H.aj,g,w,[]⟩ g ⟨args++List.replicate (n - args.length) (.bz []),⟨H.aj,[]⟩,[],[]⟩ { tmps:=bx++Array.replicate (n - bx.size) undef,defers:=[] } w:=by
 have Yk:aQ g (.bz []) undef:=.bz rfl (λ_ _ _ e=>by simp at e)
 refine { cN:=hw,len:=by simp[ha.len],env:=λt x v hx hv=>?_,cW:=λt x hx=>?_,n0:=ek _,aW:=λb x hx=>.inr (.inr ⟨x,hx,ek _⟩),dA:=λb h1 h2=>absurd h1 (Nat.not_le.2 h2),fr:=.refl _ _ _ _,gR:=λb off hl=>?_,nw:=λ_ hp=>by simp at hp,cQ:=λ_ hp=>by simp at hp,dD:=rfl,defers:=(λ_ _ _ hx=>by simp at hx),marks:=(λ_ hd=>by simp at hd),iJ:=.nil }
 ·rcases lP t args.length with h|h
  ·have dG:bx[t]?=some v:=by rw[Array.getElem?_append_left (by rw[<- ha.len];exact h)] at hv;exact hv
   have mC:args[t]?=some x:=by
    have:(args++List.replicate (n - args.length) (V.bz []))[t]?=some x:=hx
    rwa [mz h] at this
   refine⟨ha.rel t x v mC dG,?_⟩;have:=ha.no x (qI mC);unfold c_;split
   ·exact absurd rfl (this _ _ _)
   ·trivial
  ·have mC:(List.replicate (n - args.length) (V.bz []))[t - args.length]?=some x:=by
    have:(args++List.replicate (n - args.length) (V.bz []))[t]?=some x:=hx
    rwa [oe h] at this
   have dG:(Array.replicate (n - bx.size) undef)[t - bx.size]?=some v:=by rw[Array.getElem?_append_right (by rw[<- ha.len];exact h)] at hv;exact hv
   rw[Ki] at mC;rw[Array.getElem?_replicate] at dG;split at mC<;>simp only[aR,reduceCtorEq] at mC;split at dG<;>simp only[aR,reduceCtorEq] at dG;subst mC;subst dG;exact⟨Yk,trivial⟩
 ·have mC:(args++List.replicate (n - args.length) (V.bz []))[t]?=some x:=hx;refine cZ (qg (qI mC)) (vx ha.top ?_);rw[zgl];exact ga _
 ·rcases hl with hl|⟨q,hq,_⟩
  ·exact hl
  ·simp at hq
def jl(n0:Nat)(es:bk)(top:Nat)(H:Hp):Hp :=
 if Nat.ble top n0 && H.aW.all (λe=>Nat.ble n0 e.1 || Nat.ble e.2 n0) then ⟨H.aj.take n0,H.aW.filter (λe=>Nat.blt e.1 n0)++es⟩ else ⟨H.aj,H.aW++es⟩
def wy{β:Type}(n0:Nat)(es:bk)(top:Nat)(H:Hp)(k:Hp->β):P8 n0 es top H k=k (jl n0 es top H):=by
 cases H;simp only[P8,jl,fj];split<;>rfl
def c_.less{n n':Nat}(hn:n'<=n){l:Loc}{x:V}{cv:aS}(h:c_ g n w l x cv):c_ g n' w l x cv:=by
 unfold c_ at *;split
 ·obtain⟨vs,h1,h2⟩:=h;exact⟨vs,h1,λc hc=>⟨(h2 c hc).1,(h2 c hc).2.1,λb hb=>(h2 c hc).2.2 b (oY hb hn)⟩⟩
 ·trivial
def gG.less{n n' b:Nat}(hn:n'<=n){x:br}(h:gG g n w b x):gG g n' w b x:=by
 cases x with
 | cells cs t =>
  obtain⟨arr,h1,h2,h3⟩:=h;exact⟨arr,h1,h2,λj x v hx hv=>⟨(h3 j x v hx hv).1,(h3 j x v hx hv).2.1,(h3 j x v hx hv).2.2.1.less hn,(h3 j x v hx hv).2.2.2⟩⟩
 | map es=>exact h
 | iter l p=>exact h
 | ul fE sz cs e =>
  obtain⟨c,len,cap,vs,hu⟩:=h;exact⟨c,len,cap,vs,{ hu with others:=λb' dK=>hu.others b' (oY dK hn) }⟩
def Yl{d:Nat}{H0:Hp}{g0:Gh}{w0:aK}(DI:rj g0 H0.aj w0)(h:Rel ⟨d,H0.aj,g0,w0,[]⟩ g s a w){top:Nat}(ht:top<=s.H.aj.length) :
  lZ d H0 g0 w0 (jl H0.aj.length H0.aW top s.H) g w/\top<=(jl H0.aj.length H0.aW top s.H).aj.length/\(jl H0.aj.length H0.aW top s.H).aj.length<=s.H.aj.length:=by
 have Bf:H0.aj.length<=s.H.aj.length:=h.n0;have IT:∀b off,j8 H0.aj b off->j8 s.H.aj b off:=λb off hl=>h.gR b off (.inl hl);unfold jl;split
 ·rename_i hc;simp only[cR,Fc,mT] at hc;obtain⟨o6,uV⟩:=hc;have hlen:(s.H.aj.take H0.aj.length).length=H0.aj.length:=by simp[Bf]
  have fu:∀b,b<H0.aj.length->(s.H.aj.take H0.aj.length)[b]?=s.H.aj[b]?:=λb hb=>by rw[um,if_pos hb]
  have BB:∀(b:Nat)(x:br),(s.H.aj.take H0.aj.length)[b]?=some x->b<H0.aj.length/\s.H.aj[b]?=some x:=λb x hx=>by
   have hb:=(eE.1 hx).1;rw[hlen] at hb;exact⟨hb,(fu b hb) ▸ hx⟩
  have iz:∀(b:Nat)(x:br),b<H0.aj.length->s.H.aj[b]?=some x->x.top<=b+1\/(∃m,(b,m)∈s.H.aW/\m<=H0.aj.length/\x.top<=m)\/∃y:br,H0.aj[b]?=some y/\x.top<=y.top:=λb x hb hx=>by
   rcases h.aW b x hx with h1|⟨m,h1,h2⟩|h1
   ·exact .inl h1
   ·refine .inr (.inl ⟨m,h1,?_,h2⟩);rcases uV _ h1 with h3|h3
    ·have:=sE h3;simp only at this;omega
    ·exact sE h3
   ·exact .inr (.inr h1)
  refine⟨{ cN:={ mem:=h.cN.mem,lt:=λb hb=>h.cN.lt b (by simp only at hb;omega),inj:=λb b' hb dK e=>h.cN.inj b b' (by simp only at hb;omega) (by simp only at dK;omega) e,apart:=λb hb=>h.cN.apart b (by simp only at hb;omega),eK:=h.cN.eK,dN:=λb hb=>h.cN.dN b (by simp only at hb;omega),ok:=λb x hx=>?_,aI:=λb x hx=>?_,laid:=λc hc=>⟨(h.cN.laid c hc).1,(h.cN.laid c hc).2.1,λb hb=>(h.cN.laid c hc).2.2 b (by simp only at hb;omega)⟩ },fr:=h.fr,len:=by simp only;omega,dA:=λb h1 h2=>by simp only at h2;omega,aW:=λb x hx=>?_,uA:=λp hp=>CA _ hp,gR:=λb off hl=>?_ },by simp only;rw[hlen];exact sE o6,by simp only;omega⟩
  ·obtain⟨_,mC⟩:=BB b x hx;simp only;exact(h.cN.ok b x mC).less (by omega)
  ·obtain⟨hb,mC⟩:=BB b x hx;simp only;rw[hlen];rcases iz b x hb mC with h1|⟨m,_,h1,h2⟩|⟨y,h1,h2⟩
   ·omega
   ·omega
   ·exact cZ h2 (DI.aI b y h1)
  ·obtain⟨hb,mC⟩:=BB b x hx;rcases iz b x hb mC with h1|⟨m,h0,h1,h2⟩|h1
   ·exact .inl h1
   ·refine .inr (.inl ⟨m,Ck _ (List.mem_filter.2 ⟨h0,?_⟩),h2⟩);simpa[Ep] using hb
   ·exact .inr (.inr h1)
  ·obtain⟨cs,t,sz,xs,h1,h2⟩:=IT b off hl;obtain⟨_,_,_,_,k1,_⟩:=hl;exact⟨cs,t,sz,xs,by simp only;rw[fu b (eE.1 k1).1];exact h1,h2⟩
 ·refine⟨{ cN:=h.cN,fr:=h.fr,len:=Bf,dA:=h.dA,aW:=λb x hx=>?_,uA:=λp hp=>CA _ hp,gR:=IT },ht,ek _⟩;rcases h.aW b x hx with h1|⟨m,h1,h2⟩|h1
  ·exact .inl h1
  ·exact .inr (.inl ⟨m,Ck _ h1,h2⟩)
  ·exact .inr (.inr h1)
end
section
variable{P:aM}{B:eu}{g:Gh}{s:St}{a:Act}{w:aK}
def Ym{tmps:dI}{t:Nat}{cv:aS}(h:tmps[t]?=some cv):tmps.getD t undef=cv:=by
 obtain⟨h1,h2⟩:=sQ.1 h;simp[Array.getD,h1,h2]
def ziS{p:V}{cp:aS}(hr:aQ g p cp){t:aq}{v:V}{H:Hp}(hl:qJ P H (λ_ _=>none) t p=some v):(do loadVar t (<- asAddr cp):Sem aS).run P w=(Instr.loadAt t cp).run P w:=by
 unfold qJ at hl;split at hl
 ·cases hr;simp[Instr.loadAt,Instr.sureAddr,asAddr]
 ·cases hr;simp[Instr.loadAt,Instr.sureAddr,asAddr]
 ·cases hr;simp[Instr.loadAt,Instr.sureAddr,asAddr]
 ·cases hr;simp[Instr.loadAt,Instr.sureAddr,asAddr]
 ·cases hl
def I5(tmps:dI):ResultVar->Sem aS
 | .tmp t=>pure (tmps.getD t undef)
 | .cell x t=>do loadVar t (<- asAddr (tmps.getD x undef))
def Md:dY->aS
 | [v]=>v
 | vs=>.tuple vs.toArray
def zkx(fn:Func)(tmps:dI):results fn tmps=(do let vs <- fn.results.toList.mapM (I5 tmps);pure (Md vs)):=by
 have h1:results fn tmps=(do let vs <- fn.results.mapM (I5 tmps);pure (if h:vs.size=1 then vs[0] else .tuple vs)):=by
  unfold results
  congr 1
  try (congr 1;try (funext x;cases x<;>rfl))
 rw[h1,Array.mapM_eq_mapM_toList];simp only[bind_map_left]
 congr 1
 funext vs
 match vs with
 | []=>rfl
 | [v]=>rfl
 | v::u::r=>simp[Md]
def zhz{H:Hp}{env:aA}:∀{rs:List ResultVar},ja P H env rs=some []->rs=[]
 | [],_=>rfl
 | .tmp t::rs,h=>by
  simp only[ja] at h;split at h<;>simp at h
 | .cell c t::rs,h=>by
  simp only[ja] at h;split at h<;>try (cases h;done)
  split at h<;>simp at h
def Yn(h:Rel B g s a w):∀{rs:List ResultVar}{vs:aA},ja P s.H s.env rs=some vs ->
  ∃EC:dY,(rs.mapM (I5 a.tmps)).run P w=.ok EC w/\vs.length=EC.length /\
   (∀(j:Nat)(x:V)(v:aS),vs[j]?=some x->EC[j]?=some v->aQ g x v)/\aI vs<=s.H.aj.length
 | [],vs,hr=>by
  simp only[ja,aR] at hr;subst hr;exact⟨[],by simp,rfl,λ_ _ _ hx=>by simp at hx,ga _⟩
 | .tmp t::rs,vs,hr=>by
  simp only[ja] at hr;split at hr<;>simp only[aR,reduceCtorEq] at hr;rename_i v us hv CI;subst hr;rw[zV] at hv;obtain⟨EC,h1,h2,h3,h4⟩:=Yn h CI;obtain⟨cv,mY,_⟩:=h.slot hv;refine⟨cv::EC,?_,by simp[h2],λj x u hx hu=>?_,uu.2 ⟨h.cW t v hv,h4⟩⟩
  ·have hF:I5 a.tmps (.tmp t)=pure cv:=by simp only[I5];rw[Ym mY]
   simp[List.mapM_cons,hF,h1]
  ·cases j with
   | zero=>simp at hx hu;subst hx;subst hu;exact(h.env t _ _ hv mY).1
   | succ j=>exact h3 j x u (by simpa using hx) (by simpa using hu)
 | .cell c t::rs,vs,hr=>by
  simp only[ja] at hr;split at hr<;>try (cases hr;done)
  rename_i p hp;split at hr<;>simp only[aR,reduceCtorEq] at hr;rename_i v us hl CI;subst hr;rw[zV] at hp;obtain⟨EC,h1,h2,h3,h4⟩:=Yn h CI;obtain⟨cp,Me,_⟩:=h.slot hp;have hrp:=(h.env c _ _ hp Me).1;obtain⟨cv,l1,l2,l3⟩:=ziC h (gl:=λ_ _=>none) ⟨λ_ _ _ e=>(nomatch e),λ_ _ _ e=>(nomatch e)⟩ hrp (h.cW c p hp) hl
  refine⟨cv::EC,?_,by simp[h2],λj x u hx hu=>?_,uu.2 ⟨by rw[dx];exact l3,h4⟩⟩
  ·have hF:(I5 a.tmps (.cell c t)).run P w=.ok cv w:=by
    simp only[I5];rw[Ym Me];exact(ziS (P:=P) (w:=w) hrp hl).trans l1
   simp[List.mapM_cons,hF,h1]
  ·cases j with
   | zero=>simp at hx hu;subst hx;subst hu;exact l2.aT
   | succ j=>exact h3 j x u (by simpa using hx) (by simpa using hu)
def zfg(h:Rel B g s a w){fn:Func}{vs:aA}(hr:ja P s.H s.env fn.results.toList=some vs)(l:Loc) :
  ∃g' s' cv,(results fn a.tmps).run P w=.ok cv w/\s'.H=s.H/\Rel B g' s' a w/\aQ g' (iI vs) cv/\c_ g' s.H.aj.length w l (iI vs) cv/\(iI vs).top<=s.H.aj.length:=by
 obtain⟨EC,h1,h2,h3,h4⟩:=Yn h hr;have cX:(results fn a.tmps).run P w=.ok (Md EC) w:=by
  rw[zkx];simp[h1]
 match vs,h2,h3,h4,hr with
 | [v],h2,h3,h4,hr =>
  obtain⟨cv,rfl⟩:∃cv,EC=[cv]:=by
   match EC,h2 with
   | [cv],_=>exact⟨cv,rfl⟩
  have hv:aQ g v cv:=h3 0 v cv rfl rfl;have ht:v.top<=s.H.aj.length:=cZ (Eo _ _) h4;have plain:(∀k,c_ g k w l v cv)->∃g' s' cv,(results fn a.tmps).run P w=.ok cv w/\s'.H=s.H/\Rel B g' s' a w/\aQ g' (iI [v]) cv/\c_ g' s.H.aj.length w l (iI [v]) cv/\(iI [v]).top<=s.H.aj.length :=
   λho=>⟨g,s,cv,cX,rfl,h,hv,ho _,ht⟩
  by_cases lG:∃sz xs e,v=.sl sz xs (.yes e)
  ·obtain⟨sz,xs,e,rfl⟩:=lG;cases Yo:fn.results.toList with
   | nil=>rw[Yo] at hr;simp[ja] at hr
   | cons r rs =>
    rw[Yo] at hr;cases r with
    | tmp t =>
     simp only[ja] at hr;split at hr<;>simp only[aR,reduceCtorEq,List.cons.injEq] at hr;rename_i y us hy CI;obtain⟨rfl,rfl⟩:=hr;rw[zV] at hy;have iu:take s.env (.tmp t)=some (.sl sz xs (.yes e),s.env.set t (.sl sz xs .no)):=by
      simp[take,zV,hy,fB]
     obtain⟨g',k1,k2,k3,k4,_⟩:=gS h iu l;obtain⟨cv',Yp,he⟩:=h.slot hy;have pz:a.eval (.tmp t)=cv:=by
      rw[he];have Yq:=zhz CI;have hF:I5 a.tmps (.tmp t)=pure cv':=by simp only[I5];rw[Ym Yp]
      rw[Yo,Yq] at h1;simp[List.mapM_cons,hF] at h1;exact h1
     rw[pz] at k2 k3;exact⟨g',{ s with env:=s.env.set t (.sl sz xs .no) },cv,cX,rfl,k1,k2,k3,ht⟩
    | cell c t =>
     exfalso;simp only[ja] at hr;split at hr<;>try (cases hr;done)
     split at hr<;>simp only[aR,reduceCtorEq,List.cons.injEq] at hr;exact yx _ _ _ _ hr.1
  ·refine plain λk=>?_;unfold c_;split
   next sz xs e=>exact absurd ⟨sz,xs,e,rfl⟩ lG
   ·trivial
 | [],h2,h3,h4,hr =>
  have:EC=[]:=N0.1 h2.symm;subst this;exact⟨g,s,_,cX,rfl,h,.bz rfl (λ_ _ _ e=>by simp at e),trivial,ga _⟩
 | v::u::r,h2,h3,h4,hr =>
  match EC,h2 with
  | cv::cu::cr,h2 =>
   refine⟨g,s,_,cX,rfl,h,?_,trivial,?_⟩
   ·refine .bz (by simpa using h2) λj x y hx hy=>?_
    simp only[mS,l8] at hx;obtain⟨z,hz,rfl⟩:=hx;exact(h3 j z y hz (by simpa using hy)).aT
   ·show aI ((v::u::r).map aT)<=_;rw[kL];exact h4
end
section
variable{P:aM}{B:eu}{g:Gh}{s:St}{a:Act}{w:aK}
def fe:Option aS->Bool->FrameMode
 | none,_=>.returning
 | some cv,r=>.panicking [{ v:=cv,recovered:=r }]
def oF(g:Gh)(n:Nat):cP->Option aS->Prop
 | none,none=>True
 | some v,some cv=>aQ g v cv/\v.top<=n
 | _,_=>False
def oF.le{n n':Nat}{g g':Gh}(hg:Gh.Le n g g')(hn:n<=n'){p:cP}{pc:Option aS}(h:oF g n p pc):oF g' n' p pc:=by
 cases p<;>cases pc<;>first|exact h|exact⟨h.1.le hg h.2,cZ h.2 hn⟩
def Yr(B:eu)(ex:Ex)(s':St)(pc:Option aS)(r:Bool)(c0:Frame)(BE:List Frame):Exit->Act->List Frame->aK->Prop :=
 λe a cs w=>xg B ex s' e a w/\cs={ c0 with mode:=fe pc r }::BE
def zlq{cx:Cx}(mh:pM P cx B){all:Array Oper}{takes:bP}{ex:Ex}{r':Bool}{s':St}{i_:cP}{pc:Option aS}(hp:oF B.g B.bs.length i_ pc)(c0:Frame)(BE:List Frame){Q:Exit->Act->List Frame->aK->Prop}(hQ:∀e a cs w,Yr B ex s' pc r' c0 BE e a cs w->Q e a cs w) :
  ∀(l:List Oper)(k:Nat)(s:St)(r:Bool)(g:Gh)(a:Act)(w:aK),(∀j:Nat,l[j]?=all[k+j]?)->Rel B g s a w->cx.uw i_ all takes l r s=some (ex,r',s')->wpOpsS P all Q (List.range' k l.length) a ({ c0 with mode:=fe pc r }::BE) w
 | [],k,s,r,g,a,w,hl,h,hc=>by
  simp only[Cx.uw,aR,bS] at hc;obtain⟨rfl,rfl,rfl⟩:=hc;exact hQ _ _ _ _ ⟨⟨g,h,trivial⟩,rfl⟩
 | o::os,k,⟨env,H,lk,df⟩,r,g,a,w,hl,h,hc=>by
  have ih:=zlq mh (all:=all) (takes:=takes) hp c0 BE hQ os (k+1);have lD:∀j:Nat,os[j]?=all[k+1+j]?:=λj=>by have:=hl (j+1);simpa[cU,Nat.add_comm 1 j] using this
  have h0:all[k]?=some o:=by simpa using (hl 0).symm
  simp only[Cx.uw] at hc;simp only[bq,List.range'_succ,wpOpsS,h0];split at hc<;>try (cases hc;done)
  ·rename_i hw;rw[if_neg (by rw[y5 h hw];simp)]
   rw[jX] at hc;exact ih _ r g _ w lD (xc (Oo h o)) hc
  ·rename_i hw;rw[if_pos (y5 h hw)];split at hc
   ·rename_i mF;have cX:(execOp a.eval o).run P w=.ok .recover w:=by
     unfold zri at mF;split at mF<;>try (cases mF;done)
     rename_i c ho;split at mF<;>try (cases mF;done)
     rename_i iw;simp[execOp,ho,resolve,iw,invoke,builtin]
    rw[cX];simp only;have nil:∀r1,cx.uw i_ all takes os r1 ⟨qb env o.dst .cV,H,lk,df⟩=some (ex,r',s')->wpOpsS P all Q (List.range' (k+1) os.length) (a.put o.dst .nilIface) ({ c0 with mode:=fe pc r1 }::BE) w:=λr1 o6 =>
     ih _ r1 g _ w lD (xc (s:=⟨env,H,lk,df⟩) (v:=.cV) (cv:=.nilIface) ⟨h,.cV,λ_ _=>trivial,ga _⟩) o6
    split at hc
    ·rename_i v;rw[jX] at hc;cases pc with
     | none=>exact hp.elim
     | some cv =>
      have hv:aQ g v cv:=hp.1.le h.fr.le hp.2;have ht:v.top<=H.aj.length:=cZ hp.2 h.n0;exact ih _ true g _ w lD (xc (s:=⟨env,H,lk,df⟩) (v:=aT v) (cv:=cv) ⟨h,hv.aT,λ_ _=>wG _ _ _ _ _ _,by rw[dx];exact ht⟩) hc
    ·rename_i mu;rw[jX] at hc;have Qx:recoverD ({ c0 with mode:=fe pc r }::BE)=none:=by
      cases pc with
      | none=>rfl
      | some cv =>
       cases i_ with
       | none=>exact hp.elim
       | some v =>
        cases r with
        | false=>exact(mu v rfl rfl).elim
        | true=>rfl
     rw[Qx];exact nil r hc
   ·have cG:∀{K:Act->aK->Prop}{Q':Exit->Act->aK->Prop},o.wp P a w K Q'->(match (execOp a.eval o).run P w with
      | .ok .recover w'=>False
      | rr=>o.upon P a K Q' rr):=by
     intro K Q' Ur;unfold Oper.wp at Ur;generalize (execOp a.eval o).run P w=rr at Ur;split
     ·exact Ur
     ·exact Ur
    have fin:o.wp P a w (λa' w'=>wpOpsS P all Q (List.range' (k+1) os.length) a' ({ c0 with mode:=fe pc r }::BE) w') (λe a' w'=>Q e a' ({ c0 with mode:=fe pc r }::BE) w'):=by
     split at hc<;>try (cases hc;done)
     next v dy H' oh Cs aF=>rw[jX] at hc;refine Mc mh h aF ⟨λv' hv g' cv a' w' hk=>?_,(λhv=>nomatch hv),(λv' hv=>nomatch hv)⟩;cases hv;exact ih _ r g' _ w' lD (xc hk) hc
     next dy H' oh Cs aF=>rw[jX] at hc;refine Mc mh h aF ⟨(λv' hv=>nomatch hv),λ_ g' a' w' hk=>?_,(λv' hv=>nomatch hv)⟩;exact ih _ r g' _ w' lD (xc (Oo hk o)) hc
     next v s1 aF=>simp only[aR,bS] at hc;obtain⟨rfl,rfl,rfl⟩:=hc;refine Mc mh h aF ⟨(λv' hv=>nomatch hv),(λhv=>nomatch hv),λv' hv g' cv a' w' hk h1 h2=>?_⟩;cases hv;exact hQ _ _ _ _ ⟨⟨g',hk,cv,rfl,h1,h2⟩,rfl⟩
    have:=cG fin;split
    next w1 hrr=>rw[hrr] at this;exact this.elim
    next rr hnr=>unfold Oper.wp at fin;exact fin
def Ys{c:Code}{Q Q':Exit->Act->List Frame->aK->Prop}{cs:List Frame}(h:c.wpS P Q a cs w)(hq:∀e a cs w,Q e a cs w->Q' e a cs w):c.wpS P Q' a cs w :=
 λb k hb hr=>let ⟨e,a',cs',w',q,r⟩:=h b k hb hr;⟨e,a',cs',w',hq _ _ _ _ q,r⟩
def znT{cx:Cx}(mh:pM P cx B)(gC:Oq P cx B/\Ot P cx B)(n:Nat){i_:cP}{pc:Option aS}(hp:oF B.g B.bs.length i_ pc)(c0:Frame)(BE:List Frame):∀(c:Code)(s s':St)(ex:Ex)(r r':Bool)(g:Gh)(a:Act)(w:aK),
  cx.nj n i_ c r s=some (ex,r',s')->Rel B g s a w->c.wpS P (Yr B ex s' pc r' c0 BE) a ({ c0 with mode:=fe pc r }::BE) w:=by
 have plain:∀(c:Code)(s s':St)(ex:Ex)(r:Bool)(g:Gh)(a:Act)(w:aK),cx.code n c s=some (ex,s')->Rel B g s a w->c.wpS P (Yr B ex s' pc r c0 BE) a ({ c0 with mode:=fe pc r }::BE) w :=
  λc s s' ex r g a w hx h=>wpS_of_wp (Code.wp_mono (λ_ _ _ q=>⟨q,rfl⟩) (zlp mh gC.1 gC.2 n c s s' ex g a w hx h))
 intro c
 induction c with
 | seq x y DH Gj =>
  intro s s' ex r r' g a w hc h;simp only[Cx.nj] at hc;split at hc<;>try (cases hc;done)
  ·rename_i r1 s1 hx;refine wpS_seq (Ys (DH s s1 .normal r r1 g a w hx h) ?_);rintro e a' cs' w' ⟨⟨g',h1,h2⟩,rfl⟩;cases e<;>first
    |(exact h2.elim)
    |(exact Gj s1 s' ex r1 r' g' a' w' hc h1)
  ·rename_i x1 cG hx;simp only[aR] at hc;subst hc;refine wpS_seq (Ys (DH s _ _ r _ g a w hx h) ?_);rintro e a' cs' w' ⟨⟨g',h1,h2⟩,rfl⟩;cases ex<;>cases e<;>first
    |(exact h2.elim)
    |(exact(cG _ _ rfl).elim)
    |(exact⟨⟨g',h1,h2⟩,rfl⟩)
 | cond c x y DH Gj =>
  intro s s' ex r r' g a w hc h;simp only[Cx.nj] at hc;split at hc<;>try (cases hc;done)
  next mP=>have c1:=(qZ h mP).1;generalize s_:a.eval c=cc at c1;cases c1;exact wpS_cond s_ (by simpa using DH s s' ex r r' g a w hc h)
  next mP=>have c1:=(qZ h mP).1;generalize s_:a.eval c=cc at c1;cases c1;exact wpS_cond s_ (by simpa using Gj s s' ex r r' g a w hc h)
 | region id ops draw =>
  intro s s' ex r r' g a w hc h;cases draw with
  | false =>
   obtain⟨env,H,lk,df⟩:=s;simp only[Cx.nj] at hc;refine wpS_region ?_;have:=zlq mh hp c0 BE (λ_ _ _ _ q=>q) ops.toList 0 _ r g a w (by simp) h.bu hc
   rw[IG,<- CC];exact this
  | true =>
   simp only[Cx.nj] at hc;split at hc<;>simp only[aR,reduceCtorEq,bS] at hc;rename_i e1 s1 hx;obtain⟨rfl,rfl,rfl⟩:=hc;exact plain _ s s1 e1 r g a w hx h
 | _ =>
   intro s s' ex r r' g a w hc h;simp only[Cx.nj] at hc;split at hc<;>simp only[aR,reduceCtorEq,bS] at hc;rename_i e1 s1 hx;obtain⟨rfl,rfl,rfl⟩:=hc;exact plain _ s s1 e1 r g a w hx h
end
section
variable{P:aM}{B:eu}{g:Gh}{s:St}{a:Act}{w:aK}
def znU{gl:Nat->Nat->cP}{uq:aq->Bool}{call:FuncId->aA->Hp->Option (Out×Hp)}{d n:Nat}(gT:xL P)(eV:vQ P)(fN:L9 P gl call d)(gC:∀B,Oq P { P,gl,call,uq } B/\Ot P { P,gl,call,uq } B){i_:cP}{pc:Option aS}{f:FuncId}{args:aA}{H H':Hp}{r:Bool}{bx:dI}
  (hc:LR P gl uq call n i_ f args H=some (r,H')) (ez:lg P gl g) (hw:rj g H.aj w) (ha:gz g H.aj.length args bx) (hp:oF g H.aj.length i_ pc) :
  CallsD P f bx (fe pc false) w λe u' w'=>∃cv g',e=.returned cv/\u'=fe pc r/\lZ (d+1) H g w H' g' w':=by
 obtain⟨bs,es⟩:=H;simp only[LR] at hc;split at hc<;>try (cases hc;done)
 rename_i fn hf;split at hc<;>try (cases hc;done)
 rename_i body hb;simp only[jr,fj] at hc;have mh:pM P { P,gl,call,uq } ⟨d+1,bs,g,w,[]⟩:=⟨rfl,gT,eV,ez,d,Nat.lt_succ_self d,fN⟩;have h0:=ziR (H:=⟨bs,es⟩) hw ha (d+1) fn.ntmps
 have fin:∀(ex:Ex)(env:aA)(H1:Hp)(lk:bk),(ex=.normal\/ex=.ret)->Cx.nj { P,gl,call,uq } n i_ body false ⟨args++List.replicate (fn.ntmps - args.length) (.bz []),⟨bs,[]⟩,[],[]⟩=some (ex,r,⟨env,H1,lk,[]⟩) ->
   ∀us,ja P H1 env fn.results.toList=some us->H'=jl bs.length es 0 H1 ->
   CallsD P f bx (fe pc false) w λe u' w'=>∃cv g',e=.returned cv/\u'=fe pc r/\lZ (d+1) ⟨bs,es⟩ g w H' g' w':=by
  intro ex env H1 lk hex hx us CI hH;refine callsD_of_wpS hf hb λc0 cs hm=>?_;have key:=znT mh (gC _) n (i_:=i_) (pc:=pc) hp c0 cs body _ _ ex false r g _ w hx h0;have Ct:({ c0 with mode:=fe pc false }:Frame)=c0:=by rw[<- hm]
  rw[Ct] at key;refine Ys key ?_;rintro e a' cs' w' ⟨⟨g',h1,h2⟩,rfl⟩;have IS:a'.defers=[]:=N0.1 (by rw[<- h1.dD];rfl)
  obtain⟨g2,s2,cv,r1,r2,r3,_⟩:=zfg h1 CI .ret;have iX:=(Yl hw h1 (top:=0) (ga _)).1;have good:a'.defers=[]/\∃u',({ c0 with mode:=fe pc r }:Frame)::cs={ c0 with mode:=u' }::cs/\∃v,(results fn a'.tmps).run P w'=.ok v w'/\∃cv g',Ending.returned v=.returned cv/\u'=fe pc r/\lZ (d+1) ⟨bs,es⟩ g w H' g' w' :=
   ⟨IS,_,rfl,cv,r1,cv,g',rfl,rfl,by rw[hH];exact iX⟩
  rcases hex with rfl|rfl<;>cases e<;>first|(exact h2.elim)|(exact good)
 split at hc
 ·rename_i r1 env H1 lk hx;split at hc<;>try (cases hc;done)
  rename_i us CI;rw[wy] at hc;simp only[aR,bS] at hc;obtain⟨rfl,rfl⟩:=hc;exact fin .normal env H1 lk (.inl rfl) hx us CI rfl
 ·rename_i r1 env H1 lk hx;split at hc<;>try (cases hc;done)
  rename_i us CI;rw[wy] at hc;simp only[aR,bS] at hc;obtain⟨rfl,rfl⟩:=hc;exact fin .ret env H1 lk (.inr rfl) hx us CI rfl
 ·cases hc
def ziT(pc:Option aS):settle (fe pc true)=.returning:=by
 cases pc<;>rfl
def zhA(pc:Option aS):settle (fe pc false)=fe pc false:=by
 cases pc<;>rfl
def Us{gl:Nat->Nat->cP}{uq:aq->Bool}{call:FuncId->aA->Hp->Option (Out×Hp)}{d n:Nat}(gT:xL P)(eV:vQ P)(fN:L9 P gl call d)(gC:∀B,Oq P { P,gl,call,uq } B/\Ot P { P,gl,call,uq } B)(hd:d+1<B.d)(ez:lg P gl B.g){fn:Func}{tmps:dI}{R:Ending->aK->Prop}{H':Hp}{Mf:cP} :
  ∀(df:bH)(i_:cP)(pc:Option aS)(env:aA)(H:Hp)(lk:bk)(g:Gh)(dc:List Deferred)(w:aK),Rel B g ⟨env,H,lk,df⟩ ⟨tmps,dc⟩ w->oF g H.aj.length i_ pc->vM (LR P gl uq call n) i_ df H=some (Mf,H') ->
   (∀g' Ou w',Rel B g' ⟨env,H',lk,[]⟩ ⟨tmps,[]⟩ w'->oF g' H'.aj.length Mf Ou->match Ou with
    | none=>∃v,(results fn tmps).run P w'=.ok v w'/\R (.returned v) w'
    | some cv=>R (.panicked [{ v:=cv,recovered:=false }]) w')->Leaves P fn tmps R dc (fe pc false) w
 | [],i_,pc,env,H,lk,g,dc,w,h,hp,hc,hR=>by
  have DJ:dc=[]:=N0.1 (h.dD.symm);subst DJ;simp only[vM,aR,bS] at hc;obtain⟨rfl,rfl⟩:=hc;have:=hR g pc w h hp;cases pc with
  | none=>exact this
  | some cv=>exact this
 | (fv,args)::df,i_,pc,env,H,lk,g,dc,w,h,hp,hc,hR=>by
  cases dc with
  | nil=>have:=h.dD;simp at this
  | cons dd dc =>
   rcases h.defers 0 (fv,args) dd rfl rfl with p9|⟨Mg,_⟩
   rotate_left
   ·simp only[bS] at Mg;obtain⟨e1,e2⟩:=Mg;subst e1 e2;simp[vM] at hc
   obtain⟨f,as,cs,fc,e1,e2,e3,e4,e5,e6,e7,e8⟩:=p9;simp only at e1;subst e1;obtain⟨tg,da⟩:=dd;simp only at e2 e3 e5;subst e2;simp only[vM,fj] at hc;have Yt:∃r H1,LR P gl uq call n i_ f ((as++args++cs).map aT) H=some (r,H1)/\vM (LR P gl uq call n) (if r then none else i_) df H1=some (Mf,H'):=by
    split at hc<;>try (cases hc;done)
    next H1 hx=>exact⟨true,H1,hx,hc⟩
    next H1 hx=>exact⟨false,H1,hx,hc⟩
   obtain⟨r,H1,hx,sn⟩:=Yt;have gO:gz g H.aj.length ((as++args++cs).map aT) (da++fc):=gz.Gb (by simp only[bY,Array.size_append] at e3 ⊢;omega) (yd e3 e5 e6) (vx e7 e8)
   have Yu:lg P gl g:=ez.le h.fr.le;have hinv:(invoke (.fn (.func f) fc) da).run P w=.ok (.enter f (da++fc)) w:=by
    unfold LR at hx;simp only at hx;split at hx<;>try (cases hx;done)
    rename_i fn' Ez;split at hx<;>try (cases hx;done)
    rename_i body dK;have cG:fn'.name≠ "runtime.NumGoroutine":=by simpa using gT f fn' Ez
    simp[invoke,callFunc,Ez,dK,cG]
   refine leaves_cons (by cases pc<;>simp[fe]) hinv (CallsD.mono (znU gT eV fN gC hx Yu h.cN gO hp) λe u' w' he=>?_)
   obtain⟨cv,g',rfl,rfl,hA⟩:=he;have hrel:=h.call hd hA;have DK:Rel B g' ⟨env,H1,lk,df⟩ ⟨tmps,dc⟩ w' :=
    {cN:=hrel.cN,len:=hrel.len,env:=hrel.env,cW:=hrel.cW,n0:=hrel.n0,aW:=hrel.aW,dA:=hrel.dA,fr:=hrel.fr,gR:=hrel.gR,nw:=hrel.nw,cQ:=hrel.cQ,dD:=by have:=hrel.dD;simpa using this,defers:=λj x q hx hq=>hrel.defers (j+1) x q (by simpa using hx) (by simpa using hq),marks:=λd hd D hD=>hrel.marks d (dB _ hd) D hD,iJ:=(List.pairwise_cons.1 hrel.iJ).2 }
   have tu:oF g' H1.aj.length i_ pc:=hp.le hA.fr.le hA.len;cases r with
   | true =>
    simp only[ziT];exact Us gT eV fN gC hd ez df none none env H1 lk g' dc w' DK trivial sn hR
   | false =>
    simp only[zhA];exact Us gT eV fN gC hd ez df i_ pc env H1 lk g' dc w' DK tu sn hR
end
section
variable{P:aM}{B:eu}{g:Gh}{s:St}{a:Act}{w w':aK}
def w9(w w':aK):Prop:=∀(c:Nat)(cs:dI)(t:aq)(k:Nat×Nat),w.heap[c]?=some (Obj.cells cs t k)->w'.heap[c]?=w.heap[c]?
def Yv{row:Option Nat}(hg:w.grownBy w' row)(eN:∀r,row=some r->∃o:Obj,w.heap[r]?=some o/\o.isCells=false):w9 w w':=λc cs t k h=>by
 refine hg.block c (sQ.1 h).1 λe=>?_;obtain⟨o,h1,h2⟩:=eN c e.symm;rw[h] at h1;cases h1;cases h2
def zfi(hk:w9 w w'){ad:Addr}{v:aS}(h:w.cell? ad=some v):w'.cell? ad=some v:=by
 obtain⟨o,h1,h2⟩:=cells_of_cell h;cases o with
 | cells cs t k=>rw[World.cell?_of_block (hk _ cs t k h1)];exact h
 | _=>cases h2
def zhC(hk:w9 w w'){base e sz n:Nat}{cv:aS}{xs:dY}(h:w.ownsRow base e sz cv n xs):w'.ownsRow base e sz cv n xs:=by
 refine⟨h.1,h.2.imp id ?_⟩;rintro⟨c,cap,cur,rfl,hb,hc,r⟩;exact⟨c,cap,cur,rfl,hb,by rw[hk c _ _ _ hc];exact hc,r⟩
def zkz(hk:w9 w w'){e sz n:Nat}{cv:aS}{xs:dY}(h:rowAt w e sz cv n xs):rowAt w' e sz cv n xs:=by
 refine⟨h.1,h.2.imp id ?_⟩;rintro⟨c,o,cap,cur,rfl,hc,r⟩;exact⟨c,o,cap,cur,rfl,by rw[hk c _ _ _ hc];exact hc,r⟩
def c_.kept(hk:w9 w w'){n:Nat}{l:Loc}{x:V}{cv:aS}(h:c_ g n w l x cv):c_ g n w' l x cv:=by
 unfold c_ at *;split
 ·obtain⟨xs,h1,h2⟩:=h;exact⟨xs,zkz hk h1,h2⟩
 ·trivial
def gG.kept(hk:w9 w w'){n b:Nat}{x:br}(hm:x.LO=false->w'.heap[g.bM b]?=w.heap[g.bM b]?)(h:gG g n w b x):gG g n w' b x:=by
 cases x with
 | cells cs t =>
  obtain⟨arr,h1,h2,h3⟩:=h;refine⟨arr,(hk _ _ _ _ h1).trans h1,h2,λj x v hx hv=>?_⟩;obtain⟨k1,k2,k3,k4⟩:=h3 j x v hx hv;exact⟨k1,k2,k3.kept hk,k4⟩
 | map es =>
  obtain⟨en,ck,h1,h2⟩:=h;exact⟨en,ck,(hm rfl).trans h1,h2⟩
 | iter s pos=>exact⟨(hm rfl).trans h.1,h.2⟩
 | ul fE sz cs e =>
  obtain⟨c,len,cap,vs,hu⟩:=h;exact⟨c,len,cap,vs,hu.gC,hu.pos,zhC hk hu.row,hu.An,hu.M,hu.others,hu.len,hu.cells,hu.fresh⟩
def rj.kept{bs:List br}(h:rj g bs w)(hk:w9 w w')(gp:w.heap.size<=w'.heap.size)(hm:∀(b:Nat)(x:br),bs[b]?=some x->x.LO=false->w'.heap[g.bM b]?=w.heap[g.bM b]?):rj g bs w' where
 mem:=λc o v hv=>zfi hk (h.mem c o v hv)
 lt:=λb hb=>oY (h.lt b hb) gp
 inj:=h.inj
 apart:=h.apart
 eK:=λc l hc=>oY (h.eK c l hc) gp
 dN:=h.dN
 ok:=λb x hx=>(h.ok b x hx).kept hk (hm b x hx)
 aI:=h.aI
 laid:=λc hc=>by
  obtain⟨⟨cs,t,h1⟩,h2,h3⟩:=h.laid c hc;exact⟨⟨cs,t,(hk _ _ _ _ h1).trans h1⟩,h2,h3⟩
def Rel.BF(h:Rel B g s a w){row:Option Nat}(hg:w.grownBy w' row)(eN:∀r,row=some r->B.w.heap.size<=r/\(∃o:Obj,w.heap[r]?=some o/\o.isCells=false)/\(∀(b:Nat)(x:br),s.H.aj[b]?=some x->x.LO=false->g.bM b≠r)/\∀d∈a.defers,∀D,d.target=.collected D->D≠r):Rel B g s a w':=by
 have hk:w9 w w':=Yv hg λr e=>(eN r e).2.1;refine { cN:=h.cN.kept hk hg.size λb x hx hc=>?_,len:=h.len,env:=λt x v hx hv=>⟨(h.env t x v hx hv).1,(h.env t x v hx hv).2.kept hk⟩,cW:=h.cW,n0:=h.n0,aW:=h.aW,dA:=h.dA,fr:=?_,gR:=h.gR,nw:=h.nw,cQ:=λp hp=>?_,dD:=h.dD,defers:=h.defers,marks:=λd hd D hD=>?_,iJ:=h.iJ }
 ·refine hg.block _ (h.cN.lt b (eE.1 hx).1) λe=>?_;exact(eN _ e.symm).2.2.1 b x hx hc rfl
 ·refine⟨h.fr.le,λc hc=>?_,h.fr.own,h.fr.M,cZ h.fr.size hg.size,h.fr.lk,hg.os.trans h.fr.os,hg.tape.trans h.fr.tape,hg.output.trans h.fr.output⟩;have o6:=hc.1;have:=h.fr.size;refine(hg.block c (by omega) λe=>?_).trans (h.fr.heap c hc)
  have:=(eN c e.symm).1;omega
 ·obtain⟨p1,p2,p3,p4,p5⟩:=h.cQ p hp;exact⟨p1,p2,p3.kept hk,p4,p5⟩
 ·obtain⟨h0,h1,h2,h3⟩:=h.marks d hd D hD;refine⟨h0,(hg.block D (sQ.1 h1).1 λe=>?_).trans h1,h2,h3⟩;exact(eN D e.symm).2.2.2 d hd D hD rfl
end
section
variable{P:aM}{B:eu}{g:Gh}{w:aK}
inductive tv(P:aM):List Deferred->aK->List Deferred->aK->Prop
 |refl (ds:List Deferred) (w:aK):tv P ds w ds w
 |step {d:Deferred} {r:Nat} {ds I6:List Deferred} {w w1 w':aK}:d.target=.collected r->(Instr.takeDeferred r).run P w=.ok [] w1->tv P ds w1 I6 w'->tv P (d::ds) w I6 w'
def Yw{ds I6:List Deferred}{w w':aK}(h:tv P ds w I6 w'):∀(fr:Frame)(cs:List Frame),fr.mode≠.run->fr.defers=ds->Steps P (lone fr cs w) (lone { fr with defers:=I6 } cs w'):=by
 induction h with
 | refl ds w =>
  intro fr cs hm hd;subst hd;exact Steps.refl P _
 | @step d r ds I6 w w1 w' ht hk _ ih =>
  intro fr cs hm hd;have h1:=step_collected (cs:=cs) hm hd ht hk;have h2:=ih { fr with defers:=[]++ds } cs hm rfl;exact .head h1 h2
def zgB(P:aM)(fn:Func)(R:Ending->aK->Prop):Exit->Act->aK->Prop
 | .normal,a,w|.ret,a,w=>∃ds w',tv P a.defers w ds w'/\Leaves P fn a.tmps R ds .returning w'
 | .panic chain,a,w=>∃ds w',tv P a.defers w ds w'/\Leaves P fn a.tmps R ds (.panicking chain) w'
 | _,_,_=>False
def zdE{f:FuncId}{fn:Func}{c:Code}{args:dI}{w:aK}{R:Ending->aK->Prop}(hf:P.funcs[f]?=some fn)(hb:fn.body=some c)
  (h:c.wp P (zgB P fn R) { tmps:=args++Array.replicate (fn.ntmps - args.size) undef,defers:=[] } w):Calls P f args w R:=by
 intro cs
 let b:Frame:={ (default:Frame) with fn:=f,kind:=.normal }
 have Mh:Frame.enter P f args .normal=b.at { tmps:=args++Array.replicate (fn.ntmps - args.size) undef,defers:=[] } [.code c]:=by
  simp[Frame.enter,Frame.at,hf,hb,b]
 obtain⟨e,a',w',hq,lq⟩:=h b [] cs;rw[<- Mh] at lq;cases e with
 | normal =>
  obtain⟨ds,w1,hp,hl⟩:=hq;have h1:=Yw hp { b.at a' [] with mode:=.returning } cs (by simp) rfl
  obtain⟨e',Qy,Qz,hR,hs,p9,lD⟩:=leaves_steps ds .returning w1 { b.at a' [] with mode:=.returning,defers:=ds } cs rfl rfl rfl hf rfl hl;exact⟨e',Qy,Qz,hR,Comes.of_steps (Steps.trans lq (.head step_end h1)) hs,p9,lD⟩
 | ret =>
  obtain⟨todo,Gk⟩:=lq;obtain⟨ds,w1,hp,hl⟩:=hq;have h1:=Yw hp { b.at a' todo with mode:=.returning } cs (by simp) rfl
  obtain⟨e',Qy,Qz,hR,hs,p9,lD⟩:=leaves_steps ds .returning w1 { b.at a' todo with mode:=.returning,defers:=ds } cs rfl rfl rfl hf rfl hl;exact⟨e',Qy,Qz,hR,Comes.of_steps (Steps.trans Gk h1) hs,p9,lD⟩
 | panic chain =>
  obtain⟨todo,Gk⟩:=lq;obtain⟨ds,w1,hp,hl⟩:=hq;have h1:=Yw hp { b.at a' todo with mode:=.panicking chain } cs (by simp) rfl
  obtain⟨e',Qy,Qz,hR,hs,p9,lD⟩:=leaves_steps ds (.panicking chain) w1 { b.at a' todo with mode:=.panicking chain,defers:=ds } cs rfl rfl rfl hf rfl hl;exact⟨e',Qy,Qz,hR,Comes.of_steps (Steps.trans Gk h1) hs,p9,lD⟩
 | exit id=>exact hq.elim
 | goto l=>exact hq.elim
 | outgrown=>exact hq.elim
def zlr{tmps:dI}{env:aA}{H:Hp}{lk:bk}:∀(df:bH)(dc:List Deferred)(w:aK),Rel B g ⟨env,H,lk,df⟩ ⟨tmps,dc⟩ w ->
  ∃Ut w',tv P dc w Ut w'/\Rel B g ⟨env,H,lk,fZ df⟩ ⟨tmps,Ut⟩ w'
 | [],dc,w,h=>⟨dc,w,.refl _ _,h⟩
 | (x,l)::df,dc,w,h=>by
  by_cases hx:x=.ef/\l=[]
  ·obtain⟨rfl,rfl⟩:=hx;cases dc with
   | nil=>have:=h.dD;simp at this
   | cons d dc =>
    rcases h.defers 0 _ d rfl rfl with hd|⟨_,D,rfl⟩
    ·obtain⟨f,as,cs,fc,e1,_⟩:=hd;cases e1
    ·obtain⟨h0,h1,h2,h3⟩:=h.marks _ (eS ..) D rfl;have hmd:=List.pairwise_cons.1 h.iJ;have hrel:Rel B g ⟨env,H,lk,df⟩ ⟨tmps,dc⟩ w :=
      {cN:=h.cN,len:=h.len,env:=h.env,cW:=h.cW,n0:=h.n0,aW:=h.aW,dA:=h.dA,fr:=h.fr,gR:=h.gR,nw:=h.nw,cQ:=h.cQ,dD:=by have:=h.dD;simpa using this,defers:=λj x q hx hq=>h.defers (j+1) x q (by simpa using hx) (by simpa using hq),marks:=λd hd D hD=>h.marks d (dB _ hd) D hD,iJ:=hmd.2 }
     have DK:=hrel.BF (grownBy_putObj' w D (.deferred none)) λr e=>by
      cases e;exact⟨h0,⟨_,h1,rfl⟩,λb x hx _=>h2 b (eE.1 hx).1,λd hd D' Ov e=>hmd.1 d hd D rfl (e ▸ Ov)⟩
     obtain⟨Ut,w',k1,k2⟩:=zlr df dc _ DK;exact⟨Ut,w',.step rfl (run_takeDeferred h1) k1,k2⟩
  ·refine⟨dc,w,.refl _ _,?_⟩;have:fZ ((x,l)::df)=(x,l)::df:=by
    unfold fZ;split
    next e=>cases e;exact absurd ⟨rfl,rfl⟩ hx
    ·rfl
   rw[this];exact h
end
end Go.Vm
