/- Vm: maps, texts gone through, rows of zeros. Conditions: none but those named. -/
import Derived.Laws.MakeOwn
import Derived.Scope
import Derived.LoopN
import Derived.Recover
import Derived.Test.YthohlnmcjkjeiaaGreatDoorVmA
namespace Go.Vm
open Go
section
variable{P:aQ}{B:dS}{g:Gh}{s:St}{a:Act}{w:aP}
theorem zgC{_kd:TypeDesc}{k x:V}{ck cx:bt}(h:Jr k x=some true)(h1:aR g k ck)(h2:aR g x cx)(n:Nat):Instr.sameBits n cx ck=true:=by
 unfold Jr at h;split at h
 ·split at h<;>simp only[br,reduceCtorEq] at h;rename_i e;subst e;cases h1;cases h2;have:=beq_iff_eq.1 h;subst this;simp[Instr.sameBits]
 ·simp only[br] at h;cases h1 with
  | str b1=>cases h2 with
   | str b2 =>
    have:=o5 _ _ b1 b2;rw[h] at this;simp only[Instr.sameBits,beq_toListBytes,vm];rw[beq_iff_eq] at this ⊢;exact this.symm
 ·simp only[br] at h;cases h1;cases h2;have:=beq_iff_eq.1 h;subst this;simp[Instr.sameBits]
 ·cases h
theorem zi2{kd:TypeDesc}{k x:V}{ck cx:bt}(hk:v8 kd k=true)(h1:aR g k ck)(h2:aR g x cx):∀{es iD:List (V×V)}{en:List MapEntry}(i:Nat),nw g es en->Hs k x es=some iD ->
  (Instr.findNow kd ck en i=some none/\iD=es++[(k,x)]) \/
  ∃j e cv,Instr.findNow kd ck en i=some (some (i+j,cv))/\en[j]?=some e/\Instr.sameBits 10000 e.key ck=true/\iD=es.set j (k,x)/\j<es.length
 | [],_,[],i,_,h=>by simp only[Hs,br] at h;subst h;exact .inl ⟨rfl,rfl⟩
 | [],_,_::_,i,hr,h=>by have:=hr.len;simp at this
 | _::_,_,[],i,hr,h=>by have:=hr.len;simp at this
 | (y,v)::es,iD,e::en,i,hr,h=>by
  obtain⟨ht,hy,hv⟩:=hr.tail;simp only[Hs] at h;split at h
  next o7=>simp only[br] at h;subst h;exact .inr ⟨0,e,e.val,by simp[Instr.findNow,yx hk o7 h1 hy],rfl,zgC (_kd:=kd) o7 h1 hy _,rfl,by simp⟩
  ·rename_i o7;simp only[m9] at h;obtain⟨r,C_,rfl⟩:=h;rcases zi2 hk h1 h2 (i+1) ht C_ with⟨h3,h4⟩|⟨j,e',cv,h3,h4,h5,h6,h7⟩
   ·exact .inl ⟨by simp[Instr.findNow,yx hk o7 h1 hy,h3],by simp[h4]⟩
   ·refine .inr ⟨j+1,e',cv,?_,by simpa using h4,h5,by simp[h6],by simp;omega⟩
    simp only[Instr.findNow,yx hk o7 h1 hy,h3];rw[show i+1+j=i+(j+1) by omega]
  ·cases h
theorem zcB{w:aP}{r:Nat}{o:Obj}{c:Nat}(h:c≠r):({ w with heap:=w.heap.setIfInBounds r o }:aP).heap[c]?=w.heap[c]?:=by
 simp[Ne.symm h]
theorem xh{w:aP}{r:Nat}{o o':Obj}(h:w.heap[r]?=some o'):({ w with heap:=w.heap.setIfInBounds r o }:aP).heap[r]?=some o:=by
 have:=(tj.1 h).1;simp[this]
theorem nw.push{es:List (V×V)}{en:List MapEntry}(h:nw g es en){x:V×V}{e:MapEntry}(h1:aR g x.1 e.key)(h2:aR g x.2 e.val):nw g (es++[x]) (en++[e]):=by
 refine⟨by simp[h.len],λj y f hy hf=>?_⟩
 rcases eX j es.length with hj|hj
 ·rw[gb hj] at hy;rw[gb (by rw[<- h.len];exact hj)] at hf
  exact h.rel j y f hy hf
 ·rw[fE hj] at hy;rw[fE (by rw[<- h.len];exact hj),<- h.len] at hf
  cases hk:j - es.length with
  | zero=>rw[hk] at hy hf;simp at hy hf;subst hy;subst hf;exact⟨h1,h2⟩
  | succ k=>rw[hk] at hy;simp at hy
theorem zbu(h:Rel B g s a w){t:aB}{m k x:aX}{b:Nat}{kv v:V}{es iD:List (V×V)}(hm:ak s.env m=some (.map b))(hk:ak s.env k=some kv)(hx:ak s.env x=some v)(s8:Nk P t kv=true)
  (hb:s.H.get b=some (.map es)) (hs:Hs kv v es=some iD) :
  ∃w',(Instr.mapUpdate t (a.eval m) (a.eval k) (a.eval x)).run P w=.ok () w'/\Rel B g { s with H:=(s.H.set b (.map iD)).bQ b (.bq [kv,v]) } a w':=by
 have m1:=(zJ h hm).1;obtain⟨k1,k2,_⟩:=zJ h hk;obtain⟨v1,v2,_⟩:=zJ h hx;generalize KZ:a.eval m=cm at m1;cases m1;obtain⟨en,ck,e1,e2,e3,e4⟩:=xZ h hb;unfold Nk at s8;split at s8<;>try (cases s8;done)
 rename_i kt et ht;split at s8<;>try (cases s8;done)
 rename_i kd Gz;have nA:s.H.az[b]?=some (.map es):=by simpa[Hp.get,zg] using hb
 have pO:∀off,¬DK B b off:=λoff hl=>by
  obtain⟨cs,t2,sz,xs,c1,_⟩:=h.lV b off hl;rw[nA] at c1;cases c1
 have dr:∀nV:List (V×V),(∀p∈nV,p∈es\/p=(kv,v))->(aV.map nV).top<=max (aV.map es).top (V.bq [kv,v]).top:=λnV hp=>by
  refine tu.2 ⟨qL λy hy=>?_,qL λy hy=>?_⟩
  ·obtain⟨p,VI,rfl⟩:=mj.1 hy;rcases hp p VI with h1|h1
   ·exact cP (zn (Hg (f:=(·.1)) h1)) (cP (DG _ _) (DG _ _))
   ·subst h1;exact cP (DG _ _) (Ho _ _)
  ·obtain⟨p,VI,rfl⟩:=mj.1 hy;rcases hp p VI with h1|h1
   ·exact cP (zn (Hg (f:=(·.2)) h1)) (cP (Ho _ _) (DG _ _))
   ·subst h1;simp only[V.top,aI];omega
 have lp:max (aV.map es).top (V.bq [kv,v]).top<=s.H.az.length:=tu.2 ⟨tu.2 ⟨e3,e4⟩,by simp only[V.top,aI];omega⟩
 have fin:∀(nV:List (V×V))(OT:Array MapEntry)(clock:Nat),(∀p∈nV,p∈es\/p=(kv,v))->nw g nV OT.toList ->
   Rel B g { s with H:=(s.H.set b (.map nV)).bQ b (.bq [kv,v]) } a { w with heap:=w.heap.setIfInBounds (g.bP b) (.map OT clock) }:=λnV OT clock hp SQ=>by
  have:=h.write (l:=s.lk) (b:=b) (x0:=.map es) (x:=.map nV) (v:=.bq [kv,v]) (w':={ w with heap:=w.heap.setIfInBounds (g.bP b) (.map OT clock) }) rfl hb (λc hc=>zcB hc) (by simp) rfl rfl rfl
   ⟨OT,clock,xh e1,by simpa using SQ.len,λj y e hy he=>SQ.rel j y e hy (by simpa using he)⟩ (cP (dr nV hp) lp) (.inr (.inr (.inr (dr nV hp)))) (λoff hl=>absurd hl (pO off)) h.n8
  exact this
 have hg:(getObj (g.bP b)).run P w=.ok (.map en ck) w:=by simp[getObj,Sem.run,e1]
 have rO:∀o,(setObj (g.bP b) o).run P w=.ok () { w with heap:=w.heap.setIfInBounds (g.bP b) o }:=λo=>by simp[setObj,Sem.run,e1]
 have nL:=zcA (P:=P) Gz s8 k1 false w;rcases zi2 s8 k1 v1 0 e2 hs with⟨h3,h4⟩|⟨j,e,cv,h3,h4,h5,h6,h7⟩
 ·subst h4;refine⟨{ w with heap:=w.heap.setIfInBounds (g.bP b) (.map (en.push { key:=a.eval k,val:=a.eval x,born:=ck }) (ck+1)) },?_,fin _ _ _ (λp hp=>?_) (by simpa using e2.push (x:=(kv,v)) (e:={ key:=a.eval k,val:=a.eval x,born:=ck }) k1 v1)⟩
  ·unfold Instr.mapUpdate;simp[run_underlying ht,hg,nL,Instr.findKey,run_underlying Gz,h3,rO]
  ·rcases rK.1 hp with hp|hp
   ·exact .inl hp
   ·exact .inr (by simpa using hp)
 ·subst h6;rw[nO] at h3;have VJ:en[j]?=some e:=by simpa using h4
  have ail:j<en.size:=(tj.1 VJ).1;refine⟨{ w with heap:=w.heap.setIfInBounds (g.bP b) (.map (en.modify j λe=>{ e with key:=a.eval k,val:=a.eval x }) ck) },?_,fin _ _ _ (λp hp=>List.mem_or_eq_of_mem_set hp) ?_⟩
  ·have uj:(Instr.keyThatStays e.key (a.eval k)).run P w=.ok (a.eval k) w:=by unfold Instr.keyThatStays;simp[h5]
   unfold Instr.mapUpdate;simp[run_underlying ht,hg,nL,Instr.findKey,run_underlying Gz,h3,rO,VJ,uj]
  ·refine⟨by simp[e2.len],λi y f hy hf=>?_⟩
   have E4:(en.modify j λe=>{ e with key:=a.eval k,val:=a.eval x })[i]?=some f:=by rw[<- EO];exact hf
   rw[Array.getElem?_modify] at E4
   by_cases Nu:j=i
   ·subst Nu;rw[B7 h7] at hy;cases hy;rw[if_pos rfl,VJ] at E4;simp only[aS,br] at E4;subst E4;exact⟨k1,v1⟩
   ·rw[rW Nu] at hy;rw[if_neg Nu] at E4;exact e2.rel i y f hy (by simpa using E4)
theorem zj5{l:bN}{pos:Nat}(hl:∀b:Nat,b∈l->b<256)(hp:pos<l.length):Utf8.decode (bytes l) pos=Ht (l.drop pos):=by
 have Nv:∀k,((bytes l).get! (pos+k)).toNat=(l.drop pos).getD k 0:=by
  intro k;have e1:(bytes l).get! (pos+k)=(bytes l).data[pos+k]!:=by cases l<;>rfl
  rw[e1]
  by_cases hk:pos+k<l.length
  ·have hb:=hl _ (List.getElem_mem hk);simp[bytes,List.getD,hk,UInt8.toNat_ofNat',ES hb]
  ·simp[bytes,List.getD,uc (by omega:l.length<=pos+k)]
   rfl
 have OU:∀k,(decide (pos+k<(bytes l).size) && ((bytes l).get! (pos+k)).toNat / 64 == 2)=(Nat.blt k (l.drop pos).length && Nat.beq ((l.drop pos).getD k 0 / 64) 2):=by
  intro k;rw[Nv]
  congr 1
  ·rw[kH,List.length_drop,ET,decide_eq_true_iff,Nat.blt_eq];omega
  ·rw[ET,beq_iff_eq,Nat.beq_eq]
 have OV:=Nv 0;rw[nP] at OV;have K8:∀k,(decide (pos+k<(bytes l).size) && (l.drop pos).getD k 0 / 64 == 2)=(Nat.blt k (l.drop pos).length && Nat.beq ((l.drop pos).getD k 0 / 64) 2):=λk=>by
  have:=OU k;rw[Nv] at this;exact this
 unfold Utf8.decode Ht;simp only[nP,Nv,OV,K8]
theorem znn(h:Rel B g s a w){it:aX}{b pos:Nat}{l:bN}(hi:ak s.env it=some (.ptr b 0))(hb:s.H.get b=some (.iter l pos))(ty:aB) :
  if Nat.blt pos l.length=true then
   ∃cv w',(Instr.next (a.eval it) true ty).run P w=.ok cv w'/\aR g (.bq [.bool true,.int .i64 pos,.int .i32 (Ht (l.drop pos)).1]) cv/\Rel B g { s with H:=(s.H.set b (.iter l (pos+(Ht (l.drop pos)).2))).bQ b .fR } a w'
  else ∃cv,(Instr.next (a.eval it) true ty).run P w=.ok cv w/\aR g (.bq [.bool false]) cv:=by
 have i1:=(zJ h hi).1;generalize hie:a.eval it=ci at i1;cases i1;have nA:s.H.az[b]?=some (.iter l pos):=by simpa[Hp.get,zg] using hb
 obtain⟨e1,e2⟩:=h.cY.ok b _ nA;have hg:(getObj (g.bP b)).run P w=.ok (.stringIter (bytes l) pos) w:=by simp[getObj,Sem.run,e1]
 have rO:∀o,(setObj (g.bP b) o).run P w=.ok () { w with heap:=w.heap.setIfInBounds (g.bP b) o }:=λo=>by simp[setObj,Sem.run,e1]
 have pO:∀off,¬DK B b off:=λoff hl=>by
  obtain⟨cs,t2,sz,xs,c1,_⟩:=h.lV b off hl;rw[nA] at c1;cases c1
 split
 ·rename_i bR;rw[Nat.blt_eq] at bR;refine⟨.tuple #[.bool true,goInt pos,.int .i32 (Ht (l.drop pos)).1],{ w with heap:=w.heap.setIfInBounds (g.bP b) (.stringIter (bytes l) (pos+(Ht (l.drop pos)).2)) },?_,?_,?_⟩
  ·unfold Instr.next
   simp[hg,kH,bR,zj5 e2 bR,rO]
  ·refine .bq rfl λj x u hx hu=>?_;rcases j with _|_|_|j
   ·simp at hx hu;subst hx;subst hu;exact .bool true
   ·simp at hx hu;subst hx;subst hu;exact .int _ _
   ·simp at hx hu;subst hx;subst hu;exact .int _ _
   ·simp at hx
  ·exact h.write (l:=s.lk) (b:=b) (x0:=.iter l pos) (x:=.iter l (pos+(Ht (l.drop pos)).2)) (v:=.fR) (w':={ w with heap:=w.heap.setIfInBounds (g.bP b) (.stringIter (bytes l) (pos+(Ht (l.drop pos)).2)) }) rfl hb (λc hc=>zcB hc) (by simp) rfl rfl rfl
    ⟨xh e1,e2⟩ (eg _) (.inl (eg _)) (λoff hl=>absurd hl (pO off)) h.n8
 ·rename_i bR;rw[Nat.blt_eq] at bR;refine⟨.tuple #[.bool false],?_,?_⟩
  ·unfold Instr.next
   simp[hg,kH,bR]
  ·refine .bq rfl λj x u hx hu=>?_;rcases j with _|j
   ·simp at hx hu;subst hx;subst hu;exact .bool false
   ·simp at hx
end
section
variable{P:aQ}{B:dS}{g:Gh}{s:St}{a:Act}{w:aP}
theorem wZ{t ty e:aB}{n:Nat}(ht:P.underlying t=some (.slice e))(hn:z4 P e=some n)(v:bt)(base:Option Addr)(oB sw:Nat)(hv:v=.slice base oB sw)(hle:oB<=sw)(ad:Option Addr)(c:Nat)(w:aP) :
  (Builtin.append_ #[t,t] ty #[v,.slice ad 0 c]).run P w=.ok v w:=by
 subst hv;simp only[z4,m9] at hn;obtain⟨i,hi,rfl⟩:=hn;cases ad<;>cases base<;>simp[Builtin.append_,run_underlying ht,sizeOf,typeInfo,hi,Builtin.lenOf,Builtin.firstCells,hle,loadCells,loadCellsFrom,Go.storeCells]
def Gh.grown(g:Gh)(c:Nat)(vs:dx)(l:Option Loc):Gh :=
 {g with M:=λc' o=>if c'=c then vs[o]? else g.M c' o,own:=λc'=>if c'=c then l else g.own c' }
theorem Rel.HK(h:Rel B g s a w){c:Nat}{t0:Nat}(Nw:s.env.length<=t0)(OW:t0<=s.env.length)(iC:g.own c=some (.slot B.d t0))(hc:c<w.heap.size)(vs:dx)(l:Option Loc){w':aP}
  (hold:∀c',c'≠c->w'.heap[c']?=w.heap[c']?) (fu:w'.heap.size=w.heap.size) (dg:∀o v,vs[o]?=some v->w'.cell? ⟨c,o,none⟩=some v) (HM:∀o v,g.M c o=some v->vs[o]?=some v)
  (o8:w'.os=w.os) (ht:w'.tape=w.tape) (ny:w'.output=w.output):Rel B (g.grown c vs l) s a w':=by
 have cI:∀c',(∀l',some (Loc.slot B.d t0)=some l'->g.own c'≠some l')->c'≠c:=λc' h' e=>h' _ rfl (e ▸ iC);have aio:∀b,b<s.H.az.length->g.bP b≠c:=λb hb e=>by
  have:=h.cY.eD b hb;rw[e,iC] at this;cases this
 refine h.j_ (b0:=none) (l0:=some (.slot B.d t0)) ?_ (dI _) (λ_ _ _=>rfl) (λb x hb hx=>?_) (λb h1 h2=>?_) (λb b' h1 h2=>?_) (λc' o v hv=>?_) (λc' l' ej=>?_) (λb j e=>by cases e) rfl rfl
  (λt x hx=>⟨x,hx,.inl ⟨rfl,λe=>?_⟩⟩) h.bG h.lV h.n8 (λt e=>by cases e;exact OW)
 ·refine⟨⟨λc' o v hv=>?_,λ_ _=>rfl,rfl,λ_ _ _ _ e=>e⟩,λc' _ _ h2=>hold c' (cI c' h2),λc' _ h2=>?_,λc' _ h2 o=>?_,by omega,λ_ _ _=>rfl,λl' mK=>?_,λb hb=>(by cases hb),λ_ _ _ _=>rfl,o8,ht,ny⟩
  ·simp only[Gh.grown];split
   next e=>subst e;exact HM o v hv
   ·exact hv
  ·simp only[Gh.grown];rw[if_neg (cI c' h2)]
  ·simp only[Gh.grown];rw[if_neg (cI c' h2)]
  ·cases mK;exact .inl ⟨t0,rfl⟩
 ·rcases hb with hb|hb
  ·cases hb
  ·have:=(c_.1 hx).1;omega
 ·omega
 ·omega
 ·simp only[Gh.grown] at hv;split at hv
  next e=>subst e;exact dg o v hv
  next e=>rw[yy (hold c' e)];exact h.cY.mem c' o v hv
 ·simp only[Gh.grown] at ej;split at ej
  next e=>omega
  ·have:=h.cY.eV c' l' ej;omega
 ·cases e;have:=(c_.1 hx).1;omega
end
section
variable{P:aQ}{B:dS}{g:Gh}{s:St}{a:Act}{w:aP}
theorem zeC(h:Rel B g s a w){e sz:Nat}{xs:aD}{ow:ug}{cv:bt}{vs:dx}(hr:aR g (.sl sz xs ow) cv)(ho:rowAt w e sz cv xs.length vs):bK g (zI xs) vs:=by
 cases hr with
 | sl f h1 h2 h3 h4 h5 h6 =>
  rename_i ad cap c o;refine⟨by rw[qJ h1,ho.1],h4,λj x v hx hv=>?_⟩
  have cI:xs≠[]:=by rintro rfl;simp[zI] at hx
  have e1:=h3 cI;subst e1;have:=ho.cells j v hv;rw[h.cY.mem _ _ _ (h5 j x hx)] at this;cases this;exact h6 j x hx
theorem Gh.K9(n:Nat){g:Gh}{w:aP}(hm:∀c o v,g.M c o=some v->w.cell? ⟨c,o,none⟩=some v)(vs:dx)(l:Option Loc):Gh.Le n g (g.row w.heap.size vs l):=by
 refine⟨λc o v hv=>?_,λ_ _=>rfl,rfl,λ_ _ _ _ e=>e⟩;have:=vn (hm c o v hv);simp only[Gh.row];rw[if_neg (by omega)]
 exact hv
theorem zgD(h:Rel B g s a w){e sz:Nat}{z:bt}{zs:aD}{vs:dx}(Em:∀y:V,y∈zs->y.cells.length=sz)(dZ:bK g (zI zs) vs)(ht:aI zs<=s.H.az.length)(hz:z.cells.size=sz)(K_:zs.length<=maxLen)(old:Nat)(l:Loc){arr:dN}(m6:arr.toList=vs) :
  ∃g',Rel B g' s a (w.drew.alloc (.cells (arr++Builtin.zeroCells z.cells (grownCap w zs.length old e - zs.length)) e))/\aR g' (.sl sz zs (.yes e)) (.slice (some ⟨w.heap.size,0,none⟩) zs.length (grownCap w zs.length old e)) /\
   fK g' s.H.az.length (w.drew.alloc (.cells (arr++Builtin.zeroCells z.cells (grownCap w zs.length old e - zs.length)) e)) l e sz zs.length (.slice (some ⟨w.heap.size,0,none⟩) zs.length (grownCap w zs.length old e)):=by
 have hlen:vs.length=zs.length * sz:=by rw[<- dZ.len,qJ Em]
 have nT:arr.size=zs.length * sz:=by rw[<- hlen,<- m6];simp
 have Au:=grownCap_ge w zs.length old e;generalize nS:grownCap w zs.length old e=cap at Au ⊢;have pQ:cap<=maxLen:=by rw[<- nS];exact grownCap_le_maxLen w _ old e K_
 generalize lp:arr++Builtin.zeroCells z.cells (cap - zs.length)=cur;have dX:(w.drew.alloc (.cells cur e)).heap[w.heap.size]?=some (.cells cur e (0,0)):=heap_alloc_new w.drew _;have dg:∀o v,vs[o]?=some v->(w.drew.alloc (.cells cur e)).cell? ⟨w.heap.size,o,none⟩=some v:=λo v hv=>by
  rw[cell_of_row _ _ _ cur _ _ dX,<- lp];have ho:o<arr.size:=by rw[nT,<- hlen];exact(c_.1 hv).1
  rw[Array.getElem?_append_left ho,<- EO,m6];exact hv
 have hR:=h.settle vs (some l) (w':=w.drew.alloc (.cells cur e)) (by simp) (λc hc=>Go.heap_alloc_old w.drew _ hc) dg rfl rfl rfl
 refine⟨_,hR,aR.settled (n:=s.H.az.length) Em Au dZ (cP yk ht) (Gh.K9 _ h.cY.mem _ _),vs,⟨hlen,.inr ⟨w.heap.size,0,cap,cur,rfl,dX,Au,pQ,.inr ?_,?_⟩⟩,λc hc=>?_⟩
 ·rw[<- lp,Array.size_append,nT,size_zeroCells,hz,<- tq,nO];congr 1;omega
 ·rw[mg,<- lp,Array.toList_append,List.take_append_of_le_length (by simp;omega),m6]
  exact p9 (by omega)
 ·simp only[Value.ownBlock,br] at hc;subst hc;refine⟨by simp[Gh.row],λo ho _=>?_,λb hb e=>?_⟩
  ·simp only[Gh.row,aF];simp only at ho;exact uc (by omega)
  ·have:=h.cY.lt b hb;simp only[Gh.row] at e;omega
theorem bK.append{xs ys:aD}{vs news:dx}(hold:bK g (zI xs) vs)(dZ:bK g (zI ys) news):bK g (zI (xs++ys)) (vs++news):=by
 simp only[zI,List.flatMap_append] at *;refine⟨by simp only[aU,hold.len,dZ.len],λj x hx=>?_,λj x v hx lf=>?_⟩
 ·rcases eX j (xs.flatMap V.cells).length with h1|h1
  ·rw[gb h1] at hx;exact hold.one j x hx
  ·rw[fE h1] at hx;exact dZ.one _ x hx
 ·rcases eX j (xs.flatMap V.cells).length with h1|h1
  ·rw[gb h1] at hx;rw[gb (by rw[<- hold.len];exact h1)] at lf
   exact hold.rel j x v hx lf
  ·rw[fE h1] at hx;rw[fE (by rw[<- hold.len];exact h1),<- hold.len] at lf
   exact dZ.rel _ x v hx lf
theorem zhW(h:Rel B g s a w){e sz:Nat}{xs ys:aD}{news:dx}{cv:bt}(hv:aR g (.sl sz xs (.yes e)) cv){t0:Nat}(Nw:s.env.length<=t0)(OW:t0<=s.env.length)(ho:fK g s.H.az.length w (.slot B.d t0) e sz xs.length cv)
  (Em:∀y:V,y∈xs++ys->y.cells.length=sz) (dZ:bK g (zI ys) news) (ht:aI (xs++ys)<=s.H.az.length) (l:Loc) {c o cap:Nat} {cur:dN} (iV:cv=.slice (some ⟨c,o,none⟩) xs.length cap)
  (lp:w.heap[c]?=some (.cells cur e (0,0))) (fM:xs.length+ys.length<=cap) (cI:ys≠[]) :
  ∃g',Rel B g' s a (w.setRow c (cur.toList.take (o+xs.length * sz)++news++cur.toList.drop (o+xs.length * sz+news.length)).toArray)/\aR g' (.sl sz (xs++ys) (.yes e)) (.slice (some ⟨c,o,none⟩) (xs.length+ys.length) cap) /\
   fK g' s.H.az.length (w.setRow c (cur.toList.take (o+xs.length * sz)++news++cur.toList.drop (o+xs.length * sz+news.length)).toArray) l e sz (xs.length+ys.length) (.slice (some ⟨c,o,none⟩) (xs.length+ys.length) cap):=by
 subst iV;obtain⟨vs,SS,Nx⟩:=ho;have hold:=zeC h hv SS;obtain⟨BM,ho3⟩:=SS;rcases ho3 with⟨e2,_⟩|⟨c',o',ou,air,e2,rX,hn,pQ,fu,OX⟩
 ·cases e2
 cases e2;rw[lp] at rX;cases rX;obtain⟨VK,VL,VM⟩:=Nx c rfl;have hyl:0<ys.length:=KK.2 cI;have fu:cur.size=o+cap * sz:=by rcases fu with h|h;omega;exact h
 have lg:news.length=ys.length * sz:=by rw[<- dZ.len,qJ λy hy=>Em y (C2 _ hy)]
 have Cm:xs.length * sz+ys.length * sz<=cap * sz:=by rw[<- tq];exact KI _ fM
 have gG:cur.toList.length=cur.size:=An;have HG:(cur.toList.take (o+xs.length * sz)).length=o+xs.length * sz:=by rw[uf];omega
 have gq:cur.toList.take (o+xs.length * sz)=cur.toList.take o++vs:=by rw[<- OX,List.take_add]
 generalize Cn:cur.toList.take (o+xs.length * sz)++news++cur.toList.drop (o+xs.length * sz+news.length)=L;have bR:c<w.heap.size:=(tj.1 lp).1;have dX:(w.setRow c L.toArray).heap[c]?=some (.cells L.toArray e (0,0)):=setRow_heap w c _ _ _ _ lp;have sx:∀c',c'≠c->(w.setRow c L.toArray).heap[c']?=w.heap[c']?:=λc' cI=>setRow_other w c c' _ cI
 have oc:(w.setRow c L.toArray).heap.size=w.heap.size:=setRow_size w c _;generalize hF:cur.toList.take (o+xs.length * sz)++news=F at Cn;have dg:∀k v,F[k]?=some v->(w.setRow c L.toArray).cell? ⟨c,k,none⟩=some v:=λk v lf=>by
  rw[cell_of_row _ _ _ _ _ _ dX,List.getElem?_toArray,<- Cn,gb (c_.1 lf).1];exact lf
 have HM:∀k v,g.M c k=some v->F[k]?=some v:=λk v hm=>by
  have:=h.cY.mem _ _ _ hm;rw[cell_of_row w _ _ _ _ _ lp] at this;have hk:k<cur.size:=(tj.1 this).1;have bR:k<o+xs.length * sz:=by
   rcases eX k (o+xs.length * sz) with h1|h1
   ·exact h1
   ·rw[VL k h1 (by simp only;omega)] at hm;cases hm
  rw[<- hF,gb (by rw[HG];exact bR),Ao,if_pos bR]
  simpa using this
 have hR:=h.HK Nw OW VK bR F (some l) sx oc dg HM rfl rfl rfl
 have hle:Gh.Le s.H.az.length g (g.grown c F (some l)):=⟨λc' o v hm=>by
  simp only[Gh.grown];split
  next e=>subst e;exact HM o v hm
  ·exact hm,λ_ _=>rfl,rfl,λ_ _ _ _ e=>e⟩
 have dF:bK g (zI (xs++ys)) (vs++news):=hold.append dZ;have hFl:F.length=o+xs.length * sz+news.length:=by rw[<- hF,aU,HG]
 have DT:(cur.toList.take o).length=o:=by rw[uf];omega
 have hFo:∀j,F[o+j]?=(vs++news)[j]?:=λj=>by
  rw[<- hF,gq,bh,fE (by omega),DT,Ng]
 refine⟨_,hR,?_,vs++news,⟨by rw[aU,BM,lg,tq],.inr ⟨c,o,cap,L.toArray,rfl,dX,fM,pQ,.inr ?_,?_⟩⟩,λc' ej=>?_⟩
 ·rw[show xs.length+ys.length=(xs++ys).length by simp]
  refine .sl (c:=c) (o:=o) (λj=>(vs++news).getD j .nilFunc) Em (by simpa using fM) (λ_=>rfl) dF.one (λj x hj=>?_) (λj x hj=>?_)
  ·obtain⟨v,lf,_⟩:=dF.get hj;simp[Gh.grown,hFo,lf,List.getD]
  ·obtain⟨v,lf,hr⟩:=dF.get hj;have:=hr.le hle (cP (zn (zv hj)) (cP yk ht));simpa[List.getD,lf] using this
 ·rw[<- fu];simp only[List.size_toArray,<- Cn,aU,hFl,List.length_drop,An];omega
 ·rw[tq,<- lg,<- BM];simp only[<- Cn,<- hF,gq];rw[bh,bh,List.drop_append_of_le_length (by omega),List.drop_of_length_le (by omega),bg,<- bh,List.take_append_of_le_length (by simp)]
  exact p9 (by simp)
 ·simp only[Value.ownBlock,br] at ej;subst ej;refine⟨by simp[Gh.grown],λj ho _=>?_,λb hb e=>VM b hb e⟩
  simp only[Gh.grown,aF];simp only[tq] at ho;exact uc (by rw[hFl,lg];omega)
end
section
variable{P:aQ}{B:dS}{g:Gh}{s:St}{a:Act}{w:aP}
theorem VN{e:aB}{n:Nat}{i:TypeInfo}(hn:z4 P e=some n)(hi:P.info? e=some i):i.size=n:=by
 simpa[z4,hi] using hn
theorem aR.E5{sz:Nat}{xs:aD}{ow:ug}{cv:bt}(h:aR g (.sl sz xs ow) cv):∃base cap,cv=.slice base xs.length cap/\xs.length<=cap:=by
 cases h;exact⟨_,_,rfl,by assumption⟩
theorem aR.o_{cv:bt}(h:aR g .aG cv):cv=.slice none 0 0:=by
 cases h;rfl
theorem zcd{w:aP}(t ty e:aB)(i:TypeInfo)(ht:P.underlying t=some (.slice e))(hi:P.info? e=some i)
  (g o oB sw:Nat) (cur:dN) (hg:w.heap[g]?=some (.cells cur e (0,0)))
  (a:Addr) (m c:Nat) (news:dx) (hl:news.length=m * i.size) (OY:∀j u,news[j]?=some u->w.cell? (a.add j)=some u) (h1:∀u∈news,u.oneCell'=true)
  (fM:oB+m<=sw) (HN:o+oB * i.size+news.length<=cur.size) :
  (Builtin.append_ #[t,t] ty #[.slice (some ⟨g,o,none⟩) oB sw,.slice (some a) m c]).run P w =
   .ok (.slice (some ⟨g,o,none⟩) (oB+m) sw) (w.setRow g (cur.toList.take (o+oB * i.size)++news++cur.toList.drop (o+oB * i.size+news.length)).toArray):=by
 have hf:=run_firstCells_some (P:=P) w i.size m a m c news hl OY;have e_:=run_storeCells_at P g (o+oB * i.size) e news 0 cur w hg (by simpa using HN) h1
 simp only[nP] at e_;simp[Builtin.append_,run_underlying ht,sizeOf,typeInfo,hi,Builtin.lenOf,fM,hf,Addr.add_lit,e_]
theorem zj6(h:Rel B g s a w){t ty:aB}{x y:aX}{yv v r:V}{cX:aD}
  (hy:ak s.env y=some yv) (hx:take s.env x=some (v,cX)) (hr:j9 P s.H t v yv=some r) (l0:Nat) :
  ∃g' cv w',(Builtin.append_ #[t,t] ty #[a.eval x,a.eval y]).run P w=.ok cv w'/\Rel B g' { s with env:=cX } a w'/\aR g' r cv/\cM g' s.H.az.length w' (.slot B.d l0) r cv/\r.top<=s.H.az.length:=by
 obtain⟨y1,y3,_⟩:=zJ h hy;unfold j9 at hr;simp only[Option.bind_eq_bind,eG] at hr;obtain⟨td,ht,hr⟩:=hr;split at hr<;>try (cases hr;done)
 rename_i e;simp only[eG] at hr;obtain⟨n,hn,i,hi,z,hz,hr⟩:=hr;have tC:=VN hn hi;split at hr<;>try (cases hr;done)
 rename_i VO;have Em:z.cells.size=n:=eU (by simpa using VO)
 simp only[eG] at hr;obtain⟨ys,s6,hr⟩:=hr;have OZ:=yl h hn s6 y1 y3
 by_cases cI:ys=[]
 ·subst cI;obtain⟨ad,cap,nK,_⟩:=OZ.form;obtain⟨g1,h1,v1,v2,v3,rN⟩:=vJ h hx (.slot B.d l0);have hzero:∃base oB sw,a.eval x=.slice base oB sw/\oB<=sw/\aR g1 r (a.eval x)/\cM g1 s.H.az.length w (.slot B.d l0) r (a.eval x)/\r.top<=s.H.az.length:=by
   split at hr
   ·simp only[br] at hr;subst hr;have e:=v1.o_;exact⟨_,_,_,e,dI _,v1,trivial,eg _⟩
   ·split at hr<;>simp only[br,reduceCtorEq] at hr;rename_i hc;simp only[eo] at hc;have e1:=eU hc.1.1.1;have e2:=eU hc.1.1.2;subst e1;subst e2;subst hr;simp only[mT];obtain⟨base,cap,f1,f2⟩:=v1.E5;exact⟨_,_,_,f1,f2,v1,v2,v3⟩
   ·cases hr
  obtain⟨base,oB,sw,e1,e2,r1,r2,r3⟩:=hzero;refine⟨g1,a.eval x,w,?_,h1,r1,r2,r3⟩;rw[nK];have:=wZ (P:=P) (ty:=ty) ht hn (a.eval x) base oB sw e1 e2 ad cap w;exact this
 ·obtain⟨g1,h1,v1,v2,v3,rN⟩:=vJ h hx (.slot B.d s.env.length);have gp:=yl h1 (s:={ s with env:=cX }) hn s6 (rN.rel y1) y3;obtain⟨ad,cy,nK,k_⟩:=gp.form;obtain⟨a0,news,rfl,dZ,gv⟩:=k_ cI;have rP:0<ys.length:=KK.2 cI;have lg:news.length=ys.length * i.size:=by rw[<- dZ.len,qJ gp.sized,tC]
  have o9:∀u∈news,u.oneCell'=true:=λu hu=>by
   obtain⟨j,hj⟩:=List.getElem?_of_mem hu;have su:j<(zI ys).length:=by rw[dZ.len];exact(c_.1 hj).1
   have hx:=gh su;exact(dZ.rel j _ u hx hj).nJ (dZ.one j _ hx)
  have pR:∀m,kx m i.bytes=true->m<=maxLen/\m * i.bytes<=140737488355328:=λm hm=>by
   simp only[kx,eo] at hm;exact⟨by have:=rJ hm.1;simp only[maxLen];omega,rJ hm.2⟩
  have i_:({ s with env:=cX }:St).env.length<=s.env.length:=by
   rw[h1.len,h.len];exact dI _
  have O0:s.env.length<=({ s with env:=cX }:St).env.length:=by
   rw[h1.len,h.len];exact dI _
  have fresh:∀(zs:aD),zs=ys->a.eval x=.slice none 0 0->kx ys.length i.bytes=true->r=.sl n ys (.yes e) ->
    ∃g' cv w',(Builtin.append_ #[t,t] ty #[a.eval x,a.eval y]).run P w=.ok cv w'/\Rel B g' { s with env:=cX } a w'/\aR g' r cv/\cM g' s.H.az.length w' (.slot B.d l0) r cv/\r.top<=s.H.az.length:=by
   intro _ _ Ju DU er;obtain⟨m1,m2⟩:=pR _ DU;obtain⟨g2,k1,k2,k3⟩:=zgD h1 (e:=e) (sz:=n) (z:=z) gp.sized dZ gp.aI Em m1 0 (.slot B.d l0) (arr:=news.toArray) (by simp)
   refine⟨g2,_,_,?_,k1,by rw[er];exact k2,by rw[er];exact k3,by rw[er];exact gp.aI⟩
   rw[Ju,nK];exact run_append_nil (P:=P) w t ty e i z ht hi hz a0 ys.length cy news lg gv rP (by simp only[maxLen] at m1;omega) (by omega)
  split at hr
  ·split at hr
   ·exact absurd rfl cI
   ·split at hr<;>simp only[br,reduceCtorEq] at hr;rename_i hc;simp only[eo] at hc;have Ju:a.eval x=.slice none 0 0:=v1.o_;exact fresh ys rfl Ju hc.1 hr.symm
  ·split at hr<;>simp only[br,reduceCtorEq] at hr;rename_i sz xs e' hc;simp only[eo] at hc;have e1:=eU hc.1.1.1;have e2:=eU hc.1.1.2;subst e1;subst e2;obtain⟨m1,m2⟩:=pR _ hc.2;have iC:fK g1 s.H.az.length w (.slot B.d s.env.length) e n xs.length (a.eval x):=v2;obtain⟨vs,ho,_⟩:=id iC;have hold:=zeC h1 v1 ho;have oU:∀y:V,y∈xs->y.cells.length=n:=by
    generalize a.eval x=c at v1;cases v1;assumption
   have dF:∀y:V,y∈xs++ys->y.cells.length=n:=λy hy=>(rK.1 hy).elim (oU y) (gp.sized y);have uh:aI (xs++ys)<=s.H.az.length:=qL λy hy=>(rK.1 hy).elim (λh=>cP (zn h) v3) (λh=>cP (zn h) gp.aI);rcases id ho with⟨BM,⟨e3,e4⟩|⟨c,o,cap,cur,e3,lp,hle,pQ,pS,mb⟩⟩
   ·have GB:xs=[]:=Nh.1 e4;subst GB;exact fresh ys rfl e3 (by simpa using hc.2) (by simpa using hr.symm)
   ·by_cases E6:xs.length+ys.length<=cap
    ·obtain⟨g2,k1,k2,k3⟩:=zhW h1 v1 i_ O0 iC dF dZ uh (.slot B.d l0) e3 lp E6 cI;refine⟨g2,_,_,?_,k1,by rw[<- hr];exact k2,by rw[<- hr];simpa[cM] using k3,by rw[<- hr];exact uh⟩
     rw[e3,nK];have pS:cur.size=o+cap * n:=by rcases pS with h|h;omega;exact h
     have:=zcd (P:=P) (w:=w) t ty e i ht hi c o xs.length cap cur lp a0 ys.length cy news lg gv o9 E6 (by rw[lg,tC,pS,pL,<- tq];exact Nat.add_le_add_left (KI _ E6) _)
     rw[tC] at this;exact this
    ·have O1:bK g1 (zI (xs++ys)) (vs++news):=hold.append dZ;obtain⟨g2,k1,k2,k3⟩:=zgD h1 (e:=e) (sz:=n) (z:=z) dF O1 uh Em (by simpa using m1) cap (.slot B.d l0) (arr:=vs.toArray++news.toArray) (by simp)
     simp only[aU] at k1 k2 k3;refine⟨g2,_,_,?_,k1,by rw[<- hr];exact k2,by rw[<- hr];simpa[cM] using k3,by rw[<- hr];exact uh⟩
     rw[e3,nK];exact run_append_grow (P:=P) w t ty e i z ht hi hz ⟨c,o,none⟩ xs.length cap vs (by rw[BM,tC]) (λj u hu=>by rw[Addr.add_lit];exact(show rowAt w e n (.slice (some ⟨c,o,none⟩) xs.length cap) xs.length vs from e3 ▸ ho).cells j u hu) a0 ys.length cy news lg gv (by omega) (by simp only[maxLen] at m1;omega) (growslice_fits (by omega) m2)
  ·cases hr
end
section
variable{P:aQ}{B:dS}{g:Gh}{s:St}{a:Act}{w:aP}
def fo(P:aQ)(B:dS)(s':St)(a:Act)(w:aP)(o:Oper)(v:V):Prop :=
 ∃g' cv w',(execOp a.eval o).run P w=.ok (.value cv) w'/\DQ B g' s' a w' o.dst v cv
theorem zhX{w:aP}{c:Nat}{cs:dN}{t:aB}(h:w.heap[c]?=some (.cells cs t (0,0)))(k:Nat):(w.freeze { block:=c,off:=cs.size } 1).heap[k]?=if k=c then some (.cells cs t (cs.size,cs.size+1)) else w.heap[k]?:=by
 unfold World.freeze;simp only[Nat.one_ne_zero,bw,Array.getElem?_modify]
 by_cases hk:k=c
 ·subst hk;simp[h]
 ·simp[hk,Ne.symm hk]
theorem zer{P:aQ}{t e:aB}{w:aP}{c o len cap:Nat}{cs:dN}{et:aB}(hs:P.underlying t=some (.slice e))(h8:P.underlying e=some (.int .u8))(h:w.heap[c]?=some (.cells cs et (0,0))) :
  (convert t t (.slice (some ⟨c,o,none⟩) len cap)).run P w=.ok (.slice (some ⟨c,o,none⟩) len cap) (w.freeze { block:=c,off:=cs.size } 1):=by
 have hsh:w.shape? c=some (et,cs.size):=by simp[World.shape?,h]
 simp[convert,run_underlying hs,run_underlying h8,markStringish,shape,freeze,Sem.run,hsh]
theorem zno(h:Rel B g s a w){src dst:aB}{x:aX}{o:Oper}{v:V}{cX:aD}(hm:v9 P src dst x s.env=some (v,cX))(ho:o.op=.convert src dst x):fo P B { s with env:=cX } a w o v:=by
 unfold v9 at hm;split at hm<;>try (cases hm;done)
 rename_i e SU hs;have VP:=eU SU;subst VP;split at hm<;>simp only[br,reduceCtorEq,cg] at hm;rename_i sz y ys e' cK h8 ht;obtain⟨rfl,rfl⟩:=hm;obtain⟨g',k1,k2,k3,k4,_⟩:=vJ h ht (.slot B.d s.env.length);have hlen:cK.length=s.env.length:=by
  have:=k1.len.trans h.len.symm;simpa using this
 have VQ:fK g' s.H.az.length w (.slot B.d s.env.length) e' sz (y::ys).length (a.eval x):=k3;obtain⟨vs,⟨_,b_⟩,iC⟩:=VQ;rcases b_ with⟨_,h0⟩|⟨c,ro,cap,cur,iV,hc,_⟩
 ·simp at h0
 obtain⟨o1,o2,o3⟩:=iC c (by rw[iV];rfl)
 rw[iV] at k2;have dy:=zhX hc;have dg:∀ad,(w.freeze { block:=c,off:=cur.size } 1).cell? ad=w.cell? ad:=λad=>by
  simp only[World.cell?,dy]
  by_cases e0:ad.block=c
  ·rw[if_pos e0,e0,hc]
  ·rw[if_neg e0]
 have oc:(w.freeze { block:=c,off:=cur.size } 1).heap.size=w.heap.size:=by simp[World.freeze]
 have hle:Gh.Le s.H.az.length g' { g' with own:=λk=>if k=c then none else g'.own k }:=⟨λ_ _ _ h=>h,λ_ _=>rfl,rfl,λ_ _ _ _ h=>h⟩
 have iJ:ir B.d none (some (.slot B.d s.env.length)) s.H.az.length g' w { g' with own:=λk=>if k=c then none else g'.own k } (w.freeze { block:=c,off:=cur.size } 1):=by
  refine⟨hle,λk _ _ hk=>?_,λk _ hk=>?_,λ_ _ _ _=>rfl,by rw[oc];exact dI _,λ_ _ _=>rfl,λl hl=>.inl ⟨_,(DH hl).symm⟩,λb hb=>(by cases hb),λ_ _ _ _=>rfl,rfl,rfl,rfl⟩
  ·have cI:¬k=c:=λe0=>hk _ rfl (by rw[e0];exact o1)
   rw[dy,if_neg cI]
  ·have cI:¬k=c:=λe0=>hk _ rfl (by rw[e0];exact o1)
   simp only;rw[if_neg cI]
 refine⟨{ g' with own:=λk=>if k=c then none else g'.own k },.slice (some ⟨c,ro,none⟩) (y::ys).length cap,w.freeze { block:=c,off:=cur.size } 1,?_,?_,?_,λ_ _=>trivial,k4⟩
 ·simp only[execOp,ho,iV,Sem.run_bind,zer hs h8 hc,Result.andThen_ok,Sem.run_pure]
 ·refine k1.j_ (b0:=none) (l0:=some (.slot B.d s.env.length)) iJ (dI _) (λ_ _ _=>rfl) (λb x hb hx=>?_) (λb h1 h2=>?_) (λb b' h1 h2=>?_) (λc' o' v' lf=>?_) (λc' l hl=>?_) (λb j e0=>by cases e0) rfl rfl (λt x hx=>⟨x,hx,.inl ⟨rfl,λe0=>?_⟩⟩) k1.bG k1.lV k1.n8 (λt e0=>?_)
  ·rcases hb with hb|hb
   ·cases hb
   ·exact absurd (c_.1 hx).1 (Nat.not_lt.2 hb)
  ·exact absurd h2 (Nat.not_lt.2 h1)
  ·exact absurd h2 (Nat.not_lt.2 h1)
  ·rw[dg];exact k1.cY.mem c' o' v' lf
  ·simp only at hl;rw[oc];split at hl
   ·cases hl
   ·exact k1.cY.eV c' l hl
  ·simp only[br,Loc.slot.injEq,iU] at e0;have:=(c_.1 hx).1;simp only at this;omega
  ·simp only[br,Loc.slot.injEq,iU] at e0;simp only;omega
 ·exact(k2.le hle k4).aW
def oC(P:aQ)(B:dS)(s':St)(a:Act)(w:aP)(o:Oper):Prop :=
 ∃g' w',(execOp a.eval o).run P w=.ok .skip w'/\Rel B g' s' a w'
theorem VR(g:Gh)(n N:Nat):aR (g.var n N) (.ptr n 0) (.pointer (some ⟨N,0,none⟩)):=by
 have:=aR.ptr (g:=g.var n N) n 0;simpa[Gh.var] using this
theorem zk8(h:Rel B g s a w){t:aB}{z:V}(hz:qQ P t=some z)(hc:dz z=true){o:Oper}(ho:o.op=.alloc t) :
  fo P B { s with H:=s.H.push (.cells z.cells t) } a w o (.ptr s.H.az.length 0):=by
 obtain⟨cz,z1,z2,z3,_,z5⟩:=yw (g:=g) hz w;have dZ:=vo z2 hc
 have lg:=λx hx=>VE (v:=cz) (z:=z) (by
  simp only[qQ,eG] at hz;obtain⟨i,hi,zz,Ns,hv⟩:=hz;simp only[hi,aT] at z5
  rw[Ns] at z5;cases z5;exact hv) x hx
 refine⟨g.var s.H.az.length w.heap.size,.pointer (some ⟨w.heap.size,0,none⟩),w.alloc (.cells cz.cells t),?_,?_,?_,λ_ _=>trivial,?_⟩
 ·simp[execOp,ho,Instr.alloc,z1,newVar,newRow]
 ·refine h.pP dZ (qL λx hx=>cP (SH hx) (by omega)) λj x v hx hv=>⟨?_,λsz xs e=>lg x (zv hx) _ _ _ e⟩
  cases x with
  | sl sz xs o=>exact absurd rfl (lg _ (zv hx) sz xs o)
  | _=>trivial
 ·exact VR _ _ _
 ·simp[V.top,Hp.push]
theorem zpb(h:Rel B g s a w){t:aB}{x:aX}{v:V}{cX:aD}(ht:take s.env x=some (v,cX))(hc:dz v=true){o:Oper}(ho:o.op=.box t x) :
  fo P B { s with env:=cX,H:=s.H.push (.cells v.laid t) } a w o (.ptr s.H.az.length 0):=by
 obtain⟨g',h1,v1,v2,v3,rN⟩:=vJ h ht (.cell s.H.az.length 0);obtain⟨l1,l2,l3⟩:=VF v1 hc v2 (yZ ht) v3;refine⟨g'.var s.H.az.length w.heap.size,.pointer (some ⟨w.heap.size,0,none⟩),w.alloc (.cells (a.eval x).cells t),?_,?_,?_,λ_ _=>trivial,?_⟩
 ·simp[execOp,ho,Instr.box,newVar,newRow]
 ·exact h1.pP l1 l2 λj y u hy hu=>by have:=l3 j y u hy hu;rw[nO] at this;exact this
 ·exact VR _ _ _
 ·simp[V.top,Hp.push]
theorem zhY(h:Rel B g s a w){t:aB}{o:Oper}(ho:o.op=.makeMap t none):fo P B { s with H:=s.H.push (.map []) } a w o (.map s.H.az.length):=by
 have hv:(g.var s.H.az.length w.heap.size).bP s.H.az.length=w.heap.size:=by simp[Gh.var]
 refine⟨g.var s.H.az.length w.heap.size,.map (some w.heap.size),w.alloc (.map #[] 0),?_,?_,?_,λ_ _=>trivial,?_⟩
 ·simp[execOp,ho,Instr.makeMap]
 ·refine h.push (.map []) rfl rfl rfl rfl ⟨#[],0,?_,rfl,λj x me hx=>by simp at hx⟩ (by simp[aV.top,aI])
  rw[hv];exact VD (w':=w.alloc (.map #[] 0)) rfl
 ·have:=aR.map (g:=g.var s.H.az.length w.heap.size) s.H.az.length;rw[hv] at this;exact this
 ·simp[V.top,Hp.push]
theorem zk9(h:Rel B g s a w){t:aB}{x:aX}{l:bN}(ht:P.underlying t=some .string)(hx:ak s.env x=some (.str l)){o:Oper}(ho:o.op=.range t x) :
  fo P B { s with H:=s.H.push (.iter l 0) } a w o (.ptr s.H.az.length 0):=by
 have x1:=(zJ h hx).1;generalize Jv:a.eval x=cx at x1;cases x1 with
 | str hl =>
  have hv:(g.var s.H.az.length w.heap.size).bP s.H.az.length=w.heap.size:=by simp[Gh.var]
  refine⟨g.var s.H.az.length w.heap.size,.pointer (some ⟨w.heap.size,0,none⟩),w.alloc (.stringIter (bytes l) 0),?_,?_,?_,λ_ _=>trivial,?_⟩
  ·simp[execOp,ho,Instr.range,Jv,run_underlying ht]
  ·refine h.push (.iter l 0) rfl rfl rfl rfl ⟨?_,hl⟩ (by simp[aV.top])
   rw[hv];exact VD (w':=w.alloc (.stringIter (bytes l) 0)) rfl
  ·exact VR _ _ _
  ·simp[V.top,Hp.push]
theorem zla{n:Nat}{z:V}{cz:bt}(hz:aR g z cz)(ek:dz z=true)(hl:z.cells.length=n)(hn:n≠0)(len:Nat):bK g (zI (List.replicate len z)) (madeCells cz.cells (len * n)).toList:=by
 have BK:=vo hz ek;have E1:cz.cells.size=n:=by rw[<- hl,BK.len];simp
 have m5:(zI (List.replicate len z)).length=len * n:=by rw[qJ (sz:=n) λy hy=>by rw[(List.mem_replicate.1 hy).2];exact hl];simp
 refine⟨by rw[m5];simp[madeCells],λj x hx=>?_,λj x v hx hv=>?_⟩
 ·have hj:j<len * n:=by rw[<- m5];exact(c_.1 hx).1
  rw[wy hl len j hj] at hx;exact BK.one _ x hx
 ·have hj:j<len * n:=by rw[<- m5];exact(c_.1 hx).1
  rw[wy hl len j hj] at hx;have hm:j % n<cz.cells.size:=by rw[E1];exact Nat.mod_lt _ (by omega)
  simp only[madeCells,Array.toList_map,Array.toList_range,iY,Hj,hj,aS,br,E1] at hv;rw[getElem!_pos cz.cells (j % n) hm] at hv;refine BK.rel _ x v hx ?_;rw[EO,Eh hm,hv]
theorem za1(z:V):∀n,(List.replicate n z.cells).flatten=zI (List.replicate n z)
 | 0=>rfl
 | n+1=>by simp only[Hh,List.flatten_cons,za1 z n,zI,DE]
theorem zfp(h:Rel B g s a w){t e:aB}{lx cx:aX}{k k':IntKind}{l c:Int}{n:Nat}{i:TypeInfo}{z:V}(ht:P.underlying t=some (.slice e))(hlx:ak s.env lx=some (.int k l))(iW:ak s.env cx=some (.int k' c))
  (hn:z4 P e=some n) (hi:P.info? e=some i) (hz:qQ P e=some z) (hc:(Nat.beq n 0 || l<0 || c<l || !kx c.toNat i.bytes || !Nat.beq z.cells.length n || !dz z)=false) {o:Oper} (ho:o.op=.makeSlice t lx cx) :
  (l=0->fo P B s a w o (.sl n [] (.yes e)))/\fo P B { s with H:=s.H.push (.cells (List.replicate c.toNat z.cells).flatten e) } a w o (.sr s.H.az.length 0 l.toNat c.toNat):=by
 simp only[KJ,Bool.not_eq_false',decide_eq_false_iff_not] at hc;obtain⟨⟨⟨⟨⟨c1,c2⟩,c3⟩,c4⟩,c5⟩,ek⟩:=hc;have AU:n≠0:=by intro e;subst e;simp at c1
 have VS:z.cells.length=n:=eU c5;simp only[kx,eo] at c4;have b1:=rJ c4.1;have b2:=rJ c4.2;obtain⟨cz,z1,z2,z3,_,z5⟩:=yw (g:=g) hz w;simp only[hi,aT] at z5;have l1:=(zJ h hlx).1;have k1:=(zJ h iW).1;generalize hle:a.eval lx=cl at l1;generalize uW:a.eval cx=cc at k1;cases l1;cases k1;have tC:=VN hn hi;have La:(i.bytes:Int) * c<=281474976710656:=by
  have h1:(i.bytes:Int) * c=((c.toNat * i.bytes:Nat):Int):=by
   rw[Int.natCast_mul,Int.toNat_of_nonneg (by omega),Int.mul_comm]
  rw[h1];omega
 have cq:=run_make (P:=P) w t e i cz ht hi z5 k k' l c (by omega) (by omega) La (by omega)
 have E7:(execOp a.eval o).run P w=.ok (.value (.slice (some ⟨w.heap.size,0,none⟩) l.toNat c.toNat)) (w.alloc (.cells (madeCells cz.cells (c.toNat * i.size)) e)):=by
  simp[execOp,ho,hle,uW,cq]
 constructor
 ·intro h0;subst h0;refine⟨_,_,_,E7,h.settle [] (some (.slot B.d (o.dst.getD 0))) (by simp) (λj hj=>Go.heap_alloc_old w _ hj) (λ_ _ e=>by simp at e) rfl rfl rfl,?_,λd hd=>?_,eg _⟩
  ·exact .sl (c:=w.heap.size) (o:=0) (λ_=>.nilFunc) (λ_ e=>by simp at e) (eg _) (λe=>absurd rfl e) (λ_ _ e=>by simp[zI] at e) (λ_ _ e=>by simp[zI] at e) (λ_ _ e=>by simp[zI] at e)
  ·refine⟨[],zgr (World.ownsRow_made w _ c.toNat (eg _) (by simp only[maxLen];omega) (by rw[size_madeCells,tC])),λc' ej=>?_⟩
   simp only[Value.ownBlock,br] at ej;subst ej;refine⟨by simp[Gh.row,hd],λo' _ _=>by simp[Gh.row],λb hb e=>?_⟩
   have:=h.cY.lt b hb;simp only[Gh.row] at e;omega
 ·have hm:=zla z2 ek VS AU c.toNat
  have lg:=λx hx=>VE (v:=cz) (z:=z) (by
   simp only[qQ,eG] at hz;obtain⟨i',tv,zz,Ns,hv⟩:=hz;rw[hi] at tv;cases tv
   rw[Ns] at z5;cases z5;exact hv) x hx
  have eT:∀x∈zI (List.replicate c.toNat z),∀sz xs o,x≠.sl sz xs o:=λx hx=>by
   obtain⟨y,hy,Hx⟩:=List.mem_flatMap.1 hx;rw[(List.mem_replicate.1 hy).2] at Hx;exact lg x Hx
  have hv:(g.var s.H.az.length w.heap.size).bP s.H.az.length=w.heap.size:=by simp[Gh.var]
  rw[tC] at E7;refine⟨g.var s.H.az.length w.heap.size,_,_,E7,?_,?_,λ_ _=>trivial,by simp[V.top,Hp.push]⟩
  ·rw[za1];refine h.pP hm (qL λx hx=>?_) λj x v hx lf=>⟨?_,λsz xs e=>eT x (zv hx) _ _ _ e⟩
   ·obtain⟨y,hy,Hx⟩:=List.mem_flatMap.1 hx;rw[(List.mem_replicate.1 hy).2] at Hx;exact cP (SH Hx) (by omega)
   ·cases x with
    | sl sz xs o=>exact absurd rfl (eT _ (zv hx) sz xs o)
    | _=>trivial
  ·have:=aR.sr (g:=g.var s.H.az.length w.heap.size) (b:=s.H.az.length) (off:=0) (show l.toNat<=c.toNat by omega)
   rw[hv] at this;exact this
theorem VT{sz:Nat}{xs:aD}(hs:∀y:V,y∈xs->y.cells.length=sz){c j:Nat}{y:V}(h:(zI (xs.drop c))[j]?=some y):(zI xs)[c * sz+j]?=some y :=
 yu (b:=xs.length) hs (by rw[DF];exact h)
theorem zlb(h:Rel B g s a w){t:aB}{x:aX}{lo:Option aX}{o:Oper}{v:V}{cX:aD}(hm:KS P t x lo s.env=some (v,cX))(ho:o.op=.slice t x lo none none):fo P B { s with env:=cX } a w o v:=by
 unfold KS at hm;split at hm<;>try (cases hm;done)
 rename_i e' sz xs e cK k i ht hx iA;split at hm<;>try (cases hm;done)
 rename_i n hn;split at hm<;>simp only[br,reduceCtorEq,cg] at hm;rename_i hc;obtain⟨rfl,rfl⟩:=hm;simp only[eo,decide_eq_true_eq] at hc;obtain⟨⟨c1,c2⟩,c3⟩:=hc;obtain rfl:=eU c1;have c3:=rJ c3;have En:=HF h iA;obtain⟨g',k1,k2,k3,k4,_⟩:=vJ h hx (.slot B.d (o.dst.getD 0));have VQ:fK g' s.H.az.length w (.slot B.d (o.dst.getD 0)) e n xs.length (a.eval x):=k3;obtain⟨vs,b_,iC⟩:=VQ
 have hu:=run_underlying ht w;generalize hi:i.toNat=j at *;generalize Ju:a.eval x=cv at *;cases k2 with
 | sl f h1 h2 h3 h4 h5 h6 =>
  rename_i ad cap cb ro;have cZ:=xf (P:=P) (isSlice:=true) (lo:=some (.int k i)) (hi:=none) (Ek:=none) (len:=xs.length) (l:=j) (h:=xs.length) En trivial rfl (by simp[j8,c2,hi]) c3 (dI _) h2 w
  have hlen:(xs.drop j).length=xs.length - j:=by simp
  have cq:(execOp a.eval o).run P w=.ok (.value (.slice (if cap=j then ad else ad.map (·.add (j * n))) (xs.length - j) (cap - j))) w:=by
   simp[execOp,ho,Ju,Instr.sliceAt,hu,Instr.slice,cZ,ju hn]
  refine⟨g',_,w,cq,k1,?_,λd hd=>?_,cP (qL λy hy=>zn (B8 hy)) k4⟩
  ·rw[<- hlen];refine .sl (c:=cb) (o:=ro+j * n) (λq=>f (j * n+q)) (λy hy=>h1 y (B8 hy)) (by rw[hlen];omega) (λcI=>?_) (λq y hq=>h4 _ y (VT h1 hq)) (λq y hq=>?_) (λq y hq=>h6 _ y (VT h1 hq))
   ·have:0<xs.length - j:=by rw[<- hlen];exact KK.2 cI
    rw[if_neg (by omega),h3 (by rintro rfl;simp at cI)]
    simp[Addr.add_lit]
   ·rw[pL];exact h5 _ y (VT h1 hq)
  ·have GC:o.dst.getD 0=d:=by rw[hd];rfl
   subst GC;show fK g' s.H.az.length w _ e n (xs.drop j).length _;rw[hlen];obtain⟨r1,⟨r2,r3⟩|⟨c,VU,ou,cur,r2,r3,r4,r5,r6,r7⟩⟩:=b_
   ·simp only[Value.slice.injEq] at r2;obtain⟨rfl,_,rfl⟩:=r2;have hj:j=0:=by omega
    subst hj;simp only[aF,r3,Nat.zero_sub];exact⟨[],⟨by simp,.inl ⟨rfl,rfl⟩⟩,λc hc=>(by cases hc)⟩
   ·simp only[Value.slice.injEq,iU] at r2;obtain⟨rfl,rfl⟩:=r2;obtain⟨o1,o2,o3⟩:=iC c rfl
    by_cases VV:cap=j
    ·rw[if_pos VV];have GB:xs.length - j=0:=by omega
     rw[GB,VV,Cb];refine⟨[],⟨by simp,.inr ⟨c,VU,0,cur,rfl,r3,dI _,by simp[maxLen],.inl rfl,by simp⟩⟩,λc' ej=>?_⟩
     cases ej;exact⟨o1,λq q1 q2=>by simp only at q1 q2;omega,o3⟩
    ·rw[if_neg VV];simp only[aS,Addr.add_lit];have dZ:cur.size=VU+cap * n:=by rcases r6 with r6|r6;omega;exact r6
     refine⟨vs.drop (j * n),⟨by rw[List.length_drop,r1,Nat.sub_mul],.inr ⟨c,VU+j * n,cap - j,cur,rfl,r3,by omega,by omega,.inr ?_,?_⟩⟩,λc' ej=>?_⟩
     ·rw[dZ,pL,<- tq]
      congr 2
      omega
     ·rw[<- r7,<- List.drop_drop,List.drop_take,Nat.sub_mul]
     ·cases ej;refine⟨o1,λq q1 q2=>o2 q ?_ ?_,o3⟩
      ·simp only at q1 ⊢;have:j * n+(xs.length - j) * n=xs.length * n:=by rw[<- tq];congr 1;omega
       omega
      ·simp only at q2 ⊢;have:j * n+(cap - j) * n=cap * n:=by rw[<- tq];congr 1;omega
       omega
theorem znp(h:Rel B g s a w){t:aB}{p:aX}{b off sz:Nat}{xs:aD}{e:aB}{cs:aD}{ty:aB}(E2:qD P t=some false)(hp:ak s.env p=some (.ptr b off))(hb:s.H.get b=some (.cells cs ty))
  (hc:cs[off]?=some (.sl sz xs (.yes e))) {o:Oper} (ho:o.op=.load t p) :
  fo P B { s with H:=s.H.set b (.cells (cs.set off (.sl sz xs .lock)) ty),lk:=(b,off)::s.lk } a w o (.sl sz xs (.yes e)):=by
 have p1:=(zJ h hp).1;generalize OS:a.eval p=cp at p1;cases p1;have nA:s.H.az[b]?=some (.cells cs ty):=by simpa[Hp.get,zg] using hb
 have lO:b<s.H.az.length:=(c_.1 nA).1;obtain⟨arr,a1,a2,a3⟩:=h.cY.ok b _ nA;have dr:=h.cY.aI b _ nA;have DT:off<cs.length:=(c_.1 hc).1;have hoa:off<arr.size:=by omega
 have iV:arr[off]?=some arr[off]:=Eh hoa;generalize arr[off]=cv at iV;obtain⟨c1,c2,c3,_⟩:=a3 off _ cv hc iV;have iC:fK g s.H.az.length w (.cell b off) e sz xs.length cv:=c3;have dg:w.cell? ⟨g.bP b,off,none⟩=some cv:=by rw[cell_of_row w _ _ arr _ _ a1];exact iV
 have cq:(execOp a.eval o).run P w=.ok (.value cv) w:=by
  simp[execOp,ho,OS,Instr.loadAt,Instr.sureAddr,loadVar,SI E2,dg]
 let l1:Loc:=.slot B.d (o.dst.getD 0)
 let g':Gh:={ g with own:=λc=>if cv.ownBlock=some c then some l1 else g.own c,lk:=λb' o'=>if b'=b/\o'=off then cv else g.lk b' o' }
 have Lb:∀c,(∀l,some (Loc.cell b off)=some l->g.own c≠some l)->cv.ownBlock≠some c:=λc ej e=>by
  obtain⟨vs,_,Nx⟩:=iC;exact ej _ rfl (Nx c e).1
 have iJ:ir B.d (some b) (some (.cell b off)) s.H.az.length g w g' w :=
  ⟨⟨λ_ _ _ e=>e,λ_ _=>rfl,rfl,λ_ _ _ _ e=>e⟩,λ_ _ _ _=>rfl,λc _ ej=>by show(if _ then _ else _)=_;rw[if_neg (Lb c ej)],λ_ _ _ _=>rfl,dI _,
   λb' o' hl=>by show(if _ then _ else _)=_;rw[if_neg];rintro⟨rfl,rfl⟩;exact hl _ rfl rfl,λl hl=>.inr ⟨b,off,by cases hl;rfl,rfl⟩,λb' cZ=>by cases cZ;exact lO,λ_ _ _ _=>rfl,rfl,rfl,rfl⟩
 have lg:¬jp s.H.az b off:=by
  rintro⟨cs',t',OO,Ci,h1,h2⟩;rw[nA] at h1;cases h1;rw[hc] at h2;cases h2
 have hlen:(s.H.set b (.cells (cs.set off (.sl sz xs .lock)) ty)).az.length=s.H.az.length:=by simp[Hp.set]
 have C':(s.H.set b (.cells (cs.set off (.sl sz xs .lock)) ty)).az[b]?=some (.cells (cs.set off (.sl sz xs .lock)) ty):=by simp[Hp.set,lO]
 have sx:∀b',b'≠b->(s.H.set b (.cells (cs.set off (.sl sz xs .lock)) ty)).az[b']?=s.H.az[b']?:=λb' cI=>by simp[Hp.set,rW (Ne.symm cI)]
 have Da:(aV.cells (cs.set off (.sl sz xs .lock)) ty).top<=(aV.cells cs ty).top :=
  Vs (cs:=cs) (dI _) (by show aI xs<=_;exact zn (zv hc))
 have O2:∀b' o',jp s.H.az b' o'->jp (s.H.set b (.cells (cs.set off (.sl sz xs .lock)) ty)).az b' o':=by
  rintro b' o' ⟨cs',t',OO,Ci,h1,h2⟩
  by_cases e1:b'=b
  ·subst e1;rw[nA] at h1;cases h1
   by_cases e2:o'=off
   ·subst e2;exact⟨_,_,sz,xs,C',B7 DT⟩
   ·exact⟨_,_,OO,Ci,C',by rw[rW (Ne.symm e2)];exact h2⟩
  ·exact⟨cs',t',OO,Ci,by rw[sx b' e1];exact h1,h2⟩
 have hR:Rel B g' { s with H:=s.H.set b (.cells (cs.set off (.sl sz xs .lock)) ty),lk:=(b,off)::s.lk } a w:=by
  refine h.j_ (s':={ s with H:=s.H.set b (.cells (cs.set off (.sl sz xs .lock)) ty),lk:=(b,off)::s.lk }) iJ (by rw[hlen];exact dI _) (λb' _ cI=>sx b' λe=>cI (by rw[e])) (λb' x Db hx=>?_) (λb' h1 h2=>?_) (λb1 b2 h1 h2=>?_) h.cY.mem (λc l gG=>?_)
   (λb' j e=>by cases e;exact lg) rfl rfl (λt x hx=>⟨x,hx,.inl ⟨rfl,λe=>by cases e⟩⟩) (λb' x hx=>?_) (λb' o' hl=>O2 b' o' (h.lV b' o' hl)) (λq hq=>?_) (λ_ e=>by cases e)
  ·have cZ:b'=b:=by
    rcases Db with Db|Db
    ·cases Db;rfl
    ·have:=(c_.1 hx).1;rw[hlen] at this;omega
   subst cZ;rw[C'] at hx;cases hx;rw[hlen];refine⟨⟨arr,a1,by simpa using a2,λj x v hx hv=>?_⟩,cP Da dr⟩
   by_cases e2:j=off
   ·subst e2;rw[B7 DT] at hx;cases hx;rw[iV] at hv;cases hv;refine⟨rfl,?_,trivial,?_⟩
    ·have:=c2.le iJ.le (cP (zn (zv hc)) dr);cases this with
     | sl f h1 h2 h3 h4 h5 h6=>exact .sl f h1 h2 h3 h4 h5 h6
    ·show cv=(if _ then _ else _)
     rw[if_pos ⟨rfl,rfl⟩]
   ·rw[rW (Ne.symm e2)] at hx;obtain⟨d1,d2,d3,d4⟩:=a3 j x v hx hv;refine⟨d1,d2.le iJ.le (cP (zn (zv hx)) dr),cM.same iJ (λe=>by cases e;exact e2 rfl) (λb1 h2 h3=>absurd h3 (Nat.not_lt.2 h2)) d3,?_⟩
    unfold OK at *;split
    ·show v=(if _ then _ else _)
     rw[if_neg (λe=>e2 e.2)];exact d4
    ·trivial
  ·rw[hlen] at h2;omega
  ·rw[hlen] at h2;omega
  ·simp only[g'] at gG;split at gG
   next e=>exact iC.lt c e
   ·exact h.cY.eV c l gG
  ·by_cases e1:b'=b
   ·subst e1;rw[show({ s with H:=s.H.set b' (.cells (cs.set off (.sl sz xs .lock)) ty),lk:=(b',off)::s.lk }:St).H.az[b']?=_ from C'] at hx;cases hx;rcases h.bG b' _ nA with h1|⟨m,h1,h2⟩|⟨y,h1,h2⟩
    ·exact .inl (cP Da h1)
    ·exact .inr (.inl ⟨m,h1,cP Da h2⟩)
    ·exact .inr (.inr ⟨y,h1,cP Da h2⟩)
   ·rw[show({ s with H:=s.H.set b (.cells (cs.set off (.sl sz xs .lock)) ty),lk:=(b,off)::s.lk }:St).H.az[b']?=s.H.az[b']? from sx b' e1] at hx;exact h.bG b' x hx
  ·rcases dH.1 hq with rfl|hq
   ·exact λhl=>lg (h.lV b off hl)
   ·exact h.n8 q hq
 have htx:aI xs<=s.H.az.length:=cP (show(V.sl sz xs (.yes e)).top<=_ from zn (zv hc)) dr;refine⟨g',cv,w,cq,hR,c2.le iJ.le (cP (zn (zv hc)) dr),λd hd=>?_,by rw[hlen];exact htx⟩
 obtain⟨vs,SS,Nx⟩:=iC;refine⟨vs,SS,λc ej=>⟨?_,(Nx c ej).2.1,?_⟩⟩
 ·show(if _ then _ else _)=_
  rw[if_pos ej];simp only[l1,hd,fQ]
 ·rw[hlen];exact(Nx c ej).2.2
end
section
variable{P:aQ}{B:dS}{g:Gh}{s:St}{a:Act}{w:aP}
theorem zpc{s':St}{o:Oper}{v:V}(h:fo P B s' a w o v){K:Act->aP->Prop}{Q:Exit->Act->aP->Prop}(hk:∀g' cv w',DQ B g' s' a w' o.dst v cv->K (a.put o.dst cv) w'):o.wp P a w K Q:=by
 obtain⟨g',cv,w',h1,h2⟩:=h;unfold Oper.wp;rw[h1,Oper.upon_value];exact hk g' cv w' h2
theorem wp_skip{s':St}{o:Oper}(h:oC P B s' a w o){K:Act->aP->Prop}{Q:Exit->Act->aP->Prop}(hk:∀g' w',Rel B g' s' a w'->K (a.put o.dst undef) w'):o.wp P a w K Q:=by
 obtain⟨g',w',h1,h2⟩:=h;unfold Oper.wp;rw[h1,Oper.upon_skip];exact hk g' w' h2
theorem zgE(h:Rel B g s a w){x:aX}{v:V}{cX:aD}(ht:take s.env x=some (v,cX)){o:Oper}(ho:o.op=.move x\/o.op=.assign x):fo P B { s with env:=cX } a w o v:=by
 obtain⟨g',h1,v1,v2,v3,_⟩:=vJ h ht (.slot B.d (o.dst.getD 0));refine⟨g',a.eval x,w,by rcases ho with ho|ho<;>simp[execOp,ho],h1,v1,λd hd=>?_,v3⟩
 simpa[hd] using v2
theorem znq(h:Rel B g s a w){x:aX}{v:V}{t ty:aB}{n:Int}(hx:ak s.env x=some v)(hl:jb P s.H t v=some n):(Builtin.len_ #[t] ty #[a.eval x]).run P w=.ok (.int .i64 n) w:=by
 have x1:=(zJ h hx).1;unfold jb at hl;split at hl
 next ht=>simp only[br] at hl;subst hl;generalize a.eval x=c at x1;cases x1;simp[Builtin.len_,run_underlying ht,goInt,kH]
 next ht=>simp only[br] at hl;subst hl;rw[x1.o_];simp[Builtin.len_,run_underlying ht,goInt]
 next ht=>simp only[br] at hl;subst hl;obtain⟨b,c,e,_⟩:=x1.E5;rw[e];simp[Builtin.len_,run_underlying ht,goInt]
 next ht=>simp only[br] at hl;subst hl;generalize a.eval x=c at x1;cases x1;simp[Builtin.len_,run_underlying ht,goInt]
 next ht=>simp only[br] at hl;subst hl;generalize a.eval x=c at x1;cases x1;simp[Builtin.len_,run_underlying ht,goInt]
 next ht=>simp only[br] at hl;subst hl;generalize a.eval x=c at x1;cases x1;simp[Builtin.len_,run_underlying ht,goInt]
 ·rename_i b ht;split at hl<;>simp only[br,reduceCtorEq] at hl;rename_i es hb;subst hl;obtain⟨en,ck,e1,e2,_⟩:=xZ h hb;generalize a.eval x=c at x1;cases x1;have hg:(getObj (g.bP b)).run P w=.ok (.map en ck) w:=by simp[getObj,Sem.run,e1]
  have:es.length=en.size:=by have:=e2.len;simpa using this
  simp[Builtin.len_,run_underlying ht,hg,goInt,this]
 ·cases hl
theorem zeD(h:Rel B g s a w){x y:aX}{k k':IntKind}{m n:Int}(hx:ak s.env x=some (.int k m))(hy:ak s.env y=some (.int k' n))(ps:Array aB)(ty:aB) :
  (Builtin.min_ ps ty #[a.eval x,a.eval y]).run P w=.ok (.int k (if n<m then n else m)) w/\(Builtin.max_ ps ty #[a.eval x,a.eval y]).run P w=.ok (.int k (if n > m then n else m)) w:=by
 have x1:=(zJ h hx).1;have y1:=(zJ h hy).1;generalize a.eval x=c at x1;generalize a.eval y=d at y1;cases x1;cases y1;constructor
 ·simp[Builtin.min_,Builtin.min2]
 ·simp[Builtin.max_,Builtin.max2]
end
section
variable{P:aQ}{B:dS}{g:Gh}{s:St}{a:Act}{w:aP}
structure mw(d:Nat)(H:Hp)(g:Gh)(w:aP)(H':Hp)(g':Gh)(w':aP):Prop where
 cY:q_ g' H'.az w'
 fr:Fr d H.az g w g' w'
 len:H.az.length<=H'.az.length
 d_:∀b,H.az.length<=b->b<H'.az.length->w.heap.size<=g'.bP b
 bG:∀(b:Nat)(x:aV),H'.az[b]?=some x->x.top<=b+1\/(∃m,(b,m)∈H'.bG/\x.top<=m)\/∃y:aV,H.az[b]?=some y/\x.top<=y.top
 E8:∀p∈H.bG,p∈H'.bG
 lV:∀b off,jp H.az b off->jp H'.az b off
def fS(d:Nat)(H:Hp)(g:Gh)(w:aP)(l:Loc)(out:Out)(H':Hp):Ending->aP->Prop
 | .returned cv,w'=>∃v g',out=.ret v/\mw d H g w H' g' w'/\aR g' v cv/\cM g' H'.az.length w' l v cv/\v.top<=H'.az.length
 | .panicked chain,w'=>∃v cv g',out=.pM v/\chain=[{ v:=cv,recovered:=false }]/\mw d H g w H' g' w'/\aR g' v cv/\v.top<=H'.az.length
 | .outgrown,_=>False
def zgF(args:aD):Prop:=∀x∈args,∀sz xs e,x≠.sl sz xs (.yes e)
structure eP(g:Gh)(n:Nat)(args:aD)(bx:dN):Prop where
 len:args.length=bx.size
 rel:∀(j:Nat)(x:V)(v:bt),args[j]?=some x->bx[j]?=some v->aR g x v
 top:aI args<=n
 no:zgF args
def xA(P:aQ)(gl:Nat->Nat->bX)(call:FuncId->aD->Hp->Option (Out×Hp))(d:Nat):Prop :=
 ∀f args H out H',call f args H=some (out,H')->∀g w bx l,iu P gl g->q_ g H.az w->eP g H.az.length args bx->Calls P f bx w (fS d H g w l out H')
theorem rM.mono{d d' n:Nat}(h:d<=d'){c:Nat}(hp:rM d' n g w c):rM d n g w c :=
 ⟨hp.1,hp.2.1,hp.2.2.imp id λ⟨k,t,e,hk⟩=>⟨k,t,e,KL h hk⟩⟩
theorem Fr.mono{d d':Nat}(h:d<=d'){bs:List aV}{g':Gh}{w':aP}(hf:Fr d bs g w g' w'):Fr d' bs g w g' w' :=
 ⟨hf.le,λc hc=>hf.heap c (hc.mono h),λc hc=>hf.own c (hc.mono h),λc hc=>hf.M c (hc.mono h),hf.size,hf.lk,hf.os,hf.tape,hf.output⟩
theorem cM.after{d dd t:Nat}(hd:d<dd){H H':Hp}{g':Gh}{w':aP}(hA:mw d H g w H' g' w'){x:V}{cv:bt}(h:cM g H.az.length w (.slot dd t) x cv):cM g' H'.az.length w' (.slot dd t) x cv:=by
 unfold cM at *;split
 ·rename_i sz xs e;have h':fK g H.az.length w (.slot dd t) e sz xs.length cv:=h;have bR:=h'.lt;obtain⟨vs,h1,h2⟩:=h';have hp:∀c,cv.ownBlock=some c->rM d H.az.length g w c:=λc hc=>⟨bR c hc,(h2 c hc).2.2,.inr ⟨dd,t,(h2 c hc).1,hd⟩⟩;refine⟨vs,za0 h1 λc hc=>hA.fr.heap c (hp c hc),λc hc=>⟨?_,?_,λb hb e=>?_⟩⟩
  ·rw[hA.fr.own c (hp c hc)];exact(h2 c hc).1
  ·exact(h2 c hc).2.1.eq λo=>hA.fr.M c (hp c hc) o
  ·rcases eX b H.az.length with cZ|cZ
   ·exact(h2 c hc).2.2 b cZ ((hA.fr.le.bP b cZ).symm.trans e)
   ·have:=hA.d_ b cZ hb;have:=bR c hc;omega
 ·trivial
theorem Rel.call(h:Rel B g s a w){d:Nat}(hd:d<B.d){H':Hp}{g':Gh}{w':aP}(hA:mw d s.H g w H' g' w'):Rel B g' { s with H:=H' } a w':=by
 refine { cY:=hA.cY,len:=h.len,env:=λt x v hx hv=>?_,dO:=λt x hx=>cP (h.dO t x hx) hA.len,n0:=cP h.n0 hA.len,bG:=λb x hx=>?_,d_:=λb h1 h2=>?_,fr:=?_,lV:=λb off hl=>hA.lV b off (h.lV b off hl),n8:=h.n8,cW:=λp hp=>?_,eF:=h.eF,defers:=λj x q hx hq=>(h.defers j x q hx hq).le hA.fr.le hA.len,marks:=λdm hdd D hD=>?_,nq:=h.nq }
 ·obtain⟨h1,h2⟩:=h.env t x v hx hv;exact⟨h1.le hA.fr.le (h.dO t x hx),h2.after hd hA⟩
 ·rcases hA.bG b x hx with h1|h1|⟨y,h1,h2⟩
  ·exact .inl h1
  ·exact .inr (.inl h1)
  ·rcases h.bG b y h1 with h3|⟨m,h3,h4⟩|⟨z,h3,h4⟩
   ·exact .inl (cP h2 h3)
   ·exact .inr (.inl ⟨m,hA.E8 _ h3,cP h2 h4⟩)
   ·exact .inr (.inr ⟨z,h3,cP h2 h4⟩)
 ·rcases eX b s.H.az.length with h3|h3
  ·rw[hA.fr.le.bP b h3];exact h.d_ b h1 h3
  ·exact cP h.fr.size (hA.d_ b h3 h2)
 ·exact h.fr.trans h.n0 h.d_ (λb off hl=>h.lV b off (.inl hl)) (hA.fr.mono (Nat.le_of_lt hd))
 ·obtain⟨p1,p2,p3,p4,p5⟩:=h.cW p hp;refine⟨p1,p2.le hA.fr.le p4,p3.after hd hA,cP p4 hA.len,λb off e=>?_⟩;rw[hA.fr.lk b off (h.lV b off (.inr ⟨p,hp,e⟩))];exact p5 b off e
 ·obtain⟨h0,h1,h2,h3⟩:=h.marks dm hdd D hD;have bR:D<w.heap.size:=(tj.1 h1).1;have hp:rM d s.H.az.length g w D:=⟨bR,h2,.inl h3⟩;refine⟨h0,(hA.fr.heap D hp).trans h1,λb hb e=>?_,(hA.fr.own D hp).trans h3⟩;rcases eX b s.H.az.length with h4|h4
  ·rw[hA.fr.le.bP b h4] at e;exact h2 b h4 e
  ·have:=hA.d_ b h4 hb;omega
structure Ends(P:aQ)(B:dS)(o:Oper)(r:OR)(s':St)(K:Act->aP->Prop)(Q:Exit->Act->aP->Prop):Prop where
 val:∀v,r=.val v->∀g' cv a' w',DQ B g' s' a' w' o.dst v cv->K (a'.put o.dst cv) w'
 skip:r=.skip->∀g' a' w',Rel B g' s' a' w'->K (a'.put o.dst undef) w'
 pM:∀v,r=.pM v->∀g' cv a' w',Rel B g' s' a' w'->aR g' v cv->v.top<=s'.H.az.length->Q (.panic [{ v:=cv,recovered:=false }]) a' w'
def yA(P:aQ):Prop:=∀(f:FuncId)(fn:Func),P.funcs[f]?=some fn->(fn.name == "runtime.NumGoroutine")=false
def w8(P:aQ):Prop:=∀(f:FuncId)(fn:Func)(args:aD)(v:V),P.funcs[f]?=some fn->fn.body=none->Vg fn.name args=some v ->
 ∀g n bx w,eP g n args bx->∃cv,(callFunc f bx).run P w=.ok (.value cv) w/\aR g v cv/\v.top=0/\(∀k l,cM g k w l v cv)
theorem zgG{cx:Cx}(hP:cx.P=P)(fN:yA P)(dP:w8 P){d:Nat}(hd:d<B.d)(rj:iu P cx.gl B.g)(dw:xA P cx.gl cx.call d)(h:Rel B g s a w){f:FuncId}{args:aD}{bx:dN}{r:OR}{H':Hp}
  (hc:cx.bC f args s.H=some (r,H')) (fB:eP g s.H.az.length args bx) {o:Oper} (ho:(execOp a.eval o).run P w=(callFunc f bx).run P w) {K:Act->aP->Prop} {Q:Exit->Act->aP->Prop} (hE:Ends P B o r { s with H:=H' } K Q):o.wp P a w K Q:=by
 have E9:iu P cx.gl g:=rj.le h.fr.le;unfold Cx.bC at hc;rw[hP] at hc;cases hf:P.funcs[f]? with
 | none=>rw[hf] at hc;cases hc
 | some fn =>
  rw[hf] at hc;simp only at hc;cases hb:fn.body with
  | none =>
   rw[hb] at hc;simp only at hc;split at hc<;>simp only[br,reduceCtorEq,cg] at hc;rename_i v hv;obtain⟨rfl,rfl⟩:=hc;obtain⟨cv,h1,h2,h3,h4⟩:=dP f fn args v hf hb hv g _ bx w fB;unfold Oper.wp;rw[ho,h1,Oper.upon_value];exact hE.val v rfl g cv a w ⟨h,h2,λ_ _=>h4 _ _,by omega⟩
  | some c =>
   rw[hb] at hc;simp only at hc;split at hc<;>simp only[br,reduceCtorEq] at hc;rename_i res lP;obtain⟨out,H1⟩:=res;have cq:(callFunc f bx).run P w=.ok (.enter f bx) w:=by
    have cI:fn.name≠ "runtime.NumGoroutine":=by simpa using fN f fn hf
    simp[callFunc,hf,hb,cI]
   unfold Oper.wp;rw[ho,cq,Oper.upon_enter];refine Calls.mono (dw f args s.H out H1 lP g w bx (.slot B.d (o.dst.getD 0)) E9 h.cY fB) λe w' hp=>?_;cases e with
   | returned cv =>
    obtain⟨v,g',rfl,hA,v1,v2,v3⟩:=hp;simp only[Hu,cg] at hc;obtain⟨rfl,rfl⟩:=hc;exact hE.val v rfl g' cv a w' ⟨h.call hd hA,v1,λt ht=>by simpa[ht] using v2,v3⟩
   | panicked chain =>
    obtain⟨v,cv,g',rfl,rfl,hA,v1,v3⟩:=hp;simp only[Hu,cg] at hc;obtain⟨rfl,rfl⟩:=hc;exact hE.pM v rfl g' cv a w' (h.call hd hA) v1 v3
   | outgrown=>exact hp.elim
end
section
variable{P:aQ}{B:dS}{g:Gh}{s:St}{a:Act}{w:aP}
theorem zfq(l:aD):zgF (l.map aW):=λx hx sz xs e h=>by
 obtain⟨y,_,rfl⟩:=mj.1 hx;exact vQ y sz xs e h
theorem eP.E_{n:Nat}{l:aD}{arr:dN}(hl:l.length=arr.size)(hr:∀(j:Nat)(x:V)(v:bt),l[j]?=some x->arr[j]?=some v->aR g x v)(ht:aI l<=n):eP g n (l.map aW) arr :=
 ⟨by simpa using hl,λj x v hx hv=>by
  simp only[iY,m9] at hx;obtain⟨y,hy,rfl⟩:=hx
  exact(hr j y v hy hv).aW,by rw[eO];exact ht,zfq l⟩
theorem vC{l m:aD}{x y:dN}(h1:l.length=x.size)(hl:∀(j:Nat)(z:V)(v:bt),l[j]?=some z->x[j]?=some v->aR g z v)(hm:∀(j:Nat)(z:V)(v:bt),m[j]?=some z->y[j]?=some v->aR g z v) :
  ∀(j:Nat)(z:V)(v:bt),(l++m)[j]?=some z->(x++y)[j]?=some v->aR g z v:=λj z v hz hv=>by
 rcases eX j l.length with h|h
 ·rw[gb h] at hz;rw[Array.getElem?_append_left (by omega)] at hv
  exact hl j z v hz hv
 ·rw[fE h] at hz;rw[Array.getElem?_append_right (by omega),<- h1] at hv
  exact hm _ z v hz hv
theorem wz{l m:aD}{n:Nat}(h1:aI l<=n)(h2:aI m<=n):aI (l++m)<=n :=
 qL λ_ hx=>(rK.1 hx).elim (λh=>cP (zn h) h1) (λh=>cP (zn h) h2)
theorem zj7{t:aB}{v rv:V}{cv:bt}{name:String}{f:FuncId}(hm:Vf P t v name=some (f,rv))(k:Nat):rv=v/\(method (k+1) t cv name).run P w=.ok (f,cv) w:=by
 simp only[Vf,Option.bind_eq_bind,eG] at hm;obtain⟨i,hi,m,HO,hm⟩:=hm;split at hm<;>try (cases hm;done)
 rename_i hp;simp only[eG] at hm;obtain⟨⟨f',pr⟩,hf,ds,hds,hm⟩:=hm;have GD:m.path=#[]:=by simpa using hp
 simp only at hm;split at hm<;>simp only[br,reduceCtorEq,cg] at hm
 ·obtain⟨rfl,rfl⟩:=hm;refine⟨rfl,?_⟩;simp[method,typeInfo,hi,HO,GD,follow,hf,receiverAt,run_underlying hds,Place.get]
 ·obtain⟨rfl,rfl⟩:=hm;refine⟨rfl,?_⟩;cases ds<;>first
   |(simp[method,typeInfo,hi,HO,GD,follow,hf,receiverAt,run_underlying hds,Place.get];done)
   |(exfalso;simp_all;done)
theorem zhZ(P:aQ):∃k,P.types.size+Made.depth=k+1:=⟨P.types.size+(Made.depth - 1),by simp[Made.depth]⟩
theorem zgH{cx:Cx}(hP:cx.P=P)(fN:yA P)(dP:w8 P){d:Nat}(hd:d<B.d)(rj:iu P cx.gl B.g)(dw:xA P cx.gl cx.call d)(h:Rel B g s a w){fv:V}{args:aD}{fn:Fn}{fa fc bx:dN}{r:OR}{H':Hp}
  (hc:cx.mq fv args s.H=some (r,H')) (Eo:aR g fv (.func fn fa fc)) (GF:fv.top<=s.H.az.length) (hl:args.length=bx.size) (hr:∀(j:Nat)(x:V)(v:bt),args[j]?=some x->bx[j]?=some v->aR g x v) (ht:aI args<=s.H.az.length)
  {o:Oper} (ho:(execOp a.eval o).run P w=(invoke (.fn fn fc) (fa++bx)).run P w) {K:Act->aP->Prop} {Q:Exit->Act->aP->Prop} (hE:Ends P B o r { s with H:=H' } K Q):o.wp P a w K Q:=by
 unfold Cx.mq at hc;split at hc
 ·rename_i f first cap
  simp only[eE] at hc;cases Eo with
  | fn f1 f2 f3 f4 =>
   have SV:aI first<=s.H.az.length/\aI cap<=s.H.az.length:=tu.1 GF
   refine zgG hP fN dP hd rj dw h hc (bx:=fa++bx++fc) (eP.E_ (by simp[f1,f2,hl]) (vC (by simp[f1,hl]) (vC f1 f3 hr) f4) (wz (wz SV.1 ht) SV.2)) ?_ hE
   rw[ho];rfl
 ·rename_i name first cap
  split at hc<;>try (cases hc;done)
  rename_i t v rest O3;split at hc<;>try (cases hc;done)
  rename_i f rv hm;rw[hP] at hm;simp only[eE] at hc;cases Eo with
  | fn f1 f2 f3 f4 =>
   have SV:aI first<=s.H.az.length/\aI cap<=s.H.az.length:=tu.1 GF
   have dF:=vC f1 f3 hr;have hlen:(first++args).length=(fa++bx).size:=by simp[f1,hl]
   have dr:=wz SV.1 ht;rw[O3] at dF hlen dr;have h0:0<(fa++bx).size:=by rw[<- hlen];simp
   have AV:=dF 0 _ _ rfl (Eh h0);generalize GG:(fa++bx)[0]=cr at AV;cases AV with
   | ec hv =>
    rename_i cv;obtain⟨k,hk⟩:=zhZ P;obtain⟨rfl,hmr⟩:=zj7 (P:=P) (w:=w) (cv:=cv) hm k;have AX:(fa++bx)[0]?=some (.iface t cv):=by rw[Eh h0,GG]
    refine zgG hP fN dP hd rj dw h hc (bx:=#[cv]++(fa++bx).extract 1 (fa++bx).size) (eP.E_ ?_ (λj x u hx hu=>?_) ?_) ?_ hE
    ·simp only[aZ] at hlen;simp only[aZ,Array.size_append,Array.size_extract,List.size_toArray,List.length_nil] at *;omega
    ·cases j with
     | zero =>
      rw[Array.getElem?_append_left (by simp)] at hu
      simp only[KG,br,List.getElem?_toArray] at hx hu;subst hx;subst hu;exact hv
     | succ j =>
      refine dF (j+1) x u (by simpa using hx) ?_
      rw[Array.getElem?_append_right (by simp)] at hu
      simp only[List.size_toArray,aZ,List.length_nil,nO,Nat.add_sub_cancel] at hu;rw[Array.getElem?_extract] at hu;split at hu
      ·rw[Jo] at hu;exact hu
      ·cases hu
    ·exact qL λx hx=>by
      rcases dH.1 hx with rfl|hx
      ·exact cP (show _<=(V.ec t x).top from dI _) (cP (zn (eH ..)) dr)
      ·exact cP (zn (dR _ hx)) dr
    ·rw[ho];simp only[invoke,AX,callMethod];simp[hk,hmr]
 ·cases hc
end
section
variable{P:aQ}{B:dS}{g:Gh}{s:St}{a:Act}{w:aP}
theorem uk{args:rL}{x y:aX}(h:args.toList=[x,y]):args=#[x,y]:=by
 apply Array.ext';simpa using h
theorem zp6{args:rL}{x:aX}(h:args.toList=[x]):args=#[x]:=by
 apply Array.ext';simpa using h
theorem zlc{args:Array aB}{x y:aB}(h:args.toList=[x,y]):args=#[x,y]:=by
 apply Array.ext';simpa using h
theorem zpd{args:Array aB}{x:aB}(h:args.toList=[x]):args=#[x]:=by
 apply Array.ext';simpa using h
theorem zh0{cx:Cx}(hP:cx.P=P)(h:Rel B g s a w){b:Builtin}{ts:Array aB}{args:rL}{r:OR}{cX:aD}(hb:cx.builtin b ts args s.env s.H=some (r,cX)){o:Oper}{c:Call}(ho:o.op=.call c)(hc:c.callee=.builtin b)(hts:c.argTypes=ts)(fB:c.args=args) :
  ∃v,r=.val v/\fo P B { s with env:=cX } a w o v:=by
 have cq:∀m:Sem bt,(∀x,builtin b ts o.type x (args.map a.eval)=(do pure (.value (<- m))))->∀cv w',m.run P w=.ok cv w'->(execOp a.eval o).run P w=.ok (.value cv) w':=by
  intro m hm cv w' hr;simp[execOp,ho,resolve,hc,hts,fB,invoke,hm,hr]
 unfold Cx.builtin at hb;split at hb
 next x t hx ht=>have e1:=zp6 hx;have e2:=zpd ht;subst e1;subst e2;simp only[Option.bind_eq_bind,eG,br,cg] at hb;obtain⟨v,hv,n,hn,rfl,rfl⟩:=hb;rw[hP] at hn;exact⟨_,rfl,g,.int .i64 n,w,cq (Builtin.len_ #[t] o.type #[a.eval x]) (λ_=>by simp[builtin]) _ _ (znq h hv hn),h,.int _ _,λ_ _=>trivial,eg _⟩
 ·rename_i x y t u hx ht;have e1:=uk hx;have e2:=zlc ht;subst e1;subst e2;split at hb<;>try (cases hb;done)
  rename_i Lc;have e3:t=u:=eU (by simpa using Lc)
  subst e3;simp only[Option.bind_eq_bind,eG,br,cg] at hb;obtain⟨yv,hy,⟨v,bI⟩,o6,r',C_,rfl,rfl⟩:=hb;rw[hP] at C_;obtain⟨g',cv,w',h1,h2,h3,h4,h5⟩:=zj6 (ty:=o.type) h hy o6 C_ (o.dst.getD 0);exact⟨_,rfl,g',cv,w',cq (Builtin.append_ #[t,t] o.type #[a.eval x,a.eval y]) (λ_=>by simp[builtin]) _ _ h1,h2,h3,λd hd=>by simpa[hd] using h4,h5⟩
 next x y hx=>have e1:=uk hx;subst e1;simp only[Option.bind_eq_bind,eG] at hb;obtain⟨u,hu,v,hv,hb⟩:=hb;split at hb<;>simp only[br,reduceCtorEq,cg] at hb;obtain⟨rfl,rfl⟩:=hb;exact⟨_,rfl,g,_,w,cq (Builtin.min_ ts o.type #[a.eval x,a.eval y]) (λ_=>by simp[builtin]) _ _ (zeD h hu hv ts o.type).1,h,.int _ _,λ_ _=>trivial,eg _⟩
 next x y hx=>have e1:=uk hx;subst e1;simp only[Option.bind_eq_bind,eG] at hb;obtain⟨u,hu,v,hv,hb⟩:=hb;split at hb<;>simp only[br,reduceCtorEq,cg] at hb;obtain⟨rfl,rfl⟩:=hb;exact⟨_,rfl,g,_,w,cq (Builtin.max_ ts o.type #[a.eval x,a.eval y]) (λ_=>by simp[builtin]) _ _ (zeD h hu hv ts o.type).2,h,.int _ _,λ_ _=>trivial,eg _⟩
 ·cases hb
end
section
variable{P:aQ}{B:dS}{g:Gh}{s:St}{a:Act}{w:aP}
def Gh.eI(g:Gh)(b u:Nat)(v:bt)(own:Nat->Option Loc):Gh :=
 {g with eZ:=λb' u'=>if b'=b/\u'=u then some v else g.eZ b' u',own:=own }
theorem zgI{H:Hp}{Ej:List aV}(h:OL Ej H){b:Nat}{x0 x:aV}{v:V}(hb:H.az[b]?=some x0)(gH:x.top<=max x0.top v.top):OL Ej ((H.set b x).bQ b v):=by
 have lO:b<H.az.length:=(c_.1 hb).1;have mW:((H.set b x).bQ b v).az=H.az.set b x:=by simp only[Hp.bQ,Hp.set];split<;>rfl
 have dJ:∀p∈H.bG,p∈((H.set b x).bQ b v).bG:=by
  intro p hp;simp only[Hp.bQ,Hp.set];split
  ·exact hp
  ·exact dR _ hp
 intro b' y hy;rw[mW] at hy
 by_cases e:b'=b
 ·subst e;rw[B7 lO] at hy;cases hy;rcases Nat.le_total x0.top v.top with h2|h2
  ·rw[Nat.max_eq_right h2] at gH
   by_cases h3:v.top<=b'+1
   ·exact .inl (cP gH h3)
   ·refine .inr (.inl ⟨v.top,?_,gH⟩);simp only[Hp.bQ,Hp.set];rw[if_neg h3];exact eH ..
  ·rw[Nat.max_eq_left h2] at gH;rcases h b' x0 hb with h1|⟨m,h1,h2⟩|⟨y,h1,h2⟩
   ·exact .inl (cP gH h1)
   ·exact .inr (.inl ⟨m,dJ _ h1,cP gH h2⟩)
   ·exact .inr (.inr ⟨y,h1,cP gH h2⟩)
 ·rw[rW (λe'=>e e'.symm)] at hy;rcases h b' y hy with h1|⟨m,h1,h2⟩|h1
  ·exact .inl h1
  ·exact .inr (.inl ⟨m,dJ _ h1,h2⟩)
  ·exact .inr (.inr h1)
theorem Rel.Fa(h:Rel B g s a w){b eI sz:Nat}{cs:aD}{e:aB}{x:aV}{v:V}{g':Gh}{w':aP}(hb:s.H.get b=some (.ul eI sz cs e))
  (hs:ir B.d (some b) (some (.cell b 0)) s.H.az.length g w g' w') (hM:g'.M=g.M) (n_:∀c o v,g.M c o=some v->w'.heap[c]?=w.heap[c]?) (sn:∀c l,g'.own c=some l->c<w'.heap.size)
  (ek:fY g' s.H.az.length w' b x) (dr:x.top<=s.H.az.length) (gH:x.top<=max (aI cs) v.top):Rel B g' { s with H:=(s.H.set b x).bQ b v } a w':=by
 simp only[Hp.get,zg] at hb;have lO:b<s.H.az.length:=(c_.1 hb).1;have mW:((s.H.set b x).bQ b v).az=s.H.az.set b x:=by
  simp only[Hp.bQ,Hp.set];split<;>rfl
 have hlen:((s.H.set b x).bQ b v).az.length=s.H.az.length:=by rw[mW];simp
 have lg:∀off,¬jp s.H.az b off:=by
  rintro off ⟨cs',t',OO,Ci,h1,h2⟩;rw[hb] at h1;cases h1
 refine h.j_ (s':={ s with H:=(s.H.set b x).bQ b v }) hs (by rw[hlen];exact dI _) (λb' cZ cI=>?_) (λb' y HI hy=>?_) (λb' h1 h2=>?_) (λb1 b2 h1 h2=>?_) (λc o u hu=>?_) sn
  (λb' j e=>by cases e;exact lg 0) rfl rfl (λt y hy=>⟨y,hy,.inl ⟨rfl,λe=>by cases e⟩⟩) (zgI h.bG hb gH) (λb' off HJ=>?_) h.n8 (λ_ e=>by cases e)
 ·rw[mW,rW (λe=>cI (by rw[e]))]
 ·have cZ:b'=b:=by
   rcases HI with HI|HI
   ·cases HI;rfl
   ·have:=(c_.1 hy).1;rw[hlen] at this;omega
  subst cZ;rw[mW,B7 lO] at hy;cases hy;rw[hlen];exact⟨ek,dr⟩
 ·rw[hlen] at h2;omega
 ·rw[hlen] at h2;omega
 ·rw[hM] at hu;rw[yy (n_ c o u hu)];exact h.cY.mem c o u hu
 ·have h0:=h.lV b' off HJ;have cI:b'≠b:=λe=>lg off (e ▸ h0);obtain⟨cs,t,sz,xs,h1,h2⟩:=h0;exact⟨cs,t,sz,xs,by rw[mW,rW (λe'=>cI e'.symm)];exact h1,h2⟩
theorem SW(h:Rel B g s a w){b eI sz:Nat}{cs:aD}{e:aB}(hb:s.H.get b=some (.ul eI sz cs e)):b<s.H.az.length/\(g.own (g.bP b)=none):=by
 simp only[Hp.get,zg] at hb;have lO:b<s.H.az.length:=(c_.1 hb).1;exact⟨lO,h.cY.eD b lO⟩
theorem Gh.Ld{n:Nat}{g:Gh}{b u:Nat}{v:bt}{own:Nat->Option Loc}(hf:g.eZ b u=none):Gh.Le n g (g.eI b u v own):=by
 refine⟨λ_ _ _ e=>e,λ_ _=>rfl,rfl,λb' u' v' _ e=>?_⟩;simp only[Gh.eI];split
 next e'=>obtain⟨rfl,rfl⟩:=e';rw[hf] at e;cases e
 ·exact e
theorem eW:∀(l:aD),bW l=zI l
 | []=>rfl
 | x::xs=>by simp[bW,zI,eW xs]
theorem SX(h:Rel B g s a w){b eI sz:Nat}{cs cs':aD}{e:aB}{c len cap c' Co ou:Nat}{vs BN:dx}{v:V}{w':aP}(hb:s.H.get b=some (.ul eI sz cs e))(hu:Hv g s.H.az.length w b eI sz cs e c len cap vs)
  (sx:∀k,k<w.heap.size->k≠c->w'.heap[k]?=w.heap[k]?) (fu:w.heap.size<=w'.heap.size) (o8:w'.os=w.os) (ht:w'.tape=w.tape) (ny:w'.output=w.output) (ej:c'=c\/c'=w.heap.size)
  (b_:w'.ownsRow 0 e sz (.slice (some ⟨c',0,none⟩) Co ou) Co BN) (dZ:bK g cs' BN) (dr:aI cs'<=s.H.az.length) (gH:aI cs'<=max (aI cs) v.top) :
  ∃g',Rel B g' { s with H:=(s.H.set b (.ul (eI+1) sz cs' e)).bQ b v } a w'/\aR g' (.dD b (eI+1) Co) (.slice (some ⟨c',0,none⟩) Co ou):=by
 obtain⟨lO,tE⟩:=SW h hb;have bR:c<w.heap.size:=(hu.row.lt c rfl).2;have VW:c'<w'.heap.size:=(b_.lt c' rfl).2;have eT:∀k,k<w.heap.size->(∀b',some b=some b'->g.bP b'≠k)->(∀l,some (Loc.cell b 0)=some l->g.own k≠some l)->k≠c:=λk _ h1 h2 e=>by
  subst e;rcases hu.Cd with h3|h3
  ·exact h1 b rfl h3.symm
  ·exact h2 _ rfl h3
 let own:Nat->Option Loc:=λk=>if c'≠c/\k=c' then some (.cell b 0) else g.own k
 let g':Gh:=g.eI b (eI+1) (.slice (some ⟨c',0,none⟩) Co ou) own
 have iC:∀k,k<w.heap.size->own k=g.own k:=λk hk=>by
  show(if _ then _ else _)=_
  rw[if_neg];rintro⟨h1,rfl⟩;rcases ej with h2|h2
  ·exact h1 h2
  ·omega
 have hle:Gh.Le s.H.az.length g g':=Gh.Ld (hu.fresh _ (Hq _));have Fb:g'.eZ b (eI+1)=some (.slice (some ⟨c',0,none⟩) Co ou):=by simp[g',Gh.eI]
 have hS:ir B.d (some b) (some (.cell b 0)) s.H.az.length g w g' w' :=
  ⟨hle,λk hk h1 h2=>sx k hk (eT k hk h1 h2),λk hk _=>iC k hk,λ_ _ _ _=>rfl,fu,λ_ _ _=>rfl,λl hl=>.inr ⟨b,0,by cases hl;rfl,rfl⟩,λb' cZ=>by cases cZ;exact lO,
   λb' u cZ cI=>by
    show(if _ then _ else _)=_
    rw[if_neg];rintro⟨rfl,_⟩;exact cI rfl,o8,ht,ny⟩
 refine⟨g',h.Fa hb hS rfl (λk o x hx=>?_) (λk l hk=>?_) ⟨c',Co,ou,BN,Fb,hu.pos,b_,?_,λo=>?_,λb' cZ cI e'=>?_,dZ.len,λj x u hx hv=>⟨dZ.one j x hx,?_⟩,λu hlu=>?_⟩ dr gH,.dD Fb⟩
 ·refine sx k (vn (h.cY.mem k o x hx)) λe=>?_;subst e;rw[hu.M o] at hx;cases hx
 ·have:(if c'≠c/\k=c' then some (Loc.cell b 0) else g.own k)=some l:=hk
  split at this
  next e=>rw[e.2];exact VW
  ·exact uO (h.cY.eV k l this) fu
 ·rcases ej with e'|e'
  ·subst e';rcases hu.Cd with h1|h1
   ·exact .inl h1
   ·refine .inr ?_;show(if _ then _ else _)=_
    rw[if_neg (λe=>e.1 rfl)];exact h1
  ·refine .inr ?_;show(if _ then _ else _)=_
   rw[if_pos ⟨by omega,rfl⟩]
 ·show g.M c' o=none;rcases ej with e'|e'
  ·subst e';exact hu.M o
  ·cases hm:g.M c' o with
   | none=>rfl
   | some x=>have:=vn (h.cY.mem _ _ _ hm);omega
 ·rcases ej with e2|e2
  ·subst e2;exact hu.others b' cZ cI e'
  ·have:=h.cY.lt b' cZ;have e3:g.bP b'=c':=e';omega
 ·exact(dZ.rel j x u hx hv).le hle (cP (zn (zv hx)) dr)
 ·show(if _ then _ else _)=_
  rw[if_neg (λe=>by omega)]
  exact hu.fresh u (by omega)
theorem zgJ{w:aP}{e:aB}{sz c len cap k:Nat}{vs:dx}(h:w.ownsRow 0 e sz (.slice (some ⟨c,0,none⟩) len cap) len vs)(hk:k<=len):w.ownsRow 0 e sz (.slice (some ⟨c,0,none⟩) k cap) k (vs.take (k * sz)):=by
 obtain⟨hl,h|⟨c',ou,cur,hv,h0,hb,h1,h2,h3,hx⟩⟩:=h
 ·cases h.1
 ·cases hv;have hm:k * sz<=len * sz:=KI _ hk;refine⟨by rw[uf,hl];omega,.inr ⟨c,cap,cur,rfl,h0,hb,by omega,h2,h3,?_⟩⟩
  rw[<- hx,List.take_take,Nat.min_eq_left hm]
theorem VX(cs:aD)(k:Nat):aI (cs.take k)<=aI cs:=qL λ_ hx=>zn (B9 hx)
theorem zj8{cx:Cx}(hP:cx.P=P)(h:Rel B g s a w){t:aB}{x:aX}{lo hi:Option aX}{r:OR}{s':St}(aC:cx.ot t x lo hi s.env s.H s.lk s.defers=some (r,s')){o:Oper}(ho:o.op=.slice t x lo hi none) :
  ∃v,r=.val v/\fo P B s' a w o v:=by
 unfold Cx.ot at aC;rw[hP] at aC;split at aC<;>try (cases aC;done)
 rotate_left
 next b off len cap SD tv hx iA Av=>split at aC<;>simp only[br,reduceCtorEq,cg] at aC;rename_i v hv;obtain⟨rfl,rfl⟩:=aC;obtain⟨x1,x2,_⟩:=zJ h hx;obtain⟨cv,e1,e2,e3,e4⟩:=zeB (P:=P) (n:=s.H.az.length) hv x1 (HF h iA) (HF h Av) x2 w;exact⟨v,rfl,g,cv,w,by simp[execOp,ho,e1],h,e2,λd _=>e4 _ _,e3⟩
 rename_i e' b u len k hh ht hx iA Av;split at aC<;>try (cases aC;done)
 rename_i m eI sz cs e hm hb;split at aC<;>try (cases aC;done)
 rename_i hc;simp only[eE,qz,jd,br,cg] at aC;obtain⟨rfl,rfl⟩:=aC;simp only[eo,decide_eq_true_eq] at hc;obtain⟨⟨hv,h0⟩,hle⟩:=hc;have hv:=eU hv;have hle:=rJ hle;subst hv;obtain⟨x1,x2,_⟩:=zJ h hx;obtain⟨c,l0,cap,vs,hu,h2,h3⟩:=SK h hb;have VY:=HF h iA;have VZ:=HF h Av;have nS:l0<=cap:=by
  obtain⟨_,hr|⟨_,_,_,hr,_,_,h5,_⟩⟩:=hu.row
  ·cases hr.1
  ·cases hr;exact h5
 generalize Jv:a.eval x=SY at x1;cases x1 with
 | dD hh' =>
  rw[hu.eZ] at hh';cases hh';have cZ:=xf (P:=P) (isSlice:=true) (len:=len) (cap:=cap) (l:=0) (h:=hh.toNat) VY VZ (by simp[j8,h0]) rfl (eg _) hle nS w
  obtain⟨g',r1,r2⟩:=SX (v:=.fR) h hb hu (λ_ _ _=>rfl) (dI _) rfl rfl rfl (.inl rfl) (zgJ hu.row hle) (h2.take _) (cP (VX _ _) h3) (cP (VX _ _) (DG _ _));refine⟨_,rfl,g',_,w,?_,r1,r2,λ_ _=>trivial,?_⟩
  ·have hs:(Instr.sliceAt t (.slice (some ⟨c,0,none⟩) len cap) (lo.map a.eval) (hi.map a.eval) none).run P w=.ok (.slice (some ⟨c,0,none⟩) hh.toNat cap) w:=by
    simp[Instr.sliceAt,run_underlying ht,Instr.slice,cZ,ju hm,Addr.add_lit]
   simp[execOp,ho,Jv,hs]
  ·have:((s.H.set b (.ul (eI+1) sz (cs.take (hh.toNat * sz)) e)).bQ b .fR).az.length=s.H.az.length:=by
    simp only[Hp.bQ,Hp.set];split<;>simp
   rw[this];have:=(SW h hb).1;simp only[V.top];omega
end
section
variable{P:aQ}{B:dS}{g:Gh}{s:St}{a:Act}{w:aP}
theorem zcS{α:Type}(l vs:List α)(off m:Nat)(h:off+vs.length<=m)(hm:m<=l.length):(storeCells l off vs).take m=storeCells (l.take m) off vs:=by
 apply ER;intro j;rw[Ao,qE _ _ _ _ (by omega),qE _ _ _ _ (by rw[uf];omega),Ao]
 by_cases hj:j<m
 ·simp[hj]
 ·have:¬(off<=j/\j<off+vs.length):=by omega
  simp[hj,this]
theorem zgK(H:Hp)(b:Nat)(x:aV)(v:V):((H.set b x).bQ b v).az.length=H.az.length:=by
 simp only[Hp.bQ,Hp.set];split<;>simp
theorem zj9{w:aP}{e:aB}{sz c len cap off:Nat}{vs news:dx}(h:w.ownsRow 0 e sz (.slice (some ⟨c,0,none⟩) len cap) len vs)(hf:off+news.length<=vs.length)(h1:∀u∈news,u.oneCell'=true) :
  ∃w',(Go.storeCells ⟨c,off,none⟩ news 0).run P w=.ok () w'/\w'.ownsRow 0 e sz (.slice (some ⟨c,0,none⟩) len cap) len (storeCells vs off news)/\(∀k,k≠c->w'.heap[k]?=w.heap[k]?)/\w'.heap.size=w.heap.size/\w'.os=w.os/\w'.tape=w.tape/\w'.output=w.output:=by
 obtain⟨hl,h|⟨c',ou,cur,hv,h0,hb,HH,h2,h3,hx⟩⟩:=h
 ·cases h.1
 ·cases hv;have BM:vs.length<=cur.toList.length:=by rw[<- hx];simp;omega
  have m6:cur.toList.take off++news++cur.toList.drop (off+news.length)=storeCells cur.toList off news:=by
   have oA:cur.toList=cur.toList.take off++(cur.toList.drop off).take news.length++cur.toList.drop (off+news.length):=by
    rw[bh,<- List.drop_drop,BH,BH]
   have hlen:(cur.toList.take off).length=off:=by rw[uf];omega
   have:=kQ news ((cur.toList.drop off).take news.length) (cur.toList.take off) (cur.toList.drop (off+news.length)) (by rw[uf,List.length_drop];omega)
   rw[hlen,<- oA] at this;rw[this]
  have e_:=run_storeCells_at P c off e news 0 cur w hb (by simp at BM ⊢;omega) h1
  simp only[nP] at e_;rw[m6] at e_;refine⟨_,e_,⟨by rw[kB];exact hl,.inr ⟨c,cap,_,rfl,h0,setRow_heap w c _ _ _ _ hb,HH,h2,by simp[kB,h3],?_⟩⟩,λk hk=>setRow_other w c k _ hk,setRow_size w c _,rfl,rfl,rfl⟩
  show(storeCells cur.toList off news).take (len * sz)=_;have hle:len * sz<=cur.toList.length:=by rw[<- hl];exact BM
  rw[zcS _ _ _ _ (by omega) hle,hx]
theorem Rel.ee(h:Rel B g s a w){b eI sz:Nat}{cs cs':aD}{e:aB}{c len cap:Nat}{vs BN:dx}{v:V}{w':aP}(hb:s.H.get b=some (.ul eI sz cs e))(hu:Hv g s.H.az.length w b eI sz cs e c len cap vs)
  (sx:∀k,k≠c->w'.heap[k]?=w.heap[k]?) (fu:w'.heap.size=w.heap.size) (o8:w'.os=w.os) (ht:w'.tape=w.tape) (ny:w'.output=w.output)
  (b_:w'.ownsRow 0 e sz (.slice (some ⟨c,0,none⟩) len cap) len BN) (dZ:bK g cs' BN) (dr:aI cs'<=s.H.az.length) (gH:aI cs'<=max (aI cs) v.top) :
  Rel B g { s with H:=(s.H.set b (.ul eI sz cs' e)).bQ b v } a w':=by
 obtain⟨lO,tE⟩:=SW h hb;have eT:∀k,k<w.heap.size->(∀b',some b=some b'->g.bP b'≠k)->(∀l,some (Loc.cell b 0)=some l->g.own k≠some l)->k≠c:=λk _ h1 h2 e=>by
  subst e;rcases hu.Cd with h3|h3
  ·exact h1 b rfl h3.symm
  ·exact h2 _ rfl h3
 have hS:ir B.d (some b) (some (.cell b 0)) s.H.az.length g w g w' :=
  ⟨.refl _ _,λk hk h1 h2=>sx k (eT k hk h1 h2),λk hk _=>rfl,λ_ _ _ _=>rfl,by omega,λ_ _ _=>rfl,λl hl=>.inr ⟨b,0,by cases hl;rfl,rfl⟩,λb' cZ=>by cases cZ;exact lO,
   λb' u cZ cI=>rfl,o8,ht,ny⟩
 refine h.Fa hb hS rfl (λk o x hx=>?_) (λk l hk=>?_) ⟨c,len,cap,BN,hu.eZ,hu.pos,b_,hu.Cd,hu.M,hu.others,dZ.len,λj x u hx hv=>⟨dZ.one j x hx,dZ.rel j x u hx hv⟩,hu.fresh⟩ dr gH
 ·refine sx k λe=>?_;subst e;rw[hu.M o] at hx;cases hx
 ·rw[fu];exact h.cY.eV k l hk
theorem bK.pe{cs:aD}{vs:dx}(h:bK g cs vs):∀u∈vs,u.oneCell'=true:=λu hu=>by
 obtain⟨j,hj⟩:=List.getElem?_of_mem hu;have su:j<cs.length:=by rw[h.len];exact(c_.1 hj).1
 have hx:=gh su;exact(h.rel j _ u hx hj).nJ (h.one j _ hx)
theorem zka(h:Rel B g s a w){t:aB}{p x:aX}{b eI k n sz:Nat}{v0 v:V}{cX:aD}{cs:aD}{e:aB}(hp:ak s.env p=some (.gj b eI k))(hx:take s.env x=some (v0,cX))(hv:aW v0=v)(hn:z4 P t=some n)
  (hb:s.H.get b=some (.ul eI sz cs e)) (ek:dz v=true) (hl:v.cells.length=n) (hle:k+n<=cs.length) :
  ∃g' w',(Instr.storeAt t (a.eval p) (a.eval x)).run P w=.ok () w'/\Rel B g' { s with env:=cX,H:=(s.H.set b (.ul eI sz (storeCells cs k v.cells) e)).bQ b v } a w':=by
 obtain⟨p1,p2,_⟩:=zJ h hp;obtain⟨g',h1,v1,_,v2,rN⟩:=vJ h hx .ret;have v1:=v1.aW;rw[hv] at v1;have v2:v.top<=s.H.az.length:=by rw[<- hv,jm];exact v2
 have p1:=rN.rel p1;have cZ:({ s with env:=cX }:St).H.get b=some (.ul eI sz cs e):=hb;obtain⟨c,len,cap,vs,hu,h2,h3⟩:=SK h1 cZ;generalize OS:a.eval p=cp at p1;cases p1 with
 | gj _ hh =>
  rw[hu.eZ] at hh;cases hh;have dZ:=vo v1 ek;have nB:(a.eval x).cells.size=n:=by rw[<- hl,dZ.len];simp
  obtain⟨w',e1,e2,e3,e4,e5,e6,e7⟩:=zj9 (P:=P) (off:=k) hu.row (by rw[<- hu.len,An,nB];exact hle) dZ.pe
  refine⟨g',w',?_,h1.ee (v:=v) cZ hu e3 e4 e5 e6 e7 e2 (h2.store k dZ) (vB h3 (cP (yz v) v2)) (cP y0 (tu.2 ⟨DG _ _,cP (yz v) (Ho _ _)⟩))⟩;unfold Instr.storeAt storeVar;simp[Instr.sureAddr,ju hn,nB,e1]
def Gh.pg(g:Gh)(n N:Nat)(v:bt):Gh:={ g.var n N with eZ:=λb u=>if b=n then (if u=0 then some v else none) else g.eZ b u }
theorem Gh.Dc(g:Gh)(n N:Nat)(v:bt):Gh.Le n g (g.pg n N v) :=
 ⟨λ_ _ _ h=>h,λb hb=>by simp only[Gh.pg,Gh.var];rw[if_neg (by omega)],rfl,λb u x hb e=>by simp only[Gh.pg];rw[if_neg (by omega)];exact e⟩
theorem Rel.O4(h:Rel B g s a w)(bP:aV){obj:Obj}{w':aP}{v:bt}(hw:w'.heap=w.heap.push obj)(o8:w'.os=w.os)(ht:w'.tape=w.tape)(ny:w'.output=w.output)
  (ek:fY (g.pg s.H.az.length w.heap.size v) (s.H.az.length+1) w' s.H.az.length bP) (dr:bP.top<=s.H.az.length+1):Rel B (g.pg s.H.az.length w.heap.size v) { s with H:=s.H.push bP } a w':=by
 have hl:(s.H.push bP).az.length=s.H.az.length+1:=by simp[Hp.push]
 have dy:∀b,b<s.H.az.length->(s.H.push bP).az[b]?=s.H.az[b]?:=λb hb=>by simp only[Hp.push];rw[gb hb]
 have rq:(s.H.push bP).az[s.H.az.length]?=some bP:=by simp[Hp.push]
 have hv:(g.pg s.H.az.length w.heap.size v).bP s.H.az.length=w.heap.size:=by simp[Gh.pg,Gh.var]
 have fu:w'.heap.size=w.heap.size+1:=by rw[hw];simp
 have hS:ir B.d none none s.H.az.length g w (g.pg s.H.az.length w.heap.size v) w' :=
  ⟨g.Dc _ _ _,λc hc _ _=>SP hw hc,λ_ _ _=>rfl,λ_ _ _ _=>rfl,by rw[hw];simp,λ_ _ _=>rfl,λl hl=>(by cases hl),λb hb=>(by cases hb),λb u hb _=>by simp only[Gh.pg];rw[if_neg (by omega)],o8,ht,ny⟩
 refine h.j_ (s':={ s with H:=s.H.push bP }) hS (by rw[hl];omega) (λb hb _=>dy b hb) (λb x hb hx=>?_) (λb h1 h2=>?_) (λb b' h1 h2 h3 h4 _=>?_) (λc o v hv=>?_) (λc l hc=>?_)
  (λb j e=>by cases e) rfl rfl (λt x hx=>⟨x,hx,.inl ⟨rfl,λe=>by cases e⟩⟩) ?_ (λb off pO=>yY dy (h.lV b off pO)) h.n8 (λ_ e=>by cases e)
 ·have cZ:b=s.H.az.length:=by
   rcases hb with hb|hb
   ·cases hb
   ·have:=(c_.1 hx).1;rw[hl] at this;omega
  subst cZ;rw[rq] at hx;cases hx;rw[hl];exact⟨ek,dr⟩
 ·have:b=s.H.az.length:=by rw[hl] at h2;omega
  subst this;rw[hv];refine⟨dI _,by omega,?_,λo=>?_⟩
  ·show g.own w.heap.size=none;cases ho:g.own w.heap.size with
   | none=>rfl
   | some l=>have:=h.cY.eV _ _ ho;omega
  ·show g.M w.heap.size o=none;cases hm:g.M w.heap.size o with
   | none=>rfl
   | some v=>have:=vn (h.cY.mem _ _ _ hm);omega
 ·rw[hl] at h2 h4;omega
 ·rw[yy (SP hw (vn (h.cY.mem c o v hv)))];exact h.cY.mem c o v hv
 ·have:=h.cY.eV c l hc;omega
 ·intro b x hx;rcases eX b s.H.az.length with h1|h1
  ·rw[show({ s with H:=s.H.push bP }:St).H.az[b]?=s.H.az[b]? from dy b h1] at hx;exact h.bG b x hx
  ·have cZ:b=s.H.az.length:=by
    have:=(c_.1 hx).1;have mK:({ s with H:=s.H.push bP }:St).H.az.length=s.H.az.length+1:=hl;omega
   subst cZ;rw[show({ s with H:=s.H.push bP }:St).H.az[s.H.az.length]?=some bP from rq] at hx;cases hx;exact .inl dr
theorem zld(h:Rel B g s a w){cs:aD}{vs:dx}{e:aB}{sz len cap:Nat}{cur:dN}{w':aP}(hw:w'.heap=w.heap.push (.cells cur e (0,0)))(o8:w'.os=w.os)(ht:w'.tape=w.tape)(ny:w'.output=w.output)
  (rP:0<sz) (b_:w'.ownsRow 0 e sz (.slice (some ⟨w.heap.size,0,none⟩) len cap) len vs) (dZ:bK g cs vs) (dr:aI cs<=s.H.az.length) :
  ∃g',Rel B g' { s with H:=s.H.push (.ul 0 sz cs e) } a w'/\aR g' (.dD s.H.az.length 0 len) (.slice (some ⟨w.heap.size,0,none⟩) len cap):=by
 have Fb:(g.pg s.H.az.length w.heap.size (.slice (some ⟨w.heap.size,0,none⟩) len cap)).eZ s.H.az.length 0=some (.slice (some ⟨w.heap.size,0,none⟩) len cap):=by simp[Gh.pg]
 refine⟨_,h.O4 (.ul 0 sz cs e) hw o8 ht ny ⟨w.heap.size,len,cap,vs,Fb,rP,b_,.inl (by simp[Gh.pg,Gh.var]),λo=>?_,λb' cZ cI e'=>?_,dZ.len,λj x u hx hv=>⟨dZ.one j x hx,?_⟩,λu hu=>?_⟩ (KM dr),.dD Fb⟩
 ·show g.M w.heap.size o=none;cases hm:g.M w.heap.size o with
  | none=>rfl
  | some v=>have:=vn (h.cY.mem _ _ _ hm);omega
 ·have h1:b'<s.H.az.length:=by omega
  have:=h.cY.lt b' h1;simp only[Gh.pg,Gh.var] at e';rw[if_neg cI] at e';omega
 ·exact(dZ.rel j x u hx hv).le (g.Dc _ _ _) (cP (zn (zv hx)) dr)
 ·simp only[Gh.pg,aF];rw[if_neg (by omega)]
theorem y4{w:aP}{e:aB}{sz k old:Nat}{z:bt}{vs:dx}{arr:dN}(m6:arr.toList=vs)(hl:vs.length=k * sz)(hz:z.cells.size=sz)(K_:k<=maxLen) :
  (w.drew.alloc (.cells (arr++Builtin.zeroCells z.cells (grownCap w k old e - k)) e)).ownsRow 0 e sz (.slice (some ⟨w.heap.size,0,none⟩) k (grownCap w k old e)) k vs:=by
 have Au:=grownCap_ge w k old e;have pQ:grownCap w k old e<=maxLen:=grownCap_le_maxLen w k old e K_;have nT:arr.size=k * sz:=by rw[<- hl,<- m6];simp
 refine⟨hl,.inr ⟨w.heap.size,_,_,rfl,eg _,heap_alloc_new w.drew _,Au,pQ,?_,?_⟩⟩
 ·rw[Array.size_append,nT,size_zeroCells,hz,<- tq];congr 1;omega
 ·rw[Array.toList_append,List.take_append_of_le_length (by simp;omega),m6]
  exact p9 (by omega)
end
section
variable{P:aQ}{B:dS}{g:Gh}{s:St}{a:Act}{w:aP}
theorem zle(v:V):aW (aW v)=aW v:=by cases v<;>rfl
theorem V0(h:Rel B g s a w){b off:Nat}{cs L:aD}{tt:aB}{arr:dN}{news:dx}(hb:s.H.get b=some (.cells cs tt))(a1:w.heap[g.bP b]?=some (.cells arr tt (0,0)))(a2:bK g cs arr.toList)(a3:aI cs<=s.H.az.length)
  (a4:∀(j:Nat)(x:V)(v:bt),cs[j]?=some x->arr[j]?=some v->cM g s.H.az.length w (.cell b j) x v/\OK g b j x v) (dX:bK g L news) (gG:∀q∈L,aW q=q) (V1:aI L<=s.H.az.length) (c3:off+L.length<=cs.length) (oz:wv s.lk b off L.length (cs.drop off)=true) :
  Rel B g { s with H:=(s.H.set b (.cells (storeCells cs off L) tt)).bQ b (.bq L) } a (w.setRow (g.bP b) (storeCells arr.toList off news).toArray):=by
 have nT:cs.length=arr.size:=by have:=a2.len;simpa using this
 have lO:b<s.H.az.length:=by simp only[Hp.get,zg] at hb;exact(c_.1 hb).1
 have lg:news.length=L.length:=dX.len.symm;have hLc:∀q∈L,(∀sz xs o,q=.sl sz xs o->o=.no):=λq hq sz xs o e=>by
  have:=gG q hq;subst e;simp[aW] at this;exact this.symm
 have Ck:(w.setRow (g.bP b) (storeCells arr.toList off news).toArray).heap[g.bP b]?=some (.cells (storeCells arr.toList off news).toArray tt (0,0)):=setRow_heap w _ _ _ tt _ a1;have iJ:ir B.d (some b) none s.H.az.length g w g (w.setRow (g.bP b) (storeCells arr.toList off news).toArray) :=
  ⟨.refl _ _,λc _ hc _=>setRow_other w _ c _ (λe=>hc b rfl e.symm),λ_ _ _=>rfl,λ_ _ _ _=>rfl,by simp[World.setRow],λ_ _ _=>rfl,λl hl=>(by cases hl),λb' cZ=>(by cases cZ;exact lO),λ_ _ _ _=>rfl,rfl,rfl,rfl⟩
 refine Rel.write (l:=s.lk) (v:=.bq L) h (b:=b) (x0:=.cells cs tt) (x:=.cells (storeCells cs off L) tt) (N:=g.bP b) rfl hb (λc hc=>setRow_other w _ c _ hc) (by simp[World.setRow]) rfl rfl rfl
  ⟨_,Ck,by simp[kB,nT],λj y u hy hu=>?_⟩ (vB a3 V1) (.inr (.inr (.inr (cP y0 (tu.2 ⟨DG _ _,Ho _ _⟩))))) (λo iA=>?_) h.n8
 ·have e_:=a2.store off dX;have hr:=e_.rel j y u hy (by simpa using hu)
  refine⟨e_.one j y hy,hr,?_,?_⟩
  ·rw[qE _ _ _ _ (by omega)] at hy
   have nh:(storeCells arr.toList off news)[j]?=some u:=by simpa using hu
   rw[qE _ _ _ _ (by have:arr.toList.length=arr.size:=An;omega)] at nh
   by_cases hj:off<=j/\j<off+L.length
   ·rw[if_pos hj] at hy;have:=hLc y (zv hy);cases y with
    | sl sz xs o=>have e:=this sz xs o rfl;subst e;trivial
    | _=>trivial
   ·rw[if_neg hj] at hy;rw[if_neg (by rw[lg];exact hj)] at nh
    exact cM.same iJ (λe=>by cases e) (λb1 h2 h3=>absurd (show b1<s.H.az.length from h3) (Nat.not_lt.2 h2)) (a4 j y u hy (by simpa using nh)).1
  ·rw[qE _ _ _ _ (by omega)] at hy
   have nh:(storeCells arr.toList off news)[j]?=some u:=by simpa using hu
   rw[qE _ _ _ _ (by have:arr.toList.length=arr.size:=An;omega)] at nh
   by_cases hj:off<=j/\j<off+L.length
   ·rw[if_pos hj] at hy;have:=hLc y (zv hy);cases y with
    | sl sz xs o=>have e:=this sz xs o rfl;subst e;trivial
    | _=>trivial
   ·rw[if_neg hj] at hy;rw[if_neg (by rw[lg];exact hj)] at nh
    exact(a4 j y u hy (by simpa using nh)).2
 ·obtain⟨VH,t2',sz,xs,d1,d2⟩:=h.lV b o iA;have nA:s.H.az[b]?=some (.cells cs tt):=by simpa[Hp.get,zg] using hb
  rw[nA] at d1;cases d1;refine⟨_,_,sz,xs,rfl,?_⟩;rw[qE _ _ _ _ (by omega)]
  by_cases hj:off<=o/\o<off+L.length
  ·have:=VG oz (o - off) (.sl sz xs .lock) (by omega) (by rw[Hl,show off+(o - off)=o by omega];exact d2) rfl
   rw[show off+(o - off)=o by omega] at this
   exact absurd iA (h.n8 _ this)
  ·rw[if_neg hj];exact d2
theorem zh1{cx:Cx}(hP:cx.P=P)(h:Rel B g s a w){t ty:aB}{x y:aX}{r:OR}{s':St}(aC:cx.mL t x y s.env s.H s.lk s.defers=some (r,s')) :
  ∃v g' cv w',r=.val v/\(Builtin.append_ #[t,t] ty #[a.eval x,a.eval y]).run P w=.ok cv w'/\Rel B g' s' a w'/\aR g' v cv/\(∀n l,cM g' n w' l v cv)/\v.top<=s'.H.az.length:=by
 unfold Cx.mL at aC;rw[hP] at aC;simp only[Option.bind_eq_bind,eG] at aC;obtain⟨td,ht,aC⟩:=aC;split at aC<;>try (cases aC;done)
 rename_i e;simp only[eG] at aC;obtain⟨n,hn,i,hi,z,hz,yv,hy,ys,s6,aC⟩:=aC;have tC:=VN hn hi;split at aC<;>try (cases aC;done)
 rename_i ru;simp only[tn,not_or,Jn,Bool.not_eq_false'] at ru;have Em:z.cells.size=n:=eU (by simpa using ru.1)
 have AU:0<n:=by
  rcases Jl n with e|e
  ·subst e;simp at ru
  ·exact e
 simp only[eG] at aC;obtain⟨xv,hx,aC⟩:=aC;obtain⟨y1,y3,_⟩:=zJ h hy;obtain⟨x1,x3,x4⟩:=zJ h hx;clear x4;have gp:=yl h hn s6 y1 y3;have pR:∀m,kx m i.bytes=true->m<=maxLen/\m * i.bytes<=140737488355328:=λm hm=>by
  simp only[kx,eo] at hm;exact⟨by have:=rJ hm.1;simp only[maxLen];omega,rJ hm.2⟩
 split at aC
 ·have Ju:=x1.o_;split at aC
  ·simp only[br,cg] at aC;obtain⟨rfl,rfl⟩:=aC;obtain⟨ad,cap,nK,_⟩:=gp.form;refine⟨.aG,g,.slice none 0 0,w,rfl,?_,h,.aG,λ_ _=>trivial,eg _⟩;rw[Ju,nK];exact wZ (P:=P) (ty:=ty) ht hn _ none 0 0 rfl (dI _) ad cap w
  ·rename_i cI;have cI:ys≠[]:=λe=>cI e;split at aC<;>try (cases aC;done)
   rename_i DU;simp only[de,qz,qm,br,cg] at aC;obtain⟨rfl,rfl⟩:=aC;obtain⟨ad,cy,nK,k_⟩:=gp.form;obtain⟨a0,news,rfl,dZ,gv⟩:=k_ cI;obtain⟨m1,m2⟩:=pR _ DU;have rP:0<ys.length:=KK.2 cI;have lg:news.length=ys.length * i.size:=by rw[<- dZ.len,qJ gp.sized,tC]
   have b_:=y4 (w:=w) (e:=e) (old:=0) (k:=ys.length) (sz:=n) (z:=z) (arr:=news.toArray) (vs:=news) (by simp) (by rw[lg,tC]) Em m1
   have pS:bK g (bW ys) news:=by rw[eW];exact dZ
   obtain⟨g',r1,r2⟩:=zld (w':=w.drew.alloc (.cells (news.toArray++Builtin.zeroCells z.cells (grownCap w ys.length 0 e - ys.length)) e)) h rfl rfl rfl rfl AU b_ pS (by rw[eW];exact cP yk gp.aI)
   refine⟨_,g',_,_,rfl,?_,r1,r2,λ_ _=>trivial,by simp[V.top,Hp.push]⟩
   rw[Ju,nK];exact run_append_nil (P:=P) w t ty e i z ht hi hz a0 ys.length cy news lg gv rP (by simp only[maxLen] at m1;omega) (by omega)
 ·rename_i b u len;split at aC<;>try (cases aC;done)
  rename_i eI sz cs e' hb;split at aC<;>try (cases aC;done)
  rename_i hc;simp only[de,qz,jd,br,cg] at aC;obtain⟨rfl,rfl⟩:=aC;simp only[eo] at hc;obtain⟨⟨⟨c1,c2⟩,c3⟩,DU⟩:=hc;have c1:=eU c1;have c2:=eU c2;have c3:=eU c3;subst c1;subst c2;subst c3;obtain⟨m1,m2⟩:=pR _ DU;obtain⟨c,l0,cap,vs,hu,h2,h3⟩:=SK h hb;have Ay:aI (cs++bW ys)<=max (aI cs) (V.bq ys).top:=by
   refine qL λq hq=>?_;rcases rK.1 hq with hq|hq
   ·exact cP (zn hq) (DG _ _)
   ·rw[eW] at hq;exact cP (xX hq) (Ho _ _)
  have Lf:aI (cs++bW ys)<=s.H.az.length:=cP Ay (tu.2 ⟨h3,gp.aI⟩);have dr:(V.dD b (eI+1) (len+ys.length)).top<=((s.H.set b (.ul (eI+1) n (cs++bW ys) e)).bQ b (.bq ys)).az.length:=by
   rw[zgK];have:=(SW h hb).1;simp only[V.top];omega
  generalize Jv:a.eval x=SY at x1;cases x1 with
  | dD hh =>
   rw[hu.eZ] at hh;cases hh
   by_cases cI:ys=[]
   ·subst cI;obtain⟨ad,ou,nK,_⟩:=gp.form;have AT:len<=cap:=by
     obtain⟨_,hr|⟨_,_,_,hr,_,_,h5,_⟩⟩:=hu.row
     ·cases hr.1
     ·cases hr;exact h5
    obtain⟨g',r1,r2⟩:=SX (v:=.bq []) h hb hu (λ_ _ _=>rfl) (dI _) rfl rfl rfl (.inl rfl) hu.row (cs':=cs++bW []) (by simpa[bW] using h2) Lf Ay
    refine⟨_,g',_,w,rfl,?_,r1,r2,λ_ _=>trivial,dr⟩;rw[nK];exact wZ (P:=P) (ty:=ty) ht hn _ (some ⟨c,0,none⟩) len cap rfl AT ad ou w
   ·obtain⟨ad,cy,nK,k_⟩:=gp.form;obtain⟨a0,news,rfl,dZ,gv⟩:=k_ cI;have rP:0<ys.length:=KK.2 cI;have lg:news.length=ys.length * i.size:=by rw[<- dZ.len,qJ gp.sized,tC]
    have pS:bK g (bW ys) news:=by rw[eW];exact dZ
    have dF:bK g (cs++bW ys) (vs++news):=by
     refine⟨by simp only[aU,h2.len,pS.len],λj q hq=>?_,λj q v' hq lf=>?_⟩
     ·rcases eX j cs.length with h4|h4
      ·rw[gb h4] at hq;exact h2.one j q hq
      ·rw[fE h4] at hq;exact pS.one _ q hq
     ·rcases eX j cs.length with h4|h4
      ·rw[gb h4] at hq;rw[gb (by rw[<- h2.len];exact h4)] at lf
       exact h2.rel j q v' hq lf
      ·rw[fE h4] at hq;rw[fE (by rw[<- h2.len];exact h4),<- h2.len] at lf
       exact pS.rel _ q v' hq lf
    obtain⟨BM,hr|⟨c',ou,cur,hr,_,lp,AT,pQ,nB,mb⟩⟩:=id hu.row
    ·cases hr.1
    cases hr;have hlen:(vs++news).length=(len+ys.length) * n:=by rw[aU,BM,lg,tC,tq]
    by_cases E6:len+ys.length<=cap
    ·have HN:len * i.size+news.length<=cur.size:=by rw[lg,tC,nB,<- tq];exact KI _ E6
     have cq:=run_append_room (P:=P) w t ty e i ht hi c len cap cur lp a0 ys.length cy news lg gv dZ.pe E6 HN;rw[tC] at cq HN;have b_:(w.setRow c (cur.toList.take (len * n)++news++cur.toList.drop (len * n+news.length)).toArray).ownsRow 0 e n (.slice (some ⟨c,0,none⟩) (len+ys.length) cap) (len+ys.length) (vs++news):=by
      refine⟨hlen,.inr ⟨c,cap,_,rfl,eg _,setRow_heap w c cur _ e _ lp,E6,pQ,?_,?_⟩⟩
      ·simp only[List.size_toArray,aU,uf,List.length_drop,An];omega
      ·rw[mb,<- hlen];exact List.take_left
     obtain⟨g',r1,r2⟩:=SX (v:=.bq ys) h hb hu (λk _ hk=>setRow_other w c k _ hk) (Nat.le_of_eq (setRow_size w c _).symm) rfl rfl rfl (.inl rfl) b_ dF Lf Ay;refine⟨_,g',_,_,rfl,?_,r1,r2,λ_ _=>trivial,dr⟩;rw[nK];exact cq
    ·have b_:=y4 (w:=w) (e:=e) (old:=cap) (k:=len+ys.length) (sz:=n) (z:=z) (arr:=vs.toArray++news.toArray) (vs:=vs++news) (by simp) hlen Em m1
     obtain⟨g',r1,r2⟩:=SX (v:=.bq ys) h hb hu (λk hk _=>heap_alloc_old w.drew _ hk) (by simp) rfl rfl rfl (.inr rfl) b_ dF Lf Ay
     refine⟨_,g',_,_,rfl,?_,r1,r2,λ_ _=>trivial,dr⟩;rw[nK];exact run_append_grow (P:=P) w t ty e i z ht hi hz ⟨c,0,none⟩ len cap vs (by rw[BM,tC]) (hu.row.cells rfl) a0 ys.length cy news lg gv (by omega) (by simp only[maxLen] at m1;omega) (growslice_fits (by omega) m2)
 ·rename_i b off len cap;split at aC<;>try (cases aC;done)
  rename_i cs tt hb;split at aC
  ·rename_i hc;simp only[de,qz,jd,br,cg] at aC;obtain⟨rfl,rfl⟩:=aC;simp only[eo] at hc;obtain⟨⟨⟨⟨⟨⟨c1,c2⟩,c3⟩,c4⟩,c5⟩,c6⟩,oz⟩:=hc;have c1:=eU c1;have c2:=eU c2;have c3:=eU c3;have c4:=eU c4;have c5:=rJ c5;have c6:=rJ c6;subst c1;subst c2;subst c3;rw[eW] at c4 ⊢;have lO:b<s.H.az.length:=by simp only[Hp.get,zg] at hb;exact(c_.1 hb).1
   have dr:(V.sr b 0 (len+ys.length) cap).top<=((s.H.set b (.cells (storeCells cs len ((zI ys).map aW)) tt)).bQ b (.bq ((zI ys).map aW))).az.length:=by
    rw[zgK];simp only[V.top];omega
   generalize Jv:a.eval x=SY at x1;cases x1 with
   | sr AT =>
    obtain⟨arr,a1,a2,a3,a4⟩:=xg h hb;have nT:cs.length=arr.size:=by have:=a2.len;simpa using this
    obtain⟨ad,cy,nK,k_⟩:=gp.form;have bR:aI ((zI ys).map aW)<=s.H.az.length:=by
     rw[eO];exact cP yk gp.aI
    have gG:∀q∈(zI ys).map aW,aW q=q:=λq hq=>by
     obtain⟨q',_,rfl⟩:=mj.1 hq;exact zle q'
    by_cases cI:ys=[]
    ·subst cI;have:=V0 (news:=[]) (off:=len) h hb a1 a2 a3 a4 (L:=[]) ⟨rfl,λ_ _ e=>by simp at e,λ_ _ _ e=>by simp at e⟩ (λq hq=>by cases hq) (eg _) (by simp at c6 ⊢;omega) (by simp[wv])
     have e1:(w.setRow (g.bP b) (storeCells arr.toList len []).toArray)=w:=by
      show w.setRow (g.bP b) arr.toList.toArray=w;rw[Array.toArray_toList];exact setRow_self w _ arr _ _ a1
     rw[e1] at this;refine⟨_,g,_,w,rfl,?_,by simpa[zI] using this,.sr (by simpa using AT),λ_ _=>trivial,dr⟩
     rw[nK];exact wZ (P:=P) (ty:=ty) ht hn _ (some ⟨g.bP b,0,none⟩) len cap rfl AT ad _ w
    ·obtain⟨a0,news,rfl,dZ,gv⟩:=k_ cI;have lg:news.length=ys.length:=by rw[<- dZ.len,qJ gp.sized,Jp]
     have cq:=run_append_room (P:=P) w t ty tt i ht hi (g.bP b) len cap arr a1 a0 ys.length cy news (by rw[lg,tC,Jp]) gv dZ.pe c5 (by rw[lg,tC];omega)
     have dF:=V0 (off:=len) h hb a1 a2 a3 a4 (L:=(zI ys).map aW) (news:=news) dZ.uU gG bR (by rw[c4];exact c6) (by rw[c4];exact oz)
     have m6:arr.toList.take (len * i.size)++news++arr.toList.drop (len * i.size+news.length)=storeCells arr.toList len news:=by
      rw[tC,Jp];have oA:arr.toList=arr.toList.take len++(arr.toList.drop len).take ys.length++arr.toList.drop (len+ys.length):=by
       rw[bh,<- List.drop_drop,BH,BH]
      have hlen:(arr.toList.take len).length=len:=by rw[uf,An];omega
      have:=kQ news ((arr.toList.drop len).take ys.length) (arr.toList.take len) (arr.toList.drop (len+ys.length)) (by have hL:arr.toList.length=arr.size:=An;simp only[uf,List.length_drop];omega)
      rw[hlen,<- oA] at this;rw[this,lg]
     rw[m6] at cq;refine⟨_,g,_,_,rfl,?_,dF,.sr (by omega),λ_ _=>trivial,dr⟩
     rw[nK];exact cq
  ·rename_i eT;split at aC<;>try (cases aC;done)
   rename_i xs oU;split at aC<;>try (cases aC;done)
   rename_i hc;simp only[de,qz,qm,br,cg] at aC;obtain⟨rfl,rfl⟩:=aC;simp only[eo] at hc;obtain⟨⟨⟨c1,c2⟩,c3⟩,DU⟩:=hc;have c1:=eU c1;have c2:=rJ c2;have c3:=rJ c3;obtain⟨m1,m2⟩:=pR _ DU;have Lg:=yl h hn oU x1 x3;obtain⟨ad1,SZ,iW,Lh⟩:=Lg.form;have hxn:xs≠[]:=λe=>by rw[e] at c1;simp at c1;omega
   obtain⟨a1,AY,rfl,o8,HP⟩:=Lh hxn;have nS:SZ=cap/\len<=cap:=by
    rw[iW] at x1;cases x1 with
    | sr AT=>exact⟨rfl,AT⟩
   obtain⟨rfl,AT⟩:=nS;obtain⟨ad,cy,nK,k_⟩:=gp.form;have rP:0<ys.length:=by omega
   have cI:ys≠[]:=λe=>by rw[e] at rP;simp at rP
   obtain⟨a0,news,rfl,dZ,gv⟩:=k_ cI;have lg:news.length=ys.length * i.size:=by rw[<- dZ.len,qJ gp.sized,tC]
   have DT:AY.length=len * i.size:=by rw[<- o8.len,qJ Lg.sized,tC,c1]
   have h2:bK g (bW xs) AY:=by rw[eW];exact o8
   have pS:bK g (bW ys) news:=by rw[eW];exact dZ
   have dF:bK g (bW xs++bW ys) (AY++news):=by
    refine⟨by simp only[aU,h2.len,pS.len],λj q hq=>?_,λj q v' hq lf=>?_⟩
    ·rcases eX j (bW xs).length with h4|h4
     ·rw[gb h4] at hq;exact h2.one j q hq
     ·rw[fE h4] at hq;exact pS.one _ q hq
    ·rcases eX j (bW xs).length with h4|h4
     ·rw[gb h4] at hq;rw[gb (by rw[<- h2.len];exact h4)] at lf
      exact h2.rel j q v' hq lf
     ·rw[fE h4] at hq;rw[fE (by rw[<- h2.len];exact h4),<- h2.len] at lf
      exact pS.rel _ q v' hq lf
   have hlen:(AY++news).length=(len+ys.length) * n:=by rw[aU,DT,lg,tC,tq]
   have b_:=y4 (w:=w) (e:=e) (old:=SZ) (k:=len+ys.length) (sz:=n) (z:=z) (arr:=AY.toArray++news.toArray) (vs:=AY++news) (by simp) hlen Em m1
   have Ay:aI (bW xs++bW ys)<=s.H.az.length:=by
    refine qL λq hq=>?_;rcases rK.1 hq with hq|hq
    ·rw[eW] at hq;exact cP (xX hq) Lg.aI
    ·rw[eW] at hq;exact cP (xX hq) gp.aI
   obtain⟨g',r1,r2⟩:=zld (w':=w.drew.alloc (.cells (AY.toArray++news.toArray++Builtin.zeroCells z.cells (grownCap w (len+ys.length) SZ e - (len+ys.length))) e)) h rfl rfl rfl rfl AU b_ dF Ay;refine⟨_,g',_,_,rfl,?_,r1,r2,λ_ _=>trivial,by simp[V.top,Hp.push]⟩
   rw[iW,nK,c1];exact run_append_grow (P:=P) w t ty e i z ht hi hz a1 len SZ AY DT HP a0 ys.length cy news lg gv (by omega) (by simp only[maxLen] at m1;omega) (growslice_fits (by omega) m2)
 ·cases aC
theorem zlf{cx:Cx}(hP:cx.P=P)(h:Rel B g s a w){t t2 ty:aB}{x y:aX}{r:OR}{s':St}(aC:cx.sk t x y s.env s.H s.lk s.defers=some (r,s')) :
  ∃v g' cv w',r=.val v/\(Builtin.copy_ #[t,t2] ty #[a.eval x,a.eval y]).run P w=.ok cv w'/\Rel B g' s' a w'/\aR g' v cv/\(∀n l,cM g' n w' l v cv)/\v.top<=s'.H.az.length:=by
 unfold Cx.sk at aC;rw[hP] at aC;simp only[Option.bind_eq_bind,eG] at aC;obtain⟨td,ht,aC⟩:=aC;split at aC<;>try (cases aC;done)
 rename_i e;simp only[eG] at aC;obtain⟨n,hn,yv,hy,ys,s6,xv,hx,aC⟩:=aC;obtain⟨y1,y3,_⟩:=zJ h hy;obtain⟨x1,x3,x4⟩:=zJ h hx;clear x4;have gp:=yl h hn s6 y1 y3;split at aC<;>try (cases aC;done)
 rename_i b off len cap;split at aC<;>try (cases aC;done)
 rename_i cs tt hb;split at aC<;>try (cases aC;done)
 rename_i hc;simp only[de,jd,br,cg] at aC;obtain⟨rfl,rfl⟩:=aC;simp only[eo] at hc;obtain⟨⟨⟨c1,c2⟩,c3⟩,oz⟩:=hc;have c1:=eU c1;have c2:=eU c2;have c3:=rJ c3;subst c1;rw[eW] at c2;have AZ:(P.info? e).map (·.size)=some 1:=hn;generalize hm:min len ys.length=m at c2 c3 oz ⊢;generalize Jv:a.eval x=SY at x1;cases x1 with
 | sr AT =>
  obtain⟨arr,a1,a2,a3,a4⟩:=xg h hb;have nT:cs.length=arr.size:=by have:=a2.len;simpa using this
  have lO:b<s.H.az.length:=by simp only[Hp.get,zg] at hb;exact(c_.1 hb).1
  obtain⟨ad,cy,nK,k_⟩:=gp.form;obtain⟨news,dX,cq⟩:∃news,bK g ((zI (ys.take m)).map aW) news/\(Builtin.copy_ #[t,t2] ty #[.slice (some ⟨g.bP b,off,none⟩) len cap,a.eval y]).run P w=.ok (goInt m) (w.setRow (g.bP b) (storeCells arr.toList off news).toArray):=by
   by_cases cI:ys=[]
   ·subst cI;have Dd:m=0:=by rw[<- hm];simp
    subst Dd;refine⟨[],⟨by simp[zI],λ_ _ e=>by simp[zI] at e,λ_ _ _ e=>by simp[zI] at e⟩,?_⟩
    rw[nK];have e1:(w.setRow (g.bP b) (storeCells arr.toList off []).toArray)=w:=by
     show w.setRow (g.bP b) arr.toList.toArray=w;rw[Array.toArray_toList];exact setRow_self w _ arr _ _ a1
    rw[e1];simp only[z4,m9] at hn;obtain⟨i,hi,uX⟩:=hn;cases ad<;>simp[Builtin.copy_,run_underlying ht,Builtin.lenOf,Builtin.firstCells,sizeOf,typeInfo,hi,Go.storeCells,loadCells,loadCellsFrom]
   ·obtain⟨a0,news,rfl,dZ,gv⟩:=k_ cI;have lg:news.length=ys.length:=by rw[<- dZ.len,qJ gp.sized];simp
    have BO:m<=ys.length:=by omega
    have GF:zI (ys.take m)=(zI ys).take m:=by
     have h1:zI ys=zI (ys.take m)++zI (ys.drop m):=by rw[<- xY,BH]
     have h2:(zI (ys.take m)).length=m:=by rw[qJ (sz:=1) λy hy=>gp.sized y (B9 hy)];simp;omega
     rw[h1,List.take_append_of_le_length (by omega)];exact(p9 (by omega)).symm
    refine⟨news.take m,by rw[GF];exact(dZ.take m).uU,?_⟩
    have GG:=run_copy_row P w t t2 ty e (g.bP b) off len cap a0 ys.length cy arr tt (news.take m) ht AZ a1 (by rw[uf,lg,<- hm];show min (min len ys.length) ys.length=min ys.length len;omega) (λj v hv=>gv j v (by
     rw[Ao] at hv;split at hv
     ·exact hv
     ·cases hv)) (by rw[uf,lg];omega) (dZ.take m).pe
    rw[nK,GG];have e1:(news.take m).length=m:=by rw[uf,lg];omega
    have m6:arr.toList.take off++news.take m++arr.toList.drop (off+(news.take m).length)=storeCells arr.toList off (news.take m):=by
     have oA:arr.toList=arr.toList.take off++(arr.toList.drop off).take m++arr.toList.drop (off+m):=by
      rw[bh,<- List.drop_drop,BH,BH]
     have hlen:(arr.toList.take off).length=off:=by rw[uf,An];omega
     have:=kQ (news.take m) ((arr.toList.drop off).take m) (arr.toList.take off) (arr.toList.drop (off+m)) (by rw[uf,List.length_drop,An];omega)
     rw[hlen,<- oA] at this;rw[this,e1]
    rw[m6,e1]
  have lg:news.length=m:=dX.len.symm.trans c2;simp only[eW];generalize hL:(zI (ys.take m)).map aW=L at *;have V1:aI L<=s.H.az.length:=by
   rw[<- hL,eO];exact cP yk (cP (VX _ _) gp.aI)
  refine⟨_,g,_,_,rfl,cq,V0 h hb a1 a2 a3 a4 dX (λq hq=>?_) V1 (by omega) (by rw[c2];exact oz),.int _ _,λ_ _=>trivial,eg _⟩
  rw[<- hL] at hq;obtain⟨q',_,rfl⟩:=mj.1 hq;exact zle q'
end
section
variable{P:aQ}{B:dS}{g:Gh}{s:St}{a:Act}{w:aP}
structure oD(P:aQ)(cx:Cx)(B:dS):Prop where
 prog:cx.P=P
 num:yA P
 V2:w8 P
 gl:iu P cx.gl B.g
 calls:∃d,d<B.d/\xA P cx.gl cx.call d
theorem fo.ends{s':St}{o:Oper}{v:V}(hv:fo P B s' a w o v){r:OR}(hr:r=.val v){K:Act->aP->Prop}{Q:Exit->Act->aP->Prop}(hE:Ends P B o r s' K Q):o.wp P a w K Q :=
 zpc hv λg' cv w' hk=>hE.val v hr g' cv a w' hk
theorem oC.ends{s':St}{o:Oper}(hv:oC P B s' a w o){r:OR}(hr:r=.skip){K:Act->aP->Prop}{Q:Exit->Act->aP->Prop}(hE:Ends P B o r s' K Q):o.wp P a w K Q :=
 wp_skip hv λg' w' hk=>hE.skip hr g' a w' hk
theorem V3(h:Rel B g s a w){xs:rL}{vs:aD}(hp:av s.env xs.toList=some vs):vs.length=(xs.map a.eval).size/\(∀(j:Nat)(x:V)(v:bt),vs[j]?=some x->(xs.map a.eval)[j]?=some v->aR g x v)/\aI vs<=s.H.az.length:=by
 obtain⟨h1,h2,h3,_⟩:=SL h hp;refine⟨by simp[h1],λj x v hx hv=>h2 j x v hx ?_,h3⟩
 rw[<- EO] at hv;simpa using hv
theorem HQ{cx:Cx}(iW:oD P cx B)(h:Rel B g s a w){takes:bY}{o:Oper}{r:OR}{s':St}(aC:cx.op takes o s.env s.H s.lk s.defers=some (r,s')){K:Act->aP->Prop}{Q:Exit->Act->aP->Prop}(hE:Ends P B o r s' K Q):o.wp P a w K Q:=by
 obtain⟨hP,fN,dP,rj,d,hd,dw⟩:=iW;subst hP;have E9:iu cx.P cx.gl g:=rj.le h.fr.le;have read:∀v,jf cx.P cx.gl o s.env s.H=some v->r=.val v->s'=s->o.wp cx.P a w K Q:=by
  intro v hv hr hs;subst hs;exact fo.ends (Vy h E9 hv) hr hE
 have um:(match jf cx.P cx.gl o s.env s.H with|none=>none|some v=>some (OR.val v,(⟨s.env,s.H,s.lk,s.defers⟩:St)))=some (r,s')->o.wp cx.P a w K Q:=by
  intro hh;split at hh<;>simp only[br,reduceCtorEq,cg] at hh;rename_i v hv;exact read v hv hh.1.symm hh.2.symm
 unfold Cx.op at aC;simp only at aC;split at aC
 ·rename_i x ho;split at aC
  ·split at aC<;>simp only[br,reduceCtorEq,cg] at aC;rename_i v cX ht;obtain⟨rfl,rfl⟩:=aC;exact(zgE h ht (.inl ho)).ends rfl hE
  ·exact um aC
 next x ho=>split at aC<;>simp only[br,reduceCtorEq,cg] at aC;rename_i v cX ht;obtain⟨rfl,rfl⟩:=aC;exact(zgE h ht (.inr ho)).ends rfl hE
 ·rename_i t p ho;split at aC
  ·exact um aC
  ·split at aC<;>try (cases aC;done)
   rename_i b off E2 hp;split at aC<;>try (cases aC;done)
   rename_i cs ty hb;split at aC<;>try (cases aC;done)
   next sz xs e hc=>simp only[fm,jd,br,cg] at aC;obtain⟨rfl,rfl⟩:=aC;rw[zg] at hc;have:=znp h E2 hp hb hc ho;refine fo.ends (v:=.sl sz xs (.yes e)) ?_ rfl hE;simpa[Hp.bQ,V.top] using this
   ·rename_i hc;simp only[br,cg] at aC;obtain⟨rfl,rfl⟩:=aC;rw[zg] at hc;have hl:zk cx.P s.H cx.gl t (.ptr b off)=some .aG:=by
     simp[zk,hb,wd,E2,zg,hc]
    have Ny:jf cx.P cx.gl o s.env s.H=some .aG:=by
     obtain⟨dst,op,type,pos,after,guard⟩:=o;simp only at ho;subst ho;simp[jf,hp,hl,aW]
    exact fo.ends (Vy h E9 Ny) rfl hE
   ·rename_i c9 u9 n9 hc;simp only[br,cg] at aC;obtain⟨rfl,rfl⟩:=aC;rw[zg] at hc;have hl:zk cx.P s.H cx.gl t (.ptr b off)=some (.dD c9 u9 n9):=by
     simp[zk,hb,wd,E2,zg,hc]
    have Ny:jf cx.P cx.gl o s.env s.H=some (.dD c9 u9 n9):=by
     obtain⟨dst,op,type,pos,after,guard⟩:=o;simp only at ho;subst ho;simp[jf,hp,hl,aW]
    exact fo.ends (Vy h E9 Ny) rfl hE
 ·rename_i t ho;split at aC<;>try (cases aC;done)
  rename_i z hz;split at aC<;>try (cases aC;done)
  rename_i ek;simp only[qp,qm,br,cg] at aC;obtain⟨rfl,rfl⟩:=aC;exact(zk8 h hz (by simpa using ek) ho).ends rfl hE
 ·rename_i t x ho;split at aC<;>try (cases aC;done)
  rename_i v cX ht;split at aC<;>try (cases aC;done)
  rename_i ek;simp only[qp,de,qm,br,cg] at aC;obtain⟨rfl,rfl⟩:=aC;exact(zpb h ht (by simpa using ek) ho).ends rfl hE
 ·rename_i t p x ho;split at aC<;>try (cases aC;done)
  ·rename_i b off hp;split at aC<;>try (cases aC;done)
   rename_i v cX n cs ty ht hn hb;simp only[qp,de,eE,jd] at aC;split at aC<;>simp only[br,reduceCtorEq,cg] at aC;rename_i hc;obtain⟨rfl,rfl⟩:=aC;simp only[eo] at hc;obtain⟨g',w',h1,h2⟩:=zk6 h hp ht hn hb hc.1.1.1 (eU hc.1.1.2) (rJ hc.1.2) hc.2;exact oC.ends ⟨g',w',by simp[execOp,ho,h1],h2⟩ rfl hE
  ·rename_i b u k hp;split at aC<;>try (cases aC;done)
   rename_i xv cX n eI sz cs e hx hn hb;simp only[qp,eE,jd] at aC;split at aC<;>simp only[br,reduceCtorEq,cg] at aC;rename_i hc;obtain⟨rfl,rfl⟩:=aC;simp only[eo] at hc;have hv:=eU hc.1.1.1;subst hv;obtain⟨g',w',h1,h2⟩:=zka h hp hx rfl hn hb hc.1.1.2 (eU hc.1.2) (rJ hc.2);exact oC.ends ⟨g',w',by simp[execOp,ho,h1],h2⟩ rfl hE
 ·rename_i t rr ho;split at aC<;>try (cases aC;done)
  simp only[qm,br,cg] at aC;obtain⟨rfl,rfl⟩:=aC;exact(zhY h ho).ends rfl hE
 ·rename_i t l c ho;split at aC<;>try (cases aC;done)
  rename_i e k lv k' cv ht hl hc;split at aC<;>try (cases aC;done)
  rename_i n i z hn hi hz;split at aC<;>try (cases aC;done)
  rename_i ru;have hm:=zfp h ht hl hc hn hi hz (Bool.eq_false_iff.2 ru) ho;split at aC
  ·simp only[de,qz,qm,br,cg] at aC;obtain⟨rfl,rfl⟩:=aC;exact hm.2.ends rfl hE
  split at aC
  next h0=>simp only[br,cg] at aC;obtain⟨rfl,rfl⟩:=aC;exact(hm.1 h0).ends rfl hE
  ·split at aC<;>try (cases aC;done)
   simp only[de,qm,br,cg] at aC;obtain⟨rfl,rfl⟩:=aC;exact hm.2.ends rfl hE
 ·rename_i t m k x ho;split at aC<;>try (cases aC;done)
  rename_i b kv v hm hk hx;split at aC<;>try (cases aC;done)
  rename_i s8;simp only[qp,eE,jd] at aC;split at aC<;>try (cases aC;done)
  rename_i es hb;split at aC<;>simp only[br,reduceCtorEq,cg] at aC;rename_i iD hs;obtain⟨rfl,rfl⟩:=aC;obtain⟨w',h1,h2⟩:=zbu h hm hk hx (by simpa using s8) hb hs
  exact oC.ends ⟨g,w',by simp[execOp,ho,h1],h2⟩ rfl hE
 ·rename_i t m k x ho;split at aC<;>try (cases aC;done)
  rename_i b kv v hm hk hx;split at aC<;>try (cases aC;done)
  rename_i s8;simp only[qp,eE,jd] at aC;split at aC<;>try (cases aC;done)
  rename_i es hb;split at aC<;>simp only[br,reduceCtorEq,cg] at aC;rename_i iD hs;obtain⟨rfl,rfl⟩:=aC;obtain⟨w',h1,h2⟩:=zbu h hm hk hx (by simpa using s8) hb hs
  exact oC.ends ⟨g,w',by simp[execOp,ho,h1],h2⟩ rfl hE
 ·rename_i t x ho;split at aC<;>try (cases aC;done)
  rename_i l ht hx;simp only[qm,br,cg] at aC;obtain⟨rfl,rfl⟩:=aC;exact(zk9 h ht hx ho).ends rfl hE
 ·rename_i it ho;split at aC<;>try (cases aC;done)
  rename_i b hi;split at aC<;>try (cases aC;done)
  rename_i l pos hb;have hn:=znn (P:=cx.P) h hi hb o.type;split at aC
  next bR=>rw[if_pos bR] at hn;obtain⟨cv,w',h1,h2,h3⟩:=hn;simp only[qz,jd,br,cg] at aC;obtain⟨rfl,rfl⟩:=aC;exact fo.ends ⟨g,cv,w',by simp[execOp,ho,h1],h3,h2,λ_ _=>trivial,by simp[V.top,aI]⟩ rfl hE
  next bR=>rw[if_neg bR] at hn;obtain⟨cv,h1,h2⟩:=hn;simp only[br,cg] at aC;obtain⟨rfl,rfl⟩:=aC;exact fo.ends ⟨g,cv,w,by simp[execOp,ho,h1],h,h2,λ_ _=>trivial,by simp[V.top,aI]⟩ rfl hE
 ·rename_i src dst x ho;split at aC
  next v cX hv=>simp only[br,cg] at aC;obtain⟨rfl,rfl⟩:=aC;exact(zno (P:=cx.P) h hv ho).ends rfl hE
  ·split at aC
   ·split at aC<;>simp only[br,reduceCtorEq,cg] at aC;rename_i v hv;obtain⟨rfl,rfl⟩:=aC;cases hx:ak s.env x with
    | none=>rw[hx] at hv;cases hv
    | some u =>
     rw[hx] at hv;obtain⟨u1,u2,_⟩:=zJ h hx;simp only[KR] at hv;split at hv<;>try (cases hv;done)
     rename_i u' nh
     by_cases S0:∃b o l c,u=.sr b o l c
     ·obtain⟨b,off,len,cap,rfl⟩:=S0;exact fo.ends (zk5 (P:=cx.P) h nh hv u1 u2 ho) rfl hE
     ·obtain rfl:u=u':=by
       have:=ziU (P:=cx.P) (H:=s.H) (a:=src) (v:=u) λb o l c e=>S0 ⟨b,o,l,c,e⟩;rw[this] at nh;exact DH nh
      refine um ?_;rw[show jf cx.P cx.gl o s.env s.H=some v by simp[jf,ho,hx,hv]]
   ·exact um aC
 ·rename_i t x lo hi ho;split at aC
  ·rename_i hf;split at aC<;>simp only[br,reduceCtorEq,cg] at aC;rename_i v cX hv;obtain⟨rfl,rfl⟩:=aC;obtain rfl:hi=none:=by unfold xz at hf;split at hf<;>first|rfl|cases hf
   exact(zlb (P:=cx.P) h hv ho).ends rfl hE
  ·split at aC
   ·obtain⟨v,e1,e2⟩:=zj8 rfl h aC ho;exact e2.ends e1 hE
   ·exact um aC
 ·rename_i c ho;split at aC
  ·rename_i b gE;have plain:(match cx.builtin b c.argTypes c.args s.env s.H with|none=>none|some (r,env)=>some (r,(⟨env,s.H,s.lk,s.defers⟩:St)))=some (r,s')->o.wp cx.P a w K Q:=by
    intro aC;split at aC<;>simp only[br,reduceCtorEq,cg] at aC;rename_i r' cX hb;obtain⟨rfl,rfl⟩:=aC;obtain⟨v,hv,ek⟩:=zh0 rfl h hb ho gE rfl rfl;exact ek.ends hv hE
   split at aC
   ·rename_i x y t ts fB Cp;obtain⟨v,g',cv,w',e1,e2,e3,e4,e5,e6⟩:=zlf (t2:=ts.headD 0) (ty:=o.type) rfl h aC;have ea:=uk fB;have cq:(execOp a.eval o).run cx.P w=.ok (.value cv) w':=by
     have:(Builtin.copy_ c.argTypes o.type #[a.eval x,a.eval y]).run cx.P w=.ok cv w':=by
      rw[<- e2];have:c.argTypes[0]?=some t:=by rw[<- EO,Cp];rfl
      simp[Builtin.copy_,this]
     simp[execOp,ho,resolve,gE,ea,invoke,builtin,this]
    exact fo.ends ⟨g',cv,w',cq,e3,e4,λ_ _=>e5 _ _,e6⟩ e1 hE
   ·rename_i x y t u fB Cp;split at aC
    ·split at aC<;>try (cases aC;done)
     rename_i Lc;have Lc:=eU Lc;subst Lc;obtain⟨v,g',cv,w',e1,e2,e3,e4,e5,e6⟩:=zh1 (ty:=o.type) rfl h aC;have ea:=uk fB;have et:=zlc Cp;have cq:(execOp a.eval o).run cx.P w=.ok (.value cv) w':=by
      simp[execOp,ho,resolve,gE,ea,et,invoke,builtin,e2]
     exact fo.ends ⟨g',cv,w',cq,e3,e4,λ_ _=>e5 _ _,e6⟩ e1 hE
    ·exact plain aC
   ·exact plain aC
  ·rename_i f gE;split at aC<;>try (cases aC;done)
   rename_i fv args hf ha;split at aC<;>simp only[br,reduceCtorEq,cg] at aC;rename_i r' H' hc;obtain⟨rfl,rfl⟩:=aC;obtain⟨f1,f2,_⟩:=zJ h hf;obtain⟨a1,a2,a3⟩:=V3 h ha;have k_:∃fn fa fc,a.eval f=.func fn fa fc:=by
    unfold Cx.mq at hc;split at hc
    ·generalize a.eval f=c at f1;cases f1;exact⟨_,_,_,rfl⟩
    ·generalize a.eval f=c at f1;cases f1;exact⟨_,_,_,rfl⟩
    ·cases hc
   obtain⟨fn,fa,fc,S1⟩:=k_;rw[S1] at f1;refine zgH rfl fN dP hd rj dw h hc f1 f2 a1 a2 a3 ?_ hE;simp[execOp,ho,resolve,gE,S1,Deferred.ofValue]
  ·rename_i rcv m gE;split at aC<;>try (cases aC;done)
   rename_i rv args hf ha;split at aC<;>simp only[br,reduceCtorEq,cg] at aC;rename_i r' H' hc;obtain⟨rfl,rfl⟩:=aC;obtain⟨f1,f2,_⟩:=zJ h hf;obtain⟨a1,a2,a3⟩:=V3 h ha
   refine zgH (fn:=.method m) (fa:=#[]) (fc:=#[]) (bx:=#[a.eval rcv]++c.args.map a.eval) rfl fN dP hd rj dw h hc (.fn rfl rfl (λ_ _ _ e=>by simp at e) (λ_ _ _ e=>by simp at e)) (by simp[V.top,aI]) (by simp at a1 ⊢;omega) ?_ (tu.2 ⟨f2,a3⟩) ?_ hE
   ·exact vC (l:=[rv]) (x:=#[a.eval rcv]) rfl (λj z v hz hv=>by
     cases j with
     | zero=>simp at hz hv;subst hz;subst hv;exact f1
     | succ j=>simp at hz) a2
   ·simp[execOp,ho,resolve,gE]
 ·rename_i c ho;split at aC<;>try (cases aC;done)
  rename_i f gE;split at aC<;>simp only[br,reduceCtorEq,cg] at aC;rename_i f' first cap args hf ha
  obtain⟨rfl,rfl⟩:=aC;obtain⟨f1,f2,_⟩:=zJ h hf;obtain⟨a1,a2,a3⟩:=V3 h ha;generalize S1:a.eval f=cf at f1;cases f1 with
  | fn e1 e2 e3 e4 =>
   rename_i fa fc;have ht:=tu.1 (show max (aI first) (aI cap)<=s.H.az.length from f2)
   have cq:(execOp a.eval o).run cx.P w=.ok (.defer { target:=.fn (.func f') fc,args:=fa++c.args.map a.eval }) w:=by
    simp[execOp,ho,resolve,gE,S1,Deferred.ofValue]
   unfold Oper.wp;rw[cq,Oper.upon_defer];refine hE.skip rfl g { a with defers:={ target:=.fn (.func f') fc,args:=fa++c.args.map a.eval }::a.defers } w ?_
   refine { cY:=h.cY,len:=h.len,env:=h.env,dO:=h.dO,n0:=h.n0,bG:=h.bG,d_:=h.d_,fr:=h.fr,lV:=h.lV,n8:=h.n8,cW:=h.cW,eF:=by simp[h.eF],defers:=λj x q hx hq=>?_,marks:=λd hd D hD=>(by rcases dH.1 hd with e|Az;{ subst e;cases hD };{ exact h.marks d Az D hD }),nq:=.cons (λ_ _ D hD=>nomatch hD) h.nq }
   cases j with
   | zero =>
    simp only[KG,br] at hx hq;subst hx;subst hq;exact .inl ⟨f',first,cap,fc,rfl,rfl,by rw[aU,e1,Array.size_append,a1],e2,vC e1 e3 a2,e4,wz ht.1 a3,ht.2⟩
   | succ j=>exact h.defers j x q (by simpa using hx) (by simpa using hq)
 ·rename_i x ho;split at aC<;>simp only[br,reduceCtorEq,cg] at aC;rename_i t v hx;obtain⟨rfl,rfl⟩:=aC;obtain⟨x1,x2,_⟩:=zJ h hx;generalize Jv:a.eval x=SY at x1;cases x1 with
  | ec hv =>
   rename_i cv;unfold Oper.wp;have:(execOp a.eval o).run cx.P w=.halt (.panic (.iface t cv)) w:=by
    simp[execOp,ho,Jv,Instr.panic,goPanic]
   rw[this,Oper.upon_panic];exact hE.pM _ rfl g (.iface t cv) a w h (.ec hv) x2
 ·exact um aC
end
section
variable{P:aQ}{B:dS}{g:Gh}{s:St}{a:Act}{w:aP}
def V4(g:Gh)(n:Nat):Ex->Exit->Prop
 | .normal,.normal=>True
 | .exit i,.exit j=>i=j
 | .goto i,.goto j=>i=j
 | .ret,.ret=>True
 | .pM v,.panic chain=>∃cv,chain=[{ v:=cv,recovered:=false }]/\aR g v cv/\v.top<=n
 | _,_=>False
def vS(B:dS)(ex:Ex)(s':St):Exit->Act->aP->Prop:=λe a w=>∃g,Rel B g s' a w/\V4 g s'.H.az.length ex e
theorem ym(h:Rel B g s a w){ops:Array Oper}{o:Oper}{b:Bool}(hw:zX ops o s.env=some b):Region.wanted o (yielded ops a.tmps)=b:=by
 unfold zX at hw;unfold Region.wanted;split at hw
 next hg=>simp only[br] at hw;rw[hg,<- hw]
 ·rename_i j want hg;rw[hg];simp only;split at hw<;>try (cases hw;done)
  rename_i d hd;rw[zg] at hw;unfold yielded;rw[hd];simp only[aT];split at hw<;>simp only[br,reduceCtorEq] at hw
  next c hc=>obtain⟨cv,iV,_⟩:=h.slot hc;have hr:=(h.env d _ cv hc iV).1;cases hr;rw[iV];simp only[<- hw];cases c<;>cases want<;>rfl
  next c hc=>obtain⟨cv,iV,_⟩:=h.slot hc;have hr:=(h.env d _ cv hc iV).1;cases hr;rw[iV,<- hw];rfl
theorem yB(h:Rel B g s a w)(o:Oper):DQ B g s a w o.dst (.bq []) undef :=
 ⟨h,.bq rfl (λ_ _ _ e=>by simp at e),λ_ _=>trivial,eg _⟩
theorem zlg{cx:Cx}(iW:oD P cx B){all:Array Oper}{takes:bY}{ex:Ex}{s':St}{Q:Exit->Act->aP->Prop}(hQ:∀e a w,vS B ex s' e a w->Q e a w):∀(l:List Oper)(s:St)(g:Gh)(a:Act)(w:aP),Rel B g s a w->cx.ops all takes l s=some (ex,s')->wpList P all Q l a w
 | [],s,g,a,w,h,hc=>by
  simp only[Cx.ops,br,cg] at hc;obtain⟨rfl,rfl⟩:=hc;exact hQ _ _ _ ⟨g,h,trivial⟩
 | o::os,⟨env,H,lk,df⟩,g,a,w,h,hc=>by
  have ih:=zlg iW (all:=all) (takes:=takes) hQ os;simp only[Cx.ops] at hc;unfold wpList;split at hc<;>try (cases hc;done)
  ·rename_i hw;rw[if_neg (by rw[ym h hw];simp)]
   rw[jO] at hc;exact ih _ g _ w (wU (yB h o)) hc
  ·rename_i hw;rw[if_pos (ym h hw)]
   left
   split at hc<;>try (cases hc;done)
   next v cX H' HR HS aC=>rw[jO] at hc;refine HQ iW h aC ⟨λv' hv g' cv a' w' hk=>?_,(λhv=>nomatch hv),(λv' hv=>nomatch hv)⟩;cases hv;exact ih _ g' _ w' (wU hk) hc
   next cX H' HR HS aC=>rw[jO] at hc;refine HQ iW h aC ⟨(λv' hv=>nomatch hv),λ_ g' a' w' hk=>?_,(λv' hv=>nomatch hv)⟩;exact ih _ g' _ w' (wU (yB hk o)) hc
   next v s1 aC=>simp only[br,cg] at hc;obtain⟨rfl,rfl⟩:=hc;refine HQ iW h aC ⟨(λv' hv=>nomatch hv),(λhv=>nomatch hv),λv' hv g' cv a' w' hk h1 h2=>?_⟩;cases hv;exact hQ _ _ _ ⟨g',hk,cv,rfl,h1,h2⟩
theorem Rel.HT(h:Rel B g s a w):Rel B g { s with lk:=[] } a w :=
 {cY:=h.cY,len:=h.len,env:=h.env,dO:=h.dO,n0:=h.n0,bG:=h.bG,d_:=h.d_,fr:=h.fr,lV:=h.lV,n8:=λ_ hp=>by simp at hp,cW:=h.cW,eF:=h.eF,defers:=h.defers,marks:=h.marks,nq:=h.nq }
def Nz(P:aQ)(cx:Cx)(B:dS):Prop:=oD P cx B->∀(id:Nat)(ops:Array Oper)(s s':St)(ex:Ex)(g:Gh)(a:Act)(w:aP),cx.draw ops s=some (ex,s')->Rel B g s a w->(Code.region id ops true).wp P (vS B ex s') a w
def NA(P:aQ)(cx:Cx)(B:dS):Prop:=oD P cx B->∀(n:Nat)(f:aX)(ps:Array Tmp)(as bd:Code)(s s':St)(ex:Ex)(g:Gh)(a:Act)(w:aP),cx.code n (.rangeFunc f ps as bd) s=some (ex,s')->Rel B g s a w->(Code.rangeFunc f ps as bd).wp P (vS B ex s') a w
theorem S2{B:dS}{ex:Ex}{s':St}{K:Act->aP->Prop}{Q:Exit->Act->aP->Prop}(hn:ex=.normal->∀g a w,Rel B g s' a w->K a w)(ho:ex≠.normal->∀e a w,vS B ex s' e a w->Q e a w):∀e a w,vS B ex s' e a w->Exit.then K Q e a w:=by
 rintro e a w ⟨g,h1,h2⟩;cases ex<;>cases e<;>first
  |(exact h2.elim)
  |(exact hn rfl g a w h1)
  | (exact ho (λe=>by cases e) _ _ _ ⟨g,h1,h2⟩)
theorem zi3{cx:Cx}(iW:oD P cx B)(eZ:Nz P cx B)(hrg:NA P cx B)(n:Nat):∀(c:Code)(s s':St)(ex:Ex)(g:Gh)(a:Act)(w:aP),cx.code n c s=some (ex,s')->Rel B g s a w->c.wp P (vS B ex s') a w:=by
 intro c
 induction c with
 | skip =>
  intro s s' ex g a w hc h;simp only[Cx.code,br,cg] at hc;obtain⟨rfl,rfl⟩:=hc;exact Go.wp_skip ⟨g,h,trivial⟩
 | label l =>
  intro s s' ex g a w hc h;simp only[Cx.code,br,cg] at hc;obtain⟨rfl,rfl⟩:=hc;exact wp_label ⟨g,h,trivial⟩
 | region id ops draw =>
  intro s s' ex g a w hc h;cases draw with
  | false =>
   obtain⟨env,H,lk,df⟩:=s;simp only[Cx.code] at hc;exact wp_region_list (zlg iW (λ_ _ _ q=>q) _ _ g a w h.HT hc)
  | true =>
   simp only[Cx.code] at hc;exact eZ iW id ops s s' ex g a w hc h
 | seq x y HU Li =>
  intro s s' ex g a w hc h;simp only[Cx.code] at hc;split at hc<;>try (cases hc;done)
  next s1 hx=>refine wp_seq (Code.wp_mono (S2 (λ_ g' a' w' h'=>Li s1 s' ex g' a' w' hc h') (λe=>absurd rfl e)) (HU s s1 .normal g a w hx h))
  next e1 s1 cI hx=>simp only[br,cg] at hc;obtain⟨rfl,rfl⟩:=hc;refine wp_seq (Code.wp_mono (S2 (λe=>absurd e ?_) (λ_ _ _ _ q=>q)) (HU s _ _ g a w hx h));exact λe=>by simp_all
 | cond c x y HU Li =>
  intro s s' ex g a w hc h;simp only[Cx.code] at hc;split at hc<;>try (cases hc;done)
  next hp=>have c1:=(zJ h hp).1;generalize uW:a.eval c=cc at c1;cases c1;exact wp_cond_true uW (HU s s' ex g a w hc h)
  next hp=>have c1:=(zJ h hp).1;generalize uW:a.eval c=cc at c1;cases c1;exact wp_cond_false uW (Li s s' ex g a w hc h)
 | block id c ih =>
  intro s s' ex g a w hc h;simp only[Cx.code] at hc;split at hc<;>try (cases hc;done)
  ·rename_i i s1 hx;simp only[br,cg] at hc;obtain⟨rfl,rfl⟩:=hc;refine wp_block (Code.wp_mono ?_ (ih s s1 (.exit i) g a w hx h));rintro e a' w' ⟨g',h1,h2⟩;cases e<;>first|(exact h2.elim)|skip
   rename_i j;have:i=j:=h2;subst this;simp only[Exit.inBlock];split
   next e=>subst e;exact⟨g',h1,by simp[V4]⟩
   ·rename_i e;refine⟨g',h1,?_⟩;have:Nat.beq i id=false:=by
     cases hb:Nat.beq i id with
     | false=>rfl
     | true=>exact absurd (eU hb) e
    simp[this,V4]
  ·rename_i e1 s1 cI hx;simp only[br,cg] at hc;obtain⟨rfl,rfl⟩:=hc;refine wp_block (Code.wp_mono ?_ (ih s _ _ g a w hx h));rintro e a' w' ⟨g',h1,h2⟩;cases e with
   | exit j=>cases e1<;>first|(exact h2.elim)|(exact(cI _ rfl).elim)
   | _=>exact⟨g',h1,h2⟩
 | loop c ih =>
  intro s s' ex g a w hc h;simp only[Cx.code] at hc;refine wp_loop_rounds n ?_;have key:∀(m:Nat)(s:St)(g:Gh)(a:Act)(w:aP),KV (cx.code n c) m s=some (ex,s')->Rel B g s a w->Code.rounds P c (vS B ex s') m a w:=by
   intro m
   induction m with
   | zero=>intro s g a w hi;simp[KV] at hi
   | succ m ihm =>
    intro s g a w hi h;simp only[KV] at hi;rw[rounds_succ];split at hi<;>try (cases hi;done)
    next s1 hx=>exact Code.wp_mono (S2 (λ_ g' a' w' h'=>ihm s1 g' a' w' hi h') (λe=>absurd rfl e)) (ih s s1 .normal g a w hx h)
    next e1 s1 cI hx=>simp only[br,cg] at hi;obtain⟨rfl,rfl⟩:=hi;exact Code.wp_mono (S2 (λe=>absurd e (λe=>by simp_all)) (λ_ _ _ _ q=>q)) (ih s _ _ g a w hx h)
  exact key n s g a w hc h
 | exit id =>
  intro s s' ex g a w hc h;simp only[Cx.code,br,cg] at hc;obtain⟨rfl,rfl⟩:=hc;exact wp_exit ⟨g,h,rfl⟩
 | ret =>
  intro s s' ex g a w hc h;simp only[Cx.code,br,cg] at hc;obtain⟨rfl,rfl⟩:=hc;exact wp_ret ⟨g,h,trivial⟩
 | scope c ih =>
  intro s s' ex g a w hc h;simp only[Cx.code] at hc;split at hc<;>try (cases hc;done)
  rename_i e1 s1 hng hx;simp only[br,cg] at hc;obtain⟨rfl,rfl⟩:=hc;refine wp_scope_straight (Code.wp_mono ?_ (ih s _ _ g a w hx h));rintro e a' w' ⟨g',h1,h2⟩;cases e with
  | goto l=>cases e1<;>first|(exact h2.elim)|(exact(hng _ rfl).elim)|(exact(hng _ _ rfl).elim)|(simp_all;done)
  | _=>exact⟨g',h1,h2⟩
 | rangeFunc f ps as bd=>intro s s' ex g a w hc h;exact hrg iW n f ps as bd s s' ex g a w hc h
 | _=>intro s s' ex g a w hc;simp[Cx.code] at hc
end
section
variable{P:aQ}{B:dS}{g:Gh}{s:St}{a:Act}{w:aP}
theorem zes(n:Nat):aI (List.replicate n (V.bq []))=0:=by
 induction n with
 | zero=>rfl
 | succ n ih=>simp[Hh,aI,V.top,ih]
theorem zgL{H:Hp}{args:aD}{bx:dN}(hw:q_ g H.az w)(ha:eP g H.az.length args bx)(d n:Nat) :
  Rel ⟨d,H.az,g,w,[]⟩ g ⟨args++List.replicate (n - args.length) (.bq []),⟨H.az,[]⟩,[],[]⟩ { tmps:=bx++Array.replicate (n - bx.size) undef,defers:=[] } w:=by
 have V5:aR g (.bq []) undef:=.bq rfl (λ_ _ _ e=>by simp at e)
 refine { cY:=hw,len:=by simp[ha.len],env:=λt x v hx hv=>?_,dO:=λt x hx=>?_,n0:=dI _,bG:=λb x hx=>.inr (.inr ⟨x,hx,dI _⟩),d_:=λb h1 h2=>absurd h1 (Nat.not_le.2 h2),fr:=.refl _ _ _ _,lV:=λb off hl=>?_,n8:=λ_ hp=>by simp at hp,cW:=λ_ hp=>by simp at hp,eF:=rfl,defers:=(λ_ _ _ hx=>by simp at hx),marks:=(λ_ hd=>by simp at hd),nq:=.nil }
 ·rcases eX t args.length with h|h
  ·have lf:bx[t]?=some v:=by rw[Array.getElem?_append_left (by rw[<- ha.len];exact h)] at hv;exact hv
   have o6:args[t]?=some x:=by
    have:(args++List.replicate (n - args.length) (V.bq []))[t]?=some x:=hx
    rwa [gb h] at this
   refine⟨ha.rel t x v o6 lf,?_⟩;have:=ha.no x (zv o6);unfold cM;split
   ·exact absurd rfl (this _ _ _)
   ·trivial
  ·have o6:(List.replicate (n - args.length) (V.bq []))[t - args.length]?=some x:=by
    have:(args++List.replicate (n - args.length) (V.bq []))[t]?=some x:=hx
    rwa [fE h] at this
   have lf:(Array.replicate (n - bx.size) undef)[t - bx.size]?=some v:=by rw[Array.getElem?_append_right (by rw[<- ha.len];exact h)] at hv;exact hv
   rw[List.getElem?_replicate] at o6;rw[Array.getElem?_replicate] at lf;split at o6<;>simp only[br,reduceCtorEq] at o6;split at lf<;>simp only[br,reduceCtorEq] at lf;subst o6;subst lf;exact⟨V5,trivial⟩
 ·have o6:(args++List.replicate (n - args.length) (V.bq []))[t]?=some x:=hx;refine cP (zn (zv o6)) (wz ha.top ?_);rw[zes];exact eg _
 ·rcases hl with hl|⟨q,hq,_⟩
  ·exact hl
  ·simp at hq
def zW(n0:Nat)(es:aN)(top:Nat)(H:Hp):Hp :=
 if Nat.ble top n0 && H.bG.all (λe=>Nat.ble n0 e.1 || Nat.ble e.2 n0) then ⟨H.az.take n0,H.bG.filter (λe=>Nat.blt e.1 n0)++es⟩ else ⟨H.az,H.bG++es⟩
theorem kV{β:Type}(n0:Nat)(es:aN)(top:Nat)(H:Hp)(k:Hp->β):OJ n0 es top H k=k (zW n0 es top H):=by
 cases H;simp only[OJ,zW,eE];split<;>rfl
theorem cM.less{n n':Nat}(hn:n'<=n){l:Loc}{x:V}{cv:bt}(h:cM g n w l x cv):cM g n' w l x cv:=by
 unfold cM at *;split
 ·obtain⟨vs,h1,h2⟩:=h;exact⟨vs,h1,λc hc=>⟨(h2 c hc).1,(h2 c hc).2.1,λb hb=>(h2 c hc).2.2 b (uO hb hn)⟩⟩
 ·trivial
theorem fY.less{n n' b:Nat}(hn:n'<=n){x:aV}(h:fY g n w b x):fY g n' w b x:=by
 cases x with
 | cells cs t =>
  obtain⟨arr,h1,h2,h3⟩:=h;exact⟨arr,h1,h2,λj x v hx hv=>⟨(h3 j x v hx hv).1,(h3 j x v hx hv).2.1,(h3 j x v hx hv).2.2.1.less hn,(h3 j x v hx hv).2.2.2⟩⟩
 | map es=>exact h
 | iter l p=>exact h
 | ul eI sz cs e =>
  obtain⟨c,len,cap,vs,hu⟩:=h;exact⟨c,len,cap,vs,{ hu with others:=λb' cZ=>hu.others b' (uO cZ hn) }⟩
theorem V6{d:Nat}{H0:Hp}{g0:Gh}{w0:aP}(uo:q_ g0 H0.az w0)(h:Rel ⟨d,H0.az,g0,w0,[]⟩ g s a w){top:Nat}(ht:top<=s.H.az.length) :
  mw d H0 g0 w0 (zW H0.az.length H0.bG top s.H) g w/\top<=(zW H0.az.length H0.bG top s.H).az.length/\(zW H0.az.length H0.bG top s.H).az.length<=s.H.az.length:=by
 have AU:H0.az.length<=s.H.az.length:=h.n0;have DP:∀b off,jp H0.az b off->jp s.H.az b off:=λb off hl=>h.lV b off (.inl hl);unfold zW;split
 ·rename_i hc;simp only[eo,B_,tn] at hc;obtain⟨ng,rX⟩:=hc;have hlen:(s.H.az.take H0.az.length).length=H0.az.length:=by simp[AU]
  have dy:∀b,b<H0.az.length->(s.H.az.take H0.az.length)[b]?=s.H.az[b]?:=λb hb=>by rw[Ao,if_pos hb]
  have AX:∀(b:Nat)(x:aV),(s.H.az.take H0.az.length)[b]?=some x->b<H0.az.length/\s.H.az[b]?=some x:=λb x hx=>by
   have hb:=(c_.1 hx).1;rw[hlen] at hb;exact⟨hb,(dy b hb) ▸ hx⟩
  have gH:∀(b:Nat)(x:aV),b<H0.az.length->s.H.az[b]?=some x->x.top<=b+1\/(∃m,(b,m)∈s.H.bG/\m<=H0.az.length/\x.top<=m)\/∃y:aV,H0.az[b]?=some y/\x.top<=y.top:=λb x hb hx=>by
   rcases h.bG b x hx with h1|⟨m,h1,h2⟩|h1
   ·exact .inl h1
   ·refine .inr (.inl ⟨m,h1,?_,h2⟩);rcases rX _ h1 with h3|h3
    ·have:=rJ h3;simp only at this;omega
    ·exact rJ h3
   ·exact .inr (.inr h1)
  refine⟨{ cY:={ mem:=h.cY.mem,lt:=λb hb=>h.cY.lt b (by simp only at hb;omega),inj:=λb b' hb cZ e=>h.cY.inj b b' (by simp only at hb;omega) (by simp only at cZ;omega) e,apart:=λb hb=>h.cY.apart b (by simp only at hb;omega),eV:=h.cY.eV,eD:=λb hb=>h.cY.eD b (by simp only at hb;omega),ok:=λb x hx=>?_,aI:=λb x hx=>?_,laid:=λc hc=>⟨(h.cY.laid c hc).1,(h.cY.laid c hc).2.1,λb hb=>(h.cY.laid c hc).2.2 b (by simp only at hb;omega)⟩ },fr:=h.fr,len:=by simp only;omega,d_:=λb h1 h2=>by simp only at h2;omega,bG:=λb x hx=>?_,E8:=λp hp=>C2 _ hp,lV:=λb off hl=>?_ },by simp only;rw[hlen];exact rJ ng,by simp only;omega⟩
  ·obtain⟨_,o6⟩:=AX b x hx;simp only;exact(h.cY.ok b x o6).less (by omega)
  ·obtain⟨hb,o6⟩:=AX b x hx;simp only;rw[hlen];rcases gH b x hb o6 with h1|⟨m,_,h1,h2⟩|⟨y,h1,h2⟩
   ·omega
   ·omega
   ·exact cP h2 (uo.aI b y h1)
  ·obtain⟨hb,o6⟩:=AX b x hx;rcases gH b x hb o6 with h1|⟨m,h0,h1,h2⟩|h1
   ·exact .inl h1
   ·refine .inr (.inl ⟨m,AO _ (List.mem_filter.2 ⟨h0,?_⟩),h2⟩);simpa[Nat.blt_eq] using hb
   ·exact .inr (.inr h1)
  ·obtain⟨cs,t,sz,xs,h1,h2⟩:=DP b off hl;obtain⟨_,_,_,_,k1,_⟩:=hl;exact⟨cs,t,sz,xs,by simp only;rw[dy b (c_.1 k1).1];exact h1,h2⟩
 ·refine⟨{ cY:=h.cY,fr:=h.fr,len:=AU,d_:=h.d_,bG:=λb x hx=>?_,E8:=λp hp=>C2 _ hp,lV:=DP },ht,dI _⟩;rcases h.bG b x hx with h1|⟨m,h1,h2⟩|h1
  ·exact .inl h1
  ·exact .inr (.inl ⟨m,AO _ h1,h2⟩)
  ·exact .inr (.inr h1)
end
section
variable{P:aQ}{B:dS}{g:Gh}{s:St}{a:Act}{w:aP}
theorem V7{tmps:dN}{t:Nat}{cv:bt}(h:tmps[t]?=some cv):tmps.getD t undef=cv:=by
 obtain⟨h1,h2⟩:=tj.1 h;simp[Array.getD,h1,h2]
theorem zgM{p:V}{cp:bt}(hr:aR g p cp){t:aB}{v:V}{H:Hp}(hl:zk P H (λ_ _=>none) t p=some v):(do loadVar t (<- asAddr cp):Sem bt).run P w=(Instr.loadAt t cp).run P w:=by
 unfold zk at hl;split at hl
 ·cases hr;simp[Instr.loadAt,Instr.sureAddr,asAddr]
 ·cases hr;simp[Instr.loadAt,Instr.sureAddr,asAddr]
 ·cases hr;simp[Instr.loadAt,Instr.sureAddr,asAddr]
 ·cases hr;simp[Instr.loadAt,Instr.sureAddr,asAddr]
 ·cases hl
def HV(tmps:dN):ResultVar->Sem bt
 | .tmp t=>pure (tmps.getD t undef)
 | .cell x t=>do loadVar t (<- asAddr (tmps.getD x undef))
def Lj:dx->bt
 | [v]=>v
 | vs=>.tuple vs.toArray
theorem zh2(fn:Func)(tmps:dN):results fn tmps=(do let vs <- fn.results.toList.mapM (HV tmps);pure (Lj vs)):=by
 have h1:results fn tmps=(do let vs <- fn.results.mapM (HV tmps);pure (if h:vs.size=1 then vs[0] else .tuple vs)):=by
  unfold results
  congr 1
  try (congr 1;try (funext x;cases x<;>rfl))
 rw[h1,Array.mapM_eq_mapM_toList];simp only[bind_map_left]
 congr 1
 funext vs
 match vs with
 | []=>rfl
 | [v]=>rfl
 | v::u::r=>simp[Lj]
theorem zfv{H:Hp}{env:aD}:∀{rs:List ResultVar},zx P H env rs=some []->rs=[]
 | [],_=>rfl
 | .tmp t::rs,h=>by
  simp only[zx] at h;split at h<;>simp at h
 | .cell c t::rs,h=>by
  simp only[zx] at h;split at h<;>try (cases h;done)
  split at h<;>simp at h
theorem V8(h:Rel B g s a w):∀{rs:List ResultVar}{vs:aD},zx P s.H s.env rs=some vs ->
  ∃DW:dx,(rs.mapM (HV a.tmps)).run P w=.ok DW w/\vs.length=DW.length /\
   (∀(j:Nat)(x:V)(v:bt),vs[j]?=some x->DW[j]?=some v->aR g x v)/\aI vs<=s.H.az.length
 | [],vs,hr=>by
  simp only[zx,br] at hr;subst hr;exact⟨[],by simp,rfl,λ_ _ _ hx=>by simp at hx,eg _⟩
 | .tmp t::rs,vs,hr=>by
  simp only[zx] at hr;split at hr<;>simp only[br,reduceCtorEq] at hr;rename_i v us hv Ch;subst hr;rw[zg] at hv;obtain⟨DW,h1,h2,h3,h4⟩:=V8 h Ch;obtain⟨cv,iV,_⟩:=h.slot hv;refine⟨cv::DW,?_,by simp[h2],λj x u hx hu=>?_,tu.2 ⟨h.dO t v hv,h4⟩⟩
  ·have hF:HV a.tmps (.tmp t)=pure cv:=by simp only[HV];rw[V7 iV]
   simp[List.mapM_cons,hF,h1]
  ·cases j with
   | zero=>simp at hx hu;subst hx;subst hu;exact(h.env t _ _ hv iV).1
   | succ j=>exact h3 j x u (by simpa using hx) (by simpa using hu)
 | .cell c t::rs,vs,hr=>by
  simp only[zx] at hr;split at hr<;>try (cases hr;done)
  rename_i p hp;split at hr<;>simp only[br,reduceCtorEq] at hr;rename_i v us hl Ch;subst hr;rw[zg] at hp;obtain⟨DW,h1,h2,h3,h4⟩:=V8 h Ch;obtain⟨cp,hcp,_⟩:=h.slot hp;have hrp:=(h.env c _ _ hp hcp).1;obtain⟨cv,l1,l2,l3⟩:=zgw h (gl:=λ_ _=>none) ⟨λ_ _ _ e=>(nomatch e),λ_ _ _ e=>(nomatch e)⟩ hrp (h.dO c p hp) hl
  refine⟨cv::DW,?_,by simp[h2],λj x u hx hu=>?_,tu.2 ⟨by rw[jm];exact l3,h4⟩⟩
  ·have hF:(HV a.tmps (.cell c t)).run P w=.ok cv w:=by
    simp only[HV];rw[V7 hcp];exact(zgM (P:=P) (w:=w) hrp hl).trans l1
   simp[List.mapM_cons,hF,h1]
  ·cases j with
   | zero=>simp at hx hu;subst hx;subst hu;exact l2.aW
   | succ j=>exact h3 j x u (by simpa using hx) (by simpa using hu)
theorem zdn(h:Rel B g s a w){fn:Func}{vs:aD}(hr:zx P s.H s.env fn.results.toList=some vs)(l:Loc) :
  ∃g' s' cv,(results fn a.tmps).run P w=.ok cv w/\s'.H=s.H/\Rel B g' s' a w/\aR g' (iZ vs) cv/\cM g' s.H.az.length w l (iZ vs) cv/\(iZ vs).top<=s.H.az.length:=by
 obtain⟨DW,h1,h2,h3,h4⟩:=V8 h hr;have cq:(results fn a.tmps).run P w=.ok (Lj DW) w:=by
  rw[zh2];simp[h1]
 match vs,h2,h3,h4,hr with
 | [v],h2,h3,h4,hr =>
  obtain⟨cv,rfl⟩:∃cv,DW=[cv]:=by
   match DW,h2 with
   | [cv],_=>exact⟨cv,rfl⟩
  have hv:aR g v cv:=h3 0 v cv rfl rfl;have ht:v.top<=s.H.az.length:=cP (DG _ _) h4;have plain:(∀k,cM g k w l v cv)->∃g' s' cv,(results fn a.tmps).run P w=.ok cv w/\s'.H=s.H/\Rel B g' s' a w/\aR g' (iZ [v]) cv/\cM g' s.H.az.length w l (iZ [v]) cv/\(iZ [v]).top<=s.H.az.length :=
   λho=>⟨g,s,cv,cq,rfl,h,hv,ho _,ht⟩
  by_cases iC:∃sz xs e,v=.sl sz xs (.yes e)
  ·obtain⟨sz,xs,e,rfl⟩:=iC;cases Ll:fn.results.toList with
   | nil=>rw[Ll] at hr;simp[zx] at hr
   | cons r rs =>
    rw[Ll] at hr;cases r with
    | tmp t =>
     simp only[zx] at hr;split at hr<;>simp only[br,reduceCtorEq,Aq] at hr;rename_i y us hy Ch;obtain⟨rfl,rfl⟩:=hr;rw[zg] at hy;have mb:take s.env (.tmp t)=some (.sl sz xs (.yes e),s.env.set t (.sl sz xs .no)):=by
      simp[take,zg,hy,fm]
     obtain⟨g',k1,k2,k3,k4,_⟩:=vJ h mb l;obtain⟨cv',V9,he⟩:=h.slot hy;have ri:a.eval (.tmp t)=cv:=by
      rw[he];have V_:=zfv Ch;have hF:HV a.tmps (.tmp t)=pure cv':=by simp only[HV];rw[V7 V9]
      rw[Ll,V_] at h1;simp[List.mapM_cons,hF] at h1;exact h1
     rw[ri] at k2 k3;exact⟨g',{ s with env:=s.env.set t (.sl sz xs .no) },cv,cq,rfl,k1,k2,k3,ht⟩
    | cell c t =>
     exfalso;simp only[zx] at hr;split at hr<;>try (cases hr;done)
     split at hr<;>simp only[br,reduceCtorEq,Aq] at hr;exact vQ _ _ _ _ hr.1
  ·refine plain λk=>?_;unfold cM;split
   next sz xs e=>exact absurd ⟨sz,xs,e,rfl⟩ iC
   ·trivial
 | [],h2,h3,h4,hr =>
  have:DW=[]:=Nh.1 h2.symm;subst this;exact⟨g,s,_,cq,rfl,h,.bq rfl (λ_ _ _ e=>by simp at e),trivial,eg _⟩
 | v::u::r,h2,h3,h4,hr =>
  match DW,h2 with
  | cv::cu::cr,h2 =>
   refine⟨g,s,_,cq,rfl,h,?_,trivial,?_⟩
   ·refine .bq (by simpa using h2) λj x y hx hy=>?_
    simp only[iY,m9] at hx;obtain⟨z,hz,rfl⟩:=hx;exact(h3 j z y hz (by simpa using hy)).aW
   ·show aI ((v::u::r).map aW)<=_;rw[eO];exact h4
end
section
variable{P:aQ}{B:dS}{g:Gh}{s:St}{a:Act}{w:aP}
def ew:Option bt->Bool->FrameMode
 | none,_=>.returning
 | some cv,r=>.panicking [{ v:=cv,recovered:=r }]
def od(g:Gh)(n:Nat):bX->Option bt->Prop
 | none,none=>True
 | some v,some cv=>aR g v cv/\v.top<=n
 | _,_=>False
theorem od.le{n n':Nat}{g g':Gh}(hg:Gh.Le n g g')(hn:n<=n'){p:bX}{pc:Option bt}(h:od g n p pc):od g' n' p pc:=by
 cases p<;>cases pc<;>first|exact h|exact⟨h.1.le hg h.2,cP h.2 hn⟩
def Wa(B:dS)(ex:Ex)(s':St)(pc:Option bt)(r:Bool)(c0:Frame)(Cq:List Frame):Exit->Act->List Frame->aP->Prop :=
 λe a cs w=>vS B ex s' e a w/\cs={ c0 with mode:=ew pc r }::Cq
theorem zi4{cx:Cx}(iW:oD P cx B){all:Array Oper}{takes:bY}{ex:Ex}{r':Bool}{s':St}{iI:bX}{pc:Option bt}(hp:od B.g B.bs.length iI pc)(c0:Frame)(Cq:List Frame){Q:Exit->Act->List Frame->aP->Prop}(hQ:∀e a cs w,Wa B ex s' pc r' c0 Cq e a cs w->Q e a cs w) :
  ∀(l:List Oper)(k:Nat)(s:St)(r:Bool)(g:Gh)(a:Act)(w:aP),(∀j:Nat,l[j]?=all[k+j]?)->Rel B g s a w->cx.tB iI all takes l r s=some (ex,r',s')->wpOpsS P all Q (List.range' k l.length) a ({ c0 with mode:=ew pc r }::Cq) w
 | [],k,s,r,g,a,w,hl,h,hc=>by
  simp only[Cx.tB,br,cg] at hc;obtain⟨rfl,rfl,rfl⟩:=hc;exact hQ _ _ _ _ ⟨⟨g,h,trivial⟩,rfl⟩
 | o::os,k,⟨env,H,lk,df⟩,r,g,a,w,hl,h,hc=>by
  have ih:=zi4 iW (all:=all) (takes:=takes) hp c0 Cq hQ os (k+1);have mK:∀j:Nat,os[j]?=all[k+1+j]?:=λj=>by have:=hl (j+1);simpa[pL,Jo 1 j] using this
  have h0:all[k]?=some o:=by simpa using (hl 0).symm
  simp only[Cx.tB] at hc;simp only[aZ,List.range'_succ,wpOpsS,h0];split at hc<;>try (cases hc;done)
  ·rename_i hw;rw[if_neg (by rw[ym h hw];simp)]
   rw[jO] at hc;exact ih _ r g _ w mK (wU (yB h o)) hc
  ·rename_i hw;rw[if_pos (ym h hw)];split at hc
   ·rename_i AV;have cq:(execOp a.eval o).run P w=.ok .recover w:=by
     unfold zoN at AV;split at AV<;>try (cases AV;done)
     rename_i c ho;split at AV<;>try (cases AV;done)
     rename_i gE;simp[execOp,ho,resolve,gE,invoke,builtin]
    rw[cq];simp only;have nil:∀r1,cx.tB iI all takes os r1 ⟨aq env o.dst .bM,H,lk,df⟩=some (ex,r',s')->wpOpsS P all Q (List.range' (k+1) os.length) (a.put o.dst .nilIface) ({ c0 with mode:=ew pc r1 }::Cq) w:=λr1 ng =>
     ih _ r1 g _ w mK (wU (s:=⟨env,H,lk,df⟩) (v:=.bM) (cv:=.nilIface) ⟨h,.bM,λ_ _=>trivial,eg _⟩) ng
    split at hc
    ·rename_i v;rw[jO] at hc;cases pc with
     | none=>exact hp.elim
     | some cv =>
      have hv:aR g v cv:=hp.1.le h.fr.le hp.2;have ht:v.top<=H.az.length:=cP hp.2 h.n0;exact ih _ true g _ w mK (wU (s:=⟨env,H,lk,df⟩) (v:=aW v) (cv:=cv) ⟨h,hv.aW,λ_ _=>vk _ _ _ _ _ _,by rw[jm];exact ht⟩) hc
    ·rename_i eT;rw[jO] at hc;have O5:recoverD ({ c0 with mode:=ew pc r }::Cq)=none:=by
      cases pc with
      | none=>rfl
      | some cv =>
       cases iI with
       | none=>exact hp.elim
       | some v =>
        cases r with
        | false=>exact(eT v rfl rfl).elim
        | true=>rfl
     rw[O5];exact nil r hc
   ·have cI:∀{K:Act->aP->Prop}{Q':Exit->Act->aP->Prop},o.wp P a w K Q'->(match (execOp a.eval o).run P w with
      | .ok .recover w'=>False
      | rr=>o.upon P a K Q' rr):=by
     intro K Q' S3;unfold Oper.wp at S3;generalize (execOp a.eval o).run P w=rr at S3;split
     ·exact S3
     ·exact S3
    have fin:o.wp P a w (λa' w'=>wpOpsS P all Q (List.range' (k+1) os.length) a' ({ c0 with mode:=ew pc r }::Cq) w') (λe a' w'=>Q e a' ({ c0 with mode:=ew pc r }::Cq) w'):=by
     split at hc<;>try (cases hc;done)
     next v cX H' HR HS aC=>rw[jO] at hc;refine HQ iW h aC ⟨λv' hv g' cv a' w' hk=>?_,(λhv=>nomatch hv),(λv' hv=>nomatch hv)⟩;cases hv;exact ih _ r g' _ w' mK (wU hk) hc
     next cX H' HR HS aC=>rw[jO] at hc;refine HQ iW h aC ⟨(λv' hv=>nomatch hv),λ_ g' a' w' hk=>?_,(λv' hv=>nomatch hv)⟩;exact ih _ r g' _ w' mK (wU (yB hk o)) hc
     next v s1 aC=>simp only[br,cg] at hc;obtain⟨rfl,rfl,rfl⟩:=hc;refine HQ iW h aC ⟨(λv' hv=>nomatch hv),(λhv=>nomatch hv),λv' hv g' cv a' w' hk h1 h2=>?_⟩;cases hv;exact hQ _ _ _ _ ⟨⟨g',hk,cv,rfl,h1,h2⟩,rfl⟩
    have:=cI fin;split
    next w1 NC=>rw[NC] at this;exact this.elim
    next rr Wb=>unfold Oper.wp at fin;exact fin
theorem Wc{c:Code}{Q Q':Exit->Act->List Frame->aP->Prop}{cs:List Frame}(h:c.wpS P Q a cs w)(hq:∀e a cs w,Q e a cs w->Q' e a cs w):c.wpS P Q' a cs w :=
 λb k hb hr=>let ⟨e,a',cs',w',q,r⟩:=h b k hb hr;⟨e,a',cs',w',hq _ _ _ _ q,r⟩
theorem zlh{cx:Cx}(iW:oD P cx B)(eZ:Nz P cx B/\NA P cx B)(n:Nat){iI:bX}{pc:Option bt}(hp:od B.g B.bs.length iI pc)(c0:Frame)(Cq:List Frame):∀(c:Code)(s s':St)(ex:Ex)(r r':Bool)(g:Gh)(a:Act)(w:aP),
  cx.mV n iI c r s=some (ex,r',s')->Rel B g s a w->c.wpS P (Wa B ex s' pc r' c0 Cq) a ({ c0 with mode:=ew pc r }::Cq) w:=by
 have plain:∀(c:Code)(s s':St)(ex:Ex)(r:Bool)(g:Gh)(a:Act)(w:aP),cx.code n c s=some (ex,s')->Rel B g s a w->c.wpS P (Wa B ex s' pc r c0 Cq) a ({ c0 with mode:=ew pc r }::Cq) w :=
  λc s s' ex r g a w hx h=>wpS_of_wp (Code.wp_mono (λ_ _ _ q=>⟨q,rfl⟩) (zi3 iW eZ.1 eZ.2 n c s s' ex g a w hx h))
 intro c
 induction c with
 | seq x y HU Li =>
  intro s s' ex r r' g a w hc h;simp only[Cx.mV] at hc;split at hc<;>try (cases hc;done)
  ·rename_i r1 s1 hx;refine wpS_seq (Wc (HU s s1 .normal r r1 g a w hx h) ?_);rintro e a' cs' w' ⟨⟨g',h1,h2⟩,rfl⟩;cases e<;>first
    |(exact h2.elim)
    |(exact Li s1 s' ex r1 r' g' a' w' hc h1)
  ·rename_i x1 cI hx;simp only[br] at hc;subst hc;refine wpS_seq (Wc (HU s _ _ r _ g a w hx h) ?_);rintro e a' cs' w' ⟨⟨g',h1,h2⟩,rfl⟩;cases ex<;>cases e<;>first
    |(exact h2.elim)
    |(exact(cI _ _ rfl).elim)
    |(exact⟨⟨g',h1,h2⟩,rfl⟩)
 | cond c x y HU Li =>
  intro s s' ex r r' g a w hc h;simp only[Cx.mV] at hc;split at hc<;>try (cases hc;done)
  next Lm=>have c1:=(zJ h Lm).1;generalize uW:a.eval c=cc at c1;cases c1;exact wpS_cond uW (by simpa using HU s s' ex r r' g a w hc h)
  next Lm=>have c1:=(zJ h Lm).1;generalize uW:a.eval c=cc at c1;cases c1;exact wpS_cond uW (by simpa using Li s s' ex r r' g a w hc h)
 | region id ops draw =>
  intro s s' ex r r' g a w hc h;cases draw with
  | false =>
   obtain⟨env,H,lk,df⟩:=s;simp only[Cx.mV] at hc;refine wpS_region ?_;have:=zi4 iW hp c0 Cq (λ_ _ _ _ q=>q) ops.toList 0 _ r g a w (by simp) h.HT hc
   rw[List.range_eq_range',<- An];exact this
  | true =>
   simp only[Cx.mV] at hc;split at hc<;>simp only[br,reduceCtorEq,cg] at hc;rename_i e1 s1 hx;obtain⟨rfl,rfl,rfl⟩:=hc;exact plain _ s s1 e1 r g a w hx h
 | _ =>
   intro s s' ex r r' g a w hc h;simp only[Cx.mV] at hc;split at hc<;>simp only[br,reduceCtorEq,cg] at hc;rename_i e1 s1 hx;obtain⟨rfl,rfl,rfl⟩:=hc;exact plain _ s s1 e1 r g a w hx h
end
section
variable{P:aQ}{B:dS}{g:Gh}{s:St}{a:Act}{w:aP}
theorem zli{gl:Nat->Nat->bX}{uq:aB->Bool}{call:FuncId->aD->Hp->Option (Out×Hp)}{d n:Nat}(fN:yA P)(dP:w8 P)(dw:xA P gl call d)(eZ:∀B,Nz P { P,gl,call,uq } B/\NA P { P,gl,call,uq } B){iI:bX}{pc:Option bt}{f:FuncId}{args:aD}{H H':Hp}{r:Bool}{bx:dN}
  (hc:KX P gl uq call n iI f args H=some (r,H')) (rj:iu P gl g) (hw:q_ g H.az w) (ha:eP g H.az.length args bx) (hp:od g H.az.length iI pc) :
  CallsD P f bx (ew pc false) w λe u' w'=>∃cv g',e=.returned cv/\u'=ew pc r/\mw (d+1) H g w H' g' w':=by
 obtain⟨bs,es⟩:=H;simp only[KX] at hc;split at hc<;>try (cases hc;done)
 rename_i fn hf;split at hc<;>try (cases hc;done)
 rename_i body hb;simp only[qz,eE] at hc;have iW:oD P { P,gl,call,uq } ⟨d+1,bs,g,w,[]⟩:=⟨rfl,fN,dP,rj,d,Hq d,dw⟩;have h0:=zgL (H:=⟨bs,es⟩) hw ha (d+1) fn.ntmps;have fin:∀(ex:Ex)(env:aD)(H1:Hp)(lk:aN),(ex=.normal\/ex=.ret)->Cx.mV { P,gl,call,uq } n iI body false ⟨args++List.replicate (fn.ntmps - args.length) (.bq []),⟨bs,[]⟩,[],[]⟩=some (ex,r,⟨env,H1,lk,[]⟩) ->
   ∀us,zx P H1 env fn.results.toList=some us->H'=zW bs.length es 0 H1 ->
   CallsD P f bx (ew pc false) w λe u' w'=>∃cv g',e=.returned cv/\u'=ew pc r/\mw (d+1) ⟨bs,es⟩ g w H' g' w':=by
  intro ex env H1 lk hex hx us Ch hH;refine callsD_of_wpS hf hb λc0 cs hm=>?_;have key:=zlh iW (eZ _) n (iI:=iI) (pc:=pc) hp c0 cs body _ _ ex false r g _ w hx h0;have sy:({ c0 with mode:=ew pc false }:Frame)=c0:=by rw[<- hm]
  rw[sy] at key;refine Wc key ?_;rintro e a' cs' w' ⟨⟨g',h1,h2⟩,rfl⟩;have DO:a'.defers=[]:=Nh.1 (by rw[<- h1.eF];rfl)
  obtain⟨g2,s2,cv,r1,r2,r3,_⟩:=zdn h1 Ch .ret;have iE:=(V6 hw h1 (top:=0) (eg _)).1;have uY:a'.defers=[]/\∃u',({ c0 with mode:=ew pc r }:Frame)::cs={ c0 with mode:=u' }::cs/\∃v,(results fn a'.tmps).run P w'=.ok v w'/\∃cv g',Ending.returned v=.returned cv/\u'=ew pc r/\mw (d+1) ⟨bs,es⟩ g w H' g' w' :=
   ⟨DO,_,rfl,cv,r1,cv,g',rfl,rfl,by rw[hH];exact iE⟩
  rcases hex with rfl|rfl<;>cases e<;>first|(exact h2.elim)|(exact uY)
 split at hc
 ·rename_i r1 env H1 lk hx;split at hc<;>try (cases hc;done)
  rename_i us Ch;rw[kV] at hc;simp only[br,cg] at hc;obtain⟨rfl,rfl⟩:=hc;exact fin .normal env H1 lk (.inl rfl) hx us Ch rfl
 ·rename_i r1 env H1 lk hx;split at hc<;>try (cases hc;done)
  rename_i us Ch;rw[kV] at hc;simp only[br,cg] at hc;obtain⟨rfl,rfl⟩:=hc;exact fin .ret env H1 lk (.inr rfl) hx us Ch rfl
 ·cases hc
theorem zgN(pc:Option bt):settle (ew pc true)=.returning:=by
 cases pc<;>rfl
theorem zfw(pc:Option bt):settle (ew pc false)=ew pc false:=by
 cases pc<;>rfl
theorem S4{gl:Nat->Nat->bX}{uq:aB->Bool}{call:FuncId->aD->Hp->Option (Out×Hp)}{d n:Nat}(fN:yA P)(dP:w8 P)(dw:xA P gl call d)(eZ:∀B,Nz P { P,gl,call,uq } B/\NA P { P,gl,call,uq } B)(hd:d+1<B.d)(rj:iu P gl B.g){fn:Func}{tmps:dN}{R:Ending->aP->Prop}{H':Hp}{Ln:bX} :
  ∀(df:bO)(iI:bX)(pc:Option bt)(env:aD)(H:Hp)(lk:aN)(g:Gh)(dc:List Deferred)(w:aP),Rel B g ⟨env,H,lk,df⟩ ⟨tmps,dc⟩ w->od g H.az.length iI pc->vh (KX P gl uq call n) iI df H=some (Ln,H') ->
   (∀g' ND w',Rel B g' ⟨env,H',lk,[]⟩ ⟨tmps,[]⟩ w'->od g' H'.az.length Ln ND->match ND with
    | none=>∃v,(results fn tmps).run P w'=.ok v w'/\R (.returned v) w'
    | some cv=>R (.panicked [{ v:=cv,recovered:=false }]) w')->Leaves P fn tmps R dc (ew pc false) w
 | [],iI,pc,env,H,lk,g,dc,w,h,hp,hc,hR=>by
  have hdc:dc=[]:=Nh.1 (h.eF.symm);subst hdc;simp only[vh,br,cg] at hc;obtain⟨rfl,rfl⟩:=hc;have:=hR g pc w h hp;cases pc with
  | none=>exact this
  | some cv=>exact this
 | (fv,args)::df,iI,pc,env,H,lk,g,dc,w,h,hp,hc,hR=>by
  cases dc with
  | nil=>have:=h.eF;simp at this
  | cons dd dc =>
   rcases h.defers 0 (fv,args) dd rfl rfl with Lo|⟨De,_⟩
   rotate_left
   ·simp only[cg] at De;obtain⟨e1,e2⟩:=De;subst e1 e2;simp[vh] at hc
   obtain⟨f,as,cs,fc,e1,e2,e3,e4,e5,e6,e7,e8⟩:=Lo;simp only at e1;subst e1;obtain⟨tg,da⟩:=dd;simp only at e2 e3 e5;subst e2;simp only[vh,eE] at hc;have Wd:∃r H1,KX P gl uq call n iI f ((as++args++cs).map aW) H=some (r,H1)/\vh (KX P gl uq call n) (if r then none else iI) df H1=some (Ln,H'):=by
    split at hc<;>try (cases hc;done)
    next H1 hx=>exact⟨true,H1,hx,hc⟩
    next H1 hx=>exact⟨false,H1,hx,hc⟩
   obtain⟨r,H1,hx,oe⟩:=Wd;have fB:eP g H.az.length ((as++args++cs).map aW) (da++fc):=eP.E_ (by simp only[aU,Array.size_append] at e3 ⊢;omega) (vC e3 e5 e6) (wz e7 e8)
   have We:iu P gl g:=rj.le h.fr.le;have hinv:(invoke (.fn (.func f) fc) da).run P w=.ok (.enter f (da++fc)) w:=by
    unfold KX at hx;simp only at hx;split at hx<;>try (cases hx;done)
    rename_i fn' E4;split at hx<;>try (cases hx;done)
    rename_i body cZ;have cI:fn'.name≠ "runtime.NumGoroutine":=by simpa using fN f fn' E4
    simp[invoke,callFunc,E4,cZ,cI]
   refine leaves_cons (by cases pc<;>simp[ew]) hinv (CallsD.mono (zli fN dP dw eZ hx We h.cY fB hp) λe u' w' he=>?_)
   obtain⟨cv,g',rfl,rfl,hA⟩:=he;have hrel:=h.call hd hA;have Jw:Rel B g' ⟨env,H1,lk,df⟩ ⟨tmps,dc⟩ w' :=
    {cY:=hrel.cY,len:=hrel.len,env:=hrel.env,dO:=hrel.dO,n0:=hrel.n0,bG:=hrel.bG,d_:=hrel.d_,fr:=hrel.fr,lV:=hrel.lV,n8:=hrel.n8,cW:=hrel.cW,eF:=by have:=hrel.eF;simpa using this,defers:=λj x q hx hq=>hrel.defers (j+1) x q (by simpa using hx) (by simpa using hq),marks:=λd hd D hD=>hrel.marks d (dR _ hd) D hD,nq:=(List.pairwise_cons.1 hrel.nq).2 }
   have GD:od g' H1.az.length iI pc:=hp.le hA.fr.le hA.len;cases r with
   | true =>
    simp only[zgN];exact S4 fN dP dw eZ hd rj df none none env H1 lk g' dc w' Jw trivial oe hR
   | false =>
    simp only[zfw];exact S4 fN dP dw eZ hd rj df iI pc env H1 lk g' dc w' Jw GD oe hR
end
section
variable{P:aQ}{g:Gh}{w:aP}
def Wg(_P:aQ)(uq:aB->Bool):Prop:=∀gf back (ty:Nat),ty<1048576->uq (Gr gf back ty)=true->False
structure nW(P:aQ)(gl:Gl):Prop where
 pure:∀f args v,gl.hk f args=some v->∀d H g w bx l,iu P gl g->q_ g H.az w->eP g H.az.length args bx->Calls P f bx w (fS d H g w l (.ret v) H)
 heap:∀n f args H out H',gl.fG n f args H=some (out,H')->∀d,2 * (n+1)<=d->∀g w bx l,iu P gl g->q_ g H.az w->eP g H.az.length args bx->Calls P f bx w (fS d H g w l out H')
 it:Wg P gl.uq
theorem zgO{gl:Gl}(fN:yA P)(dP:w8 P)(DX:nW P gl)(eZ:∀n B,Nz P { P,gl,call:=zj P gl n,uq:=gl.uq } B/\NA P { P,gl,call:=zj P gl n,uq:=gl.uq } B):∀n,xA P gl (zj P gl n) (2 * n)
 | 0=>λf args H out H' hc=>by simp[zj] at hc
 | n+1=>by
  have ih:=zgO fN dP DX eZ n;intro f args H out H' hc g w bx l rj hw ha;obtain⟨bs,es⟩:=H;simp only[zj] at hc;split at hc
  next v hv=>simp only[br,cg] at hc;obtain⟨rfl,rfl⟩:=hc;exact DX.pure f args v hv _ _ g w bx l rj hw ha
  split at hc
  next r hv=>simp only[br] at hc;subst hc;exact DX.heap n f args _ out H' hv _ (dI _) g w bx l rj hw ha
  split at hc<;>try (cases hc;done)
  rename_i fn hf;split at hc<;>try (cases hc;done)
  rename_i body hb;simp only[qz,eE] at hc;split at hc<;>try (cases hc;done)
  rename_i ex env H1 lk df hx;split at hc<;>try (cases hc;done)
  rename_i iI A0;have Lp:2 * n<2 * (n+1):=by omega
  have Az:2 * n+1<2 * (n+1):=by omega
  have iW:oD P { P,gl,call:=zj P gl n,uq:=gl.uq } ⟨2 * (n+1),bs,g,w,[]⟩:=⟨rfl,fN,dP,rj,2 * n,Lp,ih⟩;have h0:=zgL (H:=⟨bs,es⟩) hw ha (2 * (n+1)) fn.ntmps;refine calls_of_wp_defers hf hb (Code.wp_mono ?_ (zi3 iW (eZ n _).1 (eZ n _).2 n body _ _ ex g _ w hx h0));rintro e a' w' ⟨g',h1,h2⟩
  have O6:∃pc,od g' H1.az.length iI pc/\∀R,Leaves P fn a'.tmps R a'.defers (ew pc false) w'->bodyPostD P fn R e a' w':=by
   cases ex<;>cases e<;>simp only[AR,br,reduceCtorEq] at A0<;>try (exact h2.elim)
   ·subst A0;exact⟨none,trivial,λR h=>h⟩
   ·subst A0;exact⟨none,trivial,λR h=>h⟩
   ·subst A0;obtain⟨cv,rfl,h3,h4⟩:=h2;exact⟨some cv,⟨h3,h4⟩,λR h=>h⟩
  obtain⟨pc,hp,O7⟩:=O6;refine O7 _ ?_;split at hc<;>try (cases hc;done)
  ·rename_i v H2 Wh;rw[kV] at hc;simp only[br,cg] at hc;obtain⟨rfl,rfl⟩:=hc;refine S4 (B:=⟨2 * (n+1),bs,g,w,[]⟩) fN dP ih (eZ n) Az rj df iI pc env H1 lk g' a'.defers w' h1 hp Wh λg2 ND w2 h3 h4=>?_;cases ND with
   | none=>exact h4.elim
   | some cv =>
    obtain⟨f1,f2,f3⟩:=V6 hw h3 h4.2;exact⟨v,cv,g2,rfl,rfl,f1,h4.1,f2⟩
  ·rename_i H2 Wh;split at hc<;>try (cases hc;done)
   rename_i vs Jx;rw[qp,kV] at hc;simp only[br,cg] at hc;obtain⟨rfl,rfl⟩:=hc;refine S4 (B:=⟨2 * (n+1),bs,g,w,[]⟩) fN dP ih (eZ n) Az rj df iI pc env H1 lk g' a'.defers w' h1 hp Wh λg2 ND w2 h3 h4=>?_;cases ND with
   | some cv=>exact h4.elim
   | none =>
    obtain⟨g3,s3,cv,r1,r2,r3,r4,r5,r6⟩:=zdn h3 Jx l;have r5':=r5;obtain⟨f1,f2,f3⟩:=V6 (s:=s3) hw r3 (top:=(iZ vs).top) (by rw[r2];exact r6)
    rw[r2] at f1 f2 f3;exact⟨cv,r1,iZ vs,g3,rfl,f1,r4,r5.less f3,f2⟩
end
section
variable{P:aQ}
def fZ(env bI:aD)(xs:List aX):Prop:=∀t,Operand.tmp t∈xs->env[t]?=bI[t]?
theorem fZ.mono{env bI:aD}{xs ys:List aX}(h:fZ env bI xs)(hs:∀x∈ys,x∈xs):fZ env bI ys:=λt ht=>h t (hs _ ht)
theorem fZ.ak{env bI:aD}{xs:List aX}(h:fZ env bI xs):∀x∈xs,Vm.ak env x=Vm.ak bI x:=λx hx=>by
 cases x with
 | tmp t=>simp only[Vm.ak,zg,h t hx]
 | _=>rfl
theorem fZ.av{env bI:aD}{xs:List aX}(h:fZ env bI xs):∀{ys:List aX},(∀y∈ys,y∈xs)->Vm.av env ys=Vm.av bI ys
 | [],_=>rfl
 | y::ys,hy=>by
  simp only[Vm.av,h.ak y (hy y (eH ..)),h.av (ys:=ys) λz hz=>hy z (dR _ hz)]
theorem fZ.cU{env bI:aD}{xs:List aX}(h:fZ env bI xs){x:Option aX}(hx:∀y,x=some y->y∈xs):Vm.cU env x=Vm.cU bI x:=by
 cases x with
 | none=>rfl
 | some y=>simp only[Vm.cU,h.ak y (hx y rfl)]
theorem zcC{env bI:aD}{xs:List aX}(h:fZ env bI xs){place:Nat->Option (Nat×Nat)}:∀{ps:List (Nat×aX)}{cs:aD},(∀p∈ps,p.2∈xs)->xO cs place env ps=xO cs place bI ps
 | [],_,_=>rfl
 | (i,x)::ps,cs,hp=>by
  simp only[xO,h.ak x (hp (i,x) (eH ..))];have ih:=λcs=>zcC h (place:=place) (ps:=ps) (cs:=cs) λp hq=>hp p (dR _ hq);simp only[ih]
theorem zdp{env bI:aD}{xs:List aX}(h:fZ env bI xs){n len:Nat}:∀{ps:List (Nat×aX)}{cs:aD},(∀p∈ps,p.2∈xs)->Ei n len env cs ps=Ei n len bI cs ps
 | [],_,_=>rfl
 | (i,x)::ps,cs,hp=>by
  simp only[Ei,h.ak x (hp (i,x) (eH ..))];have ih:=λcs=>zdp h (n:=n) (len:=len) (ps:=ps) (cs:=cs) λp hq=>hp p (dR _ hq);simp only[ih]
theorem zbw{env bI:aD}{xs:List aX}(h:fZ env bI xs){t:aB}{ps:Array (Nat×aX)}(hp:∀p∈ps.toList,p.2∈xs):ky P t ps env=ky P t ps bI:=by
 unfold ky;simp only[zcC h hp]
theorem zgP{env bI:aD}{gl:Nat->Nat->bX}{o:Oper}{H:Hp}(h:fZ env bI o.op.operands.toList):jf P gl o env H=jf P gl o bI H:=by
 obtain⟨dst,op,type,pos,after,guard⟩:=o;have hp:=h.ak;cases op<;>simp only[Op.operands] at h hp
 case build t ps=>simp only[jf,zbw h (ps:=ps) λp hq=>by simpa using Hg (f:=(·.2)) hq]
 case buildSlice t n ps=>simp only[jf,λa b c=>zdp h (n:=a) (len:=b) (cs:=c) (ps:=ps.toList) λp hq=>by simpa using Hg (f:=(·.2)) hq]
 case makeFunc fn first cap =>
  simp only[jf,h.av (ys:=first.toList) λy hy=>by simp at hy ⊢;exact .inl hy,h.av (ys:=cap.toList) λy hy=>by simp at hy ⊢;exact .inr hy]
 case slice t x lo hi mx =>
  simp only[jf,hp x (by simp),h.cU (x:=lo) λy hy=>by subst hy;simp,h.cU (x:=hi) λy hy=>by subst hy;simp]
  cases mx with
  | none=>rfl
  | some m=>simp only[hp m (by simp)]
 all_goals first
  |rfl
  |(simp[jf,hp];done)
end
section
variable{P:aQ}
def kn(env:aD):aX->aD
 | .tmp t=>match env[t]? with
  | some (.sl sz xs (.yes _))=>env.set t (.sl sz xs .no)
  | _=>env
 | _=>env
def nX(env:aD):Option aX->aD
 | some x=>kn env x
 | none=>env
theorem zeE{env:aD}{t sz:Nat}{xs:aD}{e:aB}(h:env[t]?=some (.sl sz xs (.yes e))):kn env (.tmp t)=env.set t (.sl sz xs .no):=by
 simp only[kn,h]
theorem O8{env:aD}{t:Nat}{v:V}(h:env[t]?=some v)(hn:∀sz xs e,v≠.sl sz xs (.yes e)):kn env (.tmp t)=env:=by
 simp only[kn,h];split
 next h1=>cases h1;exact(hn _ _ _ rfl).elim
 ·rfl
theorem zgQ{env:aD}{t sz:Nat}{xs:aD}{e:aB}(h:env[t]?=some (.sl sz xs (.yes e))):take env (.tmp t)=some (.sl sz xs (.yes e),env.set t (.sl sz xs .no)):=by
 simp only[take,zg,h,fm]
theorem zi5{env:aD}{t:Nat}{v:V}(h:env[t]?=some v)(hn:∀sz xs e,v≠.sl sz xs (.yes e)):take env (.tmp t)=some (aW v,env):=by
 cases v with
 | sl sz xs o=>cases o with
  | yes e=>exact(hn _ _ _ rfl).elim
  | _=>simp only[take,zg,h]
 | _=>simp only[take,zg,h]
theorem wA{env bI:aD}{x:aX}(h:fZ env bI [x]){v:V}{e:aD}(ht:take env x=some (v,e)):e=kn env x/\take bI x=some (v,kn bI x):=by
 cases x with
 | tmp t =>
  have ha:=h t (by simp)
  cases hv:env[t]? with
  | none=>simp[take,zg,hv] at ht
  | some v0 =>
   have Gu:bI[t]?=some v0:=by rw[<- ha,hv]
   by_cases hy:∃sz xs e,v0=.sl sz xs (.yes e)
   ·obtain⟨sz,xs,e',rfl⟩:=hy;rw[zgQ hv] at ht;cases ht;exact⟨(zeE hv).symm,by rw[zgQ Gu,zeE Gu]⟩
   ·have hn:∀sz xs e,v0≠.sl sz xs (.yes e):=λsz xs e h=>hy ⟨sz,xs,e,h⟩;rw[zi5 hv hn] at ht;cases ht;exact⟨(O8 hv hn).symm,by rw[zi5 Gu hn,O8 Gu hn]⟩
 | const c =>
  simp only[take,ak,m9,cg] at ht;obtain⟨u,hu,rfl,rfl⟩:=ht;exact⟨rfl,by simp[take,ak,hu,kn]⟩
 | global k =>
  simp only[take,ak,aS,br,cg] at ht;obtain⟨rfl,rfl⟩:=ht;exact⟨rfl,by simp[take,ak,kn]⟩
 | func f =>
  simp only[take,ak,aS,br,cg] at ht;obtain⟨rfl,rfl⟩:=ht;exact⟨rfl,by simp[take,ak,kn]⟩
end
section
variable{P:aQ}
theorem zet{cx:Cx}{b:Builtin}{ts:Array aB}{args:rL}{env bI:aD}{H:Hp}{xs:List aX}{r:OR}{e:aD}{k:Option aX}(h:fZ env bI xs)(hx:∀x∈args.toList,x∈xs)
  (hb:cx.builtin b ts args env H=some (r,e)) (hk:k=match b with|.append=>args.toList.head?|_=>none):e=nX env k/\cx.builtin b ts args bI H=some (r,nX bI k):=by
 have hp:=h.ak;unfold Cx.builtin at hb ⊢;split at hb
 ·rename_i x t ha ht hb;have e1:=hp x (hx x (by simp[ha]))
  simp only[<- e1] at hk ⊢;subst hk;simp only[Option.bind_eq_bind,eG,br,cg] at hb;obtain⟨u,h1,v,h2,h3,rfl⟩:=hb;refine⟨rfl,?_⟩;simp[h1,h2,h3,nX]
 ·rename_i x y t u ha ht hb;have e1:=hp y (hx y (by simp[ha]))
  simp only[ha,<- e1] at hk ⊢;subst hk;split at hb<;>try (cases hb;done)
  rename_i hg;rw[if_neg hg];simp only[Option.bind_eq_bind,eG,br,cg] at hb;obtain⟨y',h1,⟨v,e'⟩,h2,w,h3,h4,rfl⟩:=hb;obtain⟨t1,t2⟩:=wA (h.mono (xs:=xs) (ys:=[x]) (by simpa using hx x (by simp[ha]))) h2
  refine⟨t1,?_⟩;simp[h1,t2,h3,h4,nX]
 ·rename_i x y ha hb;have e1:=hp x (hx x (by simp[ha]))
  have e2:=hp y (hx y (by simp[ha]))
  simp only[<- e1,<- e2] at hk ⊢;subst hk;simp only[Option.bind_eq_bind,eG] at hb;obtain⟨u,h1,v,h2,h3⟩:=hb;simp only[Option.bind_eq_bind,h1,h2,aT];split at h3<;>simp only[br,reduceCtorEq,cg] at h3;obtain⟨rfl,rfl⟩:=h3;exact⟨rfl,rfl⟩
 ·rename_i x y ha hb;have e1:=hp x (hx x (by simp[ha]))
  have e2:=hp y (hx y (by simp[ha]))
  simp only[<- e1,<- e2] at hk ⊢;subst hk;simp only[Option.bind_eq_bind,eG] at hb;obtain⟨u,h1,v,h2,h3⟩:=hb;simp only[Option.bind_eq_bind,h1,h2,aT];split at h3<;>simp only[br,reduceCtorEq,cg] at h3;obtain⟨rfl,rfl⟩:=h3;exact⟨rfl,rfl⟩
 ·cases hb
theorem zdq{env:aD}{x:aX}{v:V}(h:ak env x=some v)(hn:∀sz xs o,v≠.sl sz xs o):kn env x=env:=by
 cases x with
 | tmp t =>
  simp only[ak,zg] at h;split at h<;>simp only[br,reduceCtorEq] at h;rename_i v0 h0;refine O8 h0 λsz xs e e0=>?_;subst e0;exact hn sz xs .no h.symm
 | _=>rfl
theorem zeu{cx:Cx}{t:aB}{x y:aX}{env bI:aD}{H:Hp}{lk:aN}{df:bO}{r:OR}{s':St}(hx:ak env x=ak bI x)(hy:ak env y=ak bI y)(aC:cx.mL t x y env H lk df=some (r,s')) :
  s'.env=kn env x/\cx.mL t x y bI H lk df=some (r,{ s' with env:=kn bI x }):=by
 unfold Cx.mL at aC ⊢;rw[<- hx,<- hy];simp only[Option.bind_eq_bind,eG] at aC;obtain⟨td,ht,aC⟩:=aC;simp only[Option.bind_eq_bind,ht,aT];split at aC<;>try (cases aC;done)
 simp only[eG] at aC;obtain⟨n,hn,i,hi,z,hz,yv,h1,ys,s6,aC⟩:=aC;simp only[hn,hi,hz,h1,s6,aT];split at aC<;>try (cases aC;done)
 rename_i hc;rw[if_neg hc];simp only[eG] at aC;obtain⟨xv,h2,aC⟩:=aC;simp only[h2,aT];have key:(∀sz xs o,xv≠.sl sz xs o)->kn env x=env/\kn bI x=bI:=λhn=>⟨zdq h2 hn,zdq (hx ▸ h2) hn⟩;split at aC
 ·obtain⟨k1,k2⟩:=key (λ_ _ _ e=>by cases e)
  rw[k1,k2];split at aC
  ·simp only[br,cg] at aC;obtain⟨rfl,rfl⟩:=aC;exact⟨rfl,rfl⟩
  ·split at aC<;>try (cases aC;done)
   rename_i DU;simp only[de,qz,qm,br,cg] at aC;obtain⟨rfl,rfl⟩:=aC;refine⟨rfl,?_⟩;simp only[DU,aF,de,qz,qm]
 ·obtain⟨k1,k2⟩:=key (λ_ _ _ e=>by cases e)
  rw[k1,k2];split at aC<;>try (cases aC;done)
  rename_i h3
  try simp only[h3]
  split at aC<;>try (cases aC;done)
  rename_i h4;rw[if_pos h4];simp only[de,qz,jd,br,cg] at aC ⊢;obtain⟨rfl,rfl⟩:=aC;exact⟨rfl,rfl,rfl⟩
 ·obtain⟨k1,k2⟩:=key (λ_ _ _ e=>by cases e)
  rw[k1,k2];split at aC<;>try (cases aC;done)
  rename_i h3
  try simp only[h3]
  split at aC
  next h4=>rw[if_pos h4];simp only[de,qz,jd,br,cg] at aC ⊢;obtain⟨rfl,rfl⟩:=aC;exact⟨rfl,rfl,rfl⟩
  ·rename_i h4;rw[if_neg h4];split at aC<;>try (cases aC;done)
   rename_i h5
   try simp only[h5]
   split at aC<;>try (cases aC;done)
   rename_i h6;rw[if_pos h6];simp only[de,qz,qm,br,cg] at aC ⊢;obtain⟨rfl,rfl⟩:=aC;exact⟨rfl,rfl,rfl⟩
 ·cases aC
theorem zgR{cx:Cx}{t:aB}{x y:aX}{env bI:aD}{H:Hp}{lk:aN}{df:bO}{r:OR}{s':St}(hx:ak env x=ak bI x)(hy:ak env y=ak bI y)(aC:cx.sk t x y env H lk df=some (r,s')) :
  s'.env=env/\cx.sk t x y bI H lk df=some (r,{ s' with env:=bI }):=by
 unfold Cx.sk at aC ⊢;rw[<- hx,<- hy];simp only[Option.bind_eq_bind,eG] at aC;obtain⟨td,ht,aC⟩:=aC;simp only[Option.bind_eq_bind,ht,aT];split at aC<;>try (cases aC;done)
 simp only[eG] at aC;obtain⟨n,hn,yv,h1,ys,s6,xv,h2,aC⟩:=aC;simp only[hn,h1,s6,h2,aT];split at aC<;>try (cases aC;done)
 split at aC<;>try (cases aC;done)
 rename_i h3
 try simp only[h3]
 split at aC<;>try (cases aC;done)
 rename_i h4;rw[if_pos h4];simp only[de,jd,br,cg] at aC ⊢;obtain⟨rfl,rfl⟩:=aC;exact⟨rfl,rfl,rfl⟩
theorem zfx{cx:Cx}{t:aB}{x:aX}{lo hi:Option aX}{env bI:aD}{H:Hp}{lk:aN}{df:bO}{r:OR}{s':St}(hx:ak env x=ak bI x)(hl:cU env lo=cU bI lo)(hh:cU env hi=cU bI hi)(aC:cx.ot t x lo hi env H lk df=some (r,s')) :
  s'.env=env/\cx.ot t x lo hi bI H lk df=some (r,{ s' with env:=bI }):=by
 unfold Cx.ot at aC ⊢;rw[<- hx,<- hl,<- hh];split at aC<;>try (cases aC;done)
 ·rename_i h1 h2 h3 h4
  try simp only[h1,h2,h3,h4]
  split at aC<;>try (cases aC;done)
  rename_i h5 h6
  try simp only[h5,h6]
  split at aC<;>try (cases aC;done)
  rename_i h7;rw[if_pos h7];simp only[eE,qz,jd,br,cg] at aC ⊢;obtain⟨rfl,rfl⟩:=aC;exact⟨rfl,rfl,rfl⟩
 ·rename_i h1 h2 h3
  try simp only[h1,h2,h3]
  split at aC<;>simp only[br,reduceCtorEq,cg] at aC;rename_i h5
  try simp only[h5]
  obtain⟨rfl,rfl⟩:=aC;exact⟨rfl,rfl⟩
theorem zfy{P:aQ}{t:aB}{x:aX}{lo:Option aX}{env bI e:aD}{v:V}(h:fZ env bI [x])(hl:cU env lo=cU bI lo)(hm:KS P t x lo env=some (v,e)):e=kn env x/\KS P t x lo bI=some (v,kn bI x):=by
 unfold KS at hm ⊢;rw[<- hl];split at hm<;>try (cases hm;done)
 rename_i h1 h2 h3
 try simp only[h1,h3]
 split at hm<;>try (cases hm;done)
 rename_i h4
 try simp only[h4]
 split at hm<;>simp only[br,reduceCtorEq,cg] at hm;rename_i h5;obtain⟨rfl,rfl⟩:=hm;obtain⟨k1,k2⟩:=wA h h2;simp only[k2,h4,h5];exact⟨k1,trivial⟩
theorem zlj{P:aQ}{a b:aB}{x:aX}{env:aD}{r:V×aD}(h:v9 P a b x env=some r):Nat.beq a b=true:=by
 unfold v9 at h;split at h
 next e _=>exact e
 ·cases h
theorem zcD{P:aQ}{a b:aB}{x:aX}{env bI e:aD}{v:V}(h:fZ env bI [x])(hm:v9 P a b x env=some (v,e)):e=kn env x/\v9 P a b x bI=some (v,kn bI x):=by
 unfold v9 at hm ⊢;split at hm<;>try (cases hm;done)
 rename_i h1 h2
 try simp only[h1,h2]
 split at hm<;>simp only[br,reduceCtorEq,cg] at hm;rename_i h3 h4;obtain⟨rfl,rfl⟩:=hm;obtain⟨k1,k2⟩:=wA h h4;simp only[k2,h3];exact⟨k1,trivial⟩
theorem zh4{P:aQ}{a b:aB}{x:aX}{env bI:aD}(h:fZ env bI [x])(hm:v9 P a b x env=none):v9 P a b x bI=none:=by
 cases h2:v9 P a b x bI with
 | none=>rfl
 | some r =>
  obtain⟨v,e⟩:=r;have h':fZ bI env [x]:=λt ht=>(h t ht).symm;rw[(zcD h' h2).2] at hm;cases hm
theorem zeF{P:aQ}{a b:aB}{sz:Nat}{xs:aD}{o:ug}(h:Nat.beq a b=true):vz P a b (.sl sz xs o)=none:=by
 have h':=eU h;subst h';simp only[vz,Option.bind_eq_bind];cases P.underlying a with
 | none=>rfl
 | some d =>
  simp only[aT]
theorem O9{cx : Cx}{takes : bY}{o : Oper}{env bI : aD}{H : Hp}{lk : aN}{df : bO}{r : OR}{s' : St}(h : fZ env bI o.op.operands.toList)(aC : cx.op takes o env H lk df = some (r, s')) :
    s'.env = nX env (kl takes o) /\ cx.op takes o bI H lk df = some (r, { s' with env := nX bI (kl takes o) }) := by
  have Ny := zgP (P := cx.P) (gl := cx.gl) (H := H) h;obtain⟨dst, op, type, pos, after, guard⟩ := o;have hp := h.ak;have read : kl takes ⟨dst, op, type, pos, after, guard⟩ = none -> (match jf cx.P cx.gl ⟨dst, op, type, pos, after, guard⟩ env H with | none => none | some v => some (OR.val v, (⟨env, H, lk, df⟩ : St))) = some (r, s') ->
      s'.env = nX env (kl takes ⟨dst, op, type, pos, after, guard⟩) /\ (match jf cx.P cx.gl ⟨dst, op, type, pos, after, guard⟩ bI H with | none => none | some v => some (OR.val v, (⟨bI, H, lk, df⟩ : St))) = some (r, { s' with env := nX bI (kl takes ⟨dst, op, type, pos, after, guard⟩) }) := by
    intro mb hh;rw[<- Ny, mb];split at hh <;> simp only[br, reduceCtorEq, cg] at hh;rename_i v hv;obtain⟨rfl, rfl⟩ := hh;exact⟨rfl, rfl⟩
  have O_ : (match jf cx.P cx.gl ⟨dst, op, type, pos, after, guard⟩ env H with | none => none | some v => some (OR.val v, (⟨env, H, lk, df⟩ : St))) = some (r, s') ->
      s'.env = env /\ (match jf cx.P cx.gl ⟨dst, op, type, pos, after, guard⟩ bI H with | none => none | some v => some (OR.val v, (⟨bI, H, lk, df⟩ : St))) = some (r, { s' with env := bI }) := by
    intro hh;rw[<- Ny];split at hh <;> simp only[br, reduceCtorEq, cg] at hh;obtain⟨rfl, rfl⟩ := hh;exact⟨rfl, rfl⟩
  cases op
  case pick => exact read rfl aC
  case build => exact read rfl aC
  case buildSlice => exact read rfl aC
  case nilCheck => exact read rfl aC
  case binOp => exact read rfl aC
  case unOp => exact read rfl aC
  case convert c d x =>
    simp only[Cx.op] at aC ⊢;cases hm : v9 cx.P c d x env with
    | some ve =>
      obtain⟨v, e⟩ := ve;simp only[hm, br, cg] at aC;obtain⟨rfl, rfl⟩ := aC;obtain⟨h1, h2⟩ := zcD (h.mono (by simp[Op.operands])) hm
      have s_ := zlj hm;simp only[h2, kl, s_, aF];exact⟨h1, rfl⟩
    | none =>
      simp only[hm] at aC;have Df := zh4 (h.mono (by simp[Op.operands])) hm
      simp only[Df];cases Cn : cx.uq (vd c) with
      | true =>
        simp only[Cn] at aC ⊢;rw[<- hp x (by simp[Op.operands])]
        split at aC <;> simp only[br, reduceCtorEq, cg] at aC;rename_i v hv;obtain⟨rfl, rfl⟩ := aC;cases s_ : Nat.beq c d with
        | false => simp[kl, s_, nX]
        | true =>
          have hq : ∀e2 : aD, (∀t, x = .tmp t -> e2[t]? = env[t]?) -> kn e2 x = e2 := λe2 HW => by
            cases x with
            | tmp t =>
              cases hn : env[t]? with
              | none => simp[kn, HW t rfl, hn]
              | some v0 =>
                refine O8 ((HW t rfl).trans hn) λsz xs e e0 => ?_;subst e0;have : ak env (.tmp t) = some (.sl sz xs .no) := by simp[ak, zg, hn, aW]
                simp only[KR, this, znl, zeF s_, reduceCtorEq] at hv
            | _ => rfl
          have e1 : kn env x = env := hq env λ_ _ => rfl;have e2 : kn bI x = bI := hq bI λt e => (h t (by simp[e, Op.operands])).symm
          simp only[kl, s_, aF, nX, e1, e2];exact⟨trivial, trivial⟩
      | false =>
      simp only[Cn] at aC ⊢;cases s_ : Nat.beq c d with
      | false => exact read (by simp only[kl, s_]; rfl) aC
      | true =>
        have hq : ∀e2, (∀t, x = .tmp t -> e2[t]? = env[t]?) -> kn e2 x = e2 := λe2 HW => by
          cases x with
          | tmp t =>
            cases hn : env[t]? with
            | none => simp[kn, HW t rfl, hn]
            | some v0 =>
              refine O8 ((HW t rfl).trans hn) λsz xs e e0 => ?_;subst e0;have : ak env (.tmp t) = some (.sl sz xs .no) := by simp[ak, zg, hn, aW]
              simp only[jf, this, Option.bind_eq_bind, aT, zeF s_] at aC;cases aC
          | _ => rfl
        have := O_ aC;obtain⟨h1, h2⟩ := this;have e1 : kn env x = env := hq env λ_ _ => rfl;have e2 : kn bI x = bI := hq bI λt e => (h t (by simp[e, Op.operands])).symm
        simp only[kl, s_, aF, nX, e1, e2];exact⟨h1, h2⟩
  case makeInterface => exact read rfl aC
  case makeFunc => exact read rfl aC
  case slice t x lo hi mx =>
    cases mx with
    | some m => exact read rfl aC
    | none =>
      simp only[Cx.op] at aC ⊢;cases hf : xz takes x lo hi with
      | true =>
        simp only[hf] at aC ⊢;split at aC <;> simp only[br, reduceCtorEq, cg] at aC;rename_i v e hv;obtain⟨rfl, rfl⟩ := aC
        obtain⟨k1, k2⟩ := zfy (h.mono (by simp[Op.operands])) (by
          cases lo with
          | none => rfl
          | some z => simp only[cU]; rw[hp z (by simp[Op.operands])]) hv
        simp only[k2, kl, hf, aF];exact⟨k1, rfl⟩
      | false =>
      simp only[hf] at aC ⊢;have hnt : kl takes ⟨dst, .slice t x lo hi none, type, pos, after, guard⟩ = none := by simp[kl, hf]
      cases hu : pN cx.P cx.uq t with
      | false =>
        simp only[hu] at aC;exact read hnt aC
      | true =>
        simp only[hu] at aC;rw[hnt];have ho : ∀y : Option aX, (∀z, y = some z -> z ∈ (Op.slice t x lo hi none).operands.toList) -> cU env y = cU bI y := λy hy => by
          cases y with
          | none => rfl
          | some z => simp only[cU]; rw[hp z (hy z rfl)]
        obtain⟨e1, e2⟩ := zfx (hp x (by simp[Op.operands])) (ho lo λz e => by subst e; simp[Op.operands]) (ho hi λz e => by subst e; simp[Op.operands]) aC
        exact⟨e1, e2⟩
  case fieldAddr => exact read rfl aC
  case field => exact read rfl aC
  case indexAddr => exact read rfl aC
  case index => exact read rfl aC
  case lookup => exact read rfl aC
  case typeAssert => exact read rfl aC
  case extract => exact read rfl aC
  case ready => exact read rfl aC
  case waits => exact read rfl aC
  case sliceToArrayPointer => exact read rfl aC
  case makeChan => exact read rfl aC
  case mapEntry => exact read rfl aC
  case entryStore => exact read rfl aC
  case entry => exact read rfl aC
  case go => exact read rfl aC
  case send => exact read rfl aC
  case recv => exact read rfl aC
  case select => exact read rfl aC
  case assign x =>
    simp only[Cx.op] at aC ⊢;split at aC <;> simp only[br, reduceCtorEq, cg] at aC;rename_i v e ht;obtain⟨rfl, rfl⟩ := aC;obtain⟨t1, t2⟩ := wA (h.mono (by simp[Op.operands])) ht
    simp only[t2];exact⟨t1, rfl⟩
  case box t x =>
    simp only[Cx.op] at aC ⊢;split at aC <;> try (cases aC; done)
    rename_i v e ht;split at aC <;> try (cases aC; done)
    rename_i hk;simp only[qp, de, qm, br, cg] at aC;obtain⟨rfl, rfl⟩ := aC;obtain⟨t1, t2⟩ := wA (h.mono (by simp[Op.operands])) ht
    simp only[t2, hk, qp, de, qm];exact⟨t1, rfl⟩
  case move x =>
    have yes : kl takes ⟨dst, .move x, type, pos, after, guard⟩ = some x -> (match take env x with | none => none | some (v, env) => some (OR.val v, (⟨env, H, lk, df⟩ : St))) = some (r, s') ->
        s'.env = nX env (kl takes ⟨dst, .move x, type, pos, after, guard⟩) /\ (match take bI x with | none => none | some (v, env) => some (OR.val v, (⟨env, H, lk, df⟩ : St))) = some (r, { s' with env := nX bI (kl takes ⟨dst, .move x, type, pos, after, guard⟩) }) := by
      intro mb aC;split at aC <;> simp only[br, reduceCtorEq, cg] at aC;rename_i v e ht;obtain⟨rfl, rfl⟩ := aC;obtain⟨t1, t2⟩ := wA (h.mono (by simp[Op.operands])) ht
      simp only[t2, mb];exact⟨t1, rfl⟩
    cases dst with
    | none => exact read rfl aC
    | some d =>
      cases hb : takes.any (Nat.beq d) with
      | true =>
        simp only[Cx.op, hb] at aC ⊢;exact yes (by simp only[kl, hb, aF]) aC
      | false =>
        simp only[Cx.op, hb] at aC ⊢;exact read (by simp only[kl, hb]; rfl) aC
  case alloc t =>
    simp only[Cx.op] at aC ⊢;split at aC <;> try (cases aC; done)
    rename_i z hz;split at aC <;> try (cases aC; done)
    rename_i hk;simp only[qp, qm, br, cg] at aC;obtain⟨rfl, rfl⟩ := aC;simp only[hk, qp, qm];exact⟨rfl, rfl⟩
  case makeMap t rr =>
    simp only[Cx.op] at aC ⊢;split at aC <;> try (cases aC; done)
    simp only[qm, br, cg] at aC;obtain⟨rfl, rfl⟩ := aC;simp only[qm];exact⟨rfl, rfl⟩
  case range t x =>
    simp only[Op.operands] at hp;simp only[Cx.op] at aC ⊢;rw[<- hp x (by simp)]
    split at aC <;> try (cases aC; done)
    rename_i l h1 h2;simp only[qm, br, cg] at aC;obtain⟨rfl, rfl⟩ := aC;simp only[qm];exact⟨rfl, rfl⟩
  case panic x =>
    simp only[Op.operands] at hp;simp only[Cx.op] at aC ⊢;rw[<- hp x (by simp)]
    split at aC <;> simp only[br, reduceCtorEq, cg] at aC;rename_i t v h1;obtain⟨rfl, rfl⟩ := aC;simp only[];exact⟨rfl, rfl⟩
  case mapUpdate t m k x =>
    simp only[Op.operands] at hp;simp only[Cx.op] at aC ⊢;rw[<- hp m (by simp), <- hp k (by simp), <- hp x (by simp)]
    split at aC <;> try (cases aC; done)
    rename_i b kv v h1 h2 h3
    try simp only[h1, h2, h3]
    split at aC <;> try (cases aC; done)
    rename_i hk;rw[if_neg hk];simp only[qp, eE, jd] at aC ⊢;split at aC <;> try (cases aC; done)
    rename_i es h4
    try simp only[h4]
    split at aC <;> simp only[br, reduceCtorEq, cg] at aC;rename_i iD h5;obtain⟨rfl, rfl⟩ := aC
    try simp only[]
    exact⟨rfl, rfl⟩
  case insert t m k x =>
    simp only[Op.operands] at hp;simp only[Cx.op] at aC ⊢;rw[<- hp m (by simp), <- hp k (by simp), <- hp x (by simp)]
    split at aC <;> try (cases aC; done)
    rename_i b kv v h1 h2 h3
    try simp only[h1, h2, h3]
    split at aC <;> try (cases aC; done)
    rename_i hk;rw[if_neg hk];simp only[qp, eE, jd] at aC ⊢;split at aC <;> try (cases aC; done)
    rename_i es h4
    try simp only[h4]
    split at aC <;> simp only[br, reduceCtorEq, cg] at aC;rename_i iD h5;obtain⟨rfl, rfl⟩ := aC
    try simp only[]
    exact⟨rfl, rfl⟩
  case defer c =>
    simp only[Op.operands] at hp h;simp only[Cx.op] at aC ⊢;split at aC <;> try (cases aC; done)
    rename_i f gE;simp only[Call.operands, gE] at hp h;rw[<- hp f (by simp), <- h.av (ys := c.args.toList) (λy hy => by simp at hy ⊢; exact .inr hy)]
    split at aC <;> simp only[br, reduceCtorEq, cg] at aC;rename_i f' first cap args h1 h2
    obtain⟨rfl, rfl⟩ := aC;simp only[];exact⟨rfl, rfl⟩
  case makeSlice t l c =>
    simp only[Op.operands] at hp;simp only[Cx.op] at aC ⊢;rw[<- hp l (by simp), <- hp c (by simp)]
    split at aC <;> try (cases aC; done)
    rename_i e k1 l' k2 c' h1 h2 h3
    try simp only[h1, h2, h3]
    split at aC <;> try (cases aC; done)
    rename_i n i z g1 g2 g3
    try simp only[g1, g2, g3]
    split at aC <;> try (cases aC; done)
    rename_i g4;rw[if_neg g4];split at aC
    · rename_i g5
      try simp only[g5]
      simp only[de, qz, qm, br, cg] at aC ⊢;obtain⟨rfl, rfl⟩ := aC;exact⟨rfl, rfl, rfl⟩
    rename_i g5'
    try simp only[g5']
    split at aC
    · rename_i g5
      rw[if_pos g5];simp only[br, cg] at aC;obtain⟨rfl, rfl⟩ := aC;exact⟨rfl, rfl⟩
    · rename_i g5
      rw[if_neg g5];split at aC <;> try (cases aC; done)
      rename_i g6;rw[if_pos g6];simp only[de, qm, br, cg] at aC ⊢;obtain⟨rfl, rfl⟩ := aC;exact⟨rfl, rfl, rfl⟩
  case next it b =>
    cases b with
    | false => exact read rfl aC
    | true =>
      simp only[Op.operands] at hp;simp only[Cx.op] at aC ⊢;rw[<- hp it (by simp)]
      split at aC <;> try (cases aC; done)
      rename_i bb h1
      try simp only[h1]
      split at aC <;> try (cases aC; done)
      rename_i l pos h2
      try simp only[h2]
      split at aC
      · rename_i g5
        rw[if_pos g5];simp only[qz, jd, br, cg] at aC ⊢;obtain⟨rfl, rfl⟩ := aC;exact⟨rfl, rfl, rfl⟩
      · rename_i g5
        rw[if_neg g5];simp only[br, cg] at aC ⊢;obtain⟨rfl, rfl⟩ := aC;exact⟨rfl, rfl, rfl⟩
  case store t a x =>
    simp only[Op.operands] at hp h;simp only[Cx.op] at aC ⊢;rw[<- hp a (by simp)]
    split at aC <;> try (cases aC; done)
    · rename_i b off h1
      try simp only[h1]
      split at aC <;> try (cases aC; done)
      rename_i v e n cs ty h2 h3 h4;obtain⟨t1, t2⟩ := wA (h.mono (by simp)) h2
      try simp only[t2, h3, h4]
      simp only[qp, de, eE, jd] at aC ⊢;split at aC <;> try (cases aC; done)
      rename_i g5;rw[if_pos g5];simp only[br, cg] at aC ⊢;obtain⟨rfl, rfl⟩ := aC;exact⟨t1, rfl, rfl⟩
    · rename_i b u k h1
      try simp only[h1]
      split at aC <;> try (cases aC; done)
      rename_i v e n eI sz cs ty h2 h3 h4;obtain⟨t1, t2⟩ := wA (h.mono (by simp)) h2
      try simp only[t2, h3, h4]
      simp only[qp, eE, jd] at aC ⊢;split at aC <;> try (cases aC; done)
      rename_i g5;rw[if_pos g5];simp only[br, cg] at aC ⊢;obtain⟨rfl, rfl⟩ := aC;exact⟨t1, rfl, rfl⟩
  case load t a =>
    have yes : kl takes ⟨dst, .load t a, type, pos, after, guard⟩ = none := rfl;have hpa : ak env a = ak bI a := hp a (by simp[Op.operands])
    cases dst with
    | none => exact read yes aC
    | some d =>
      cases hb : takes.any (Nat.beq d) with
      | false =>
        simp only[Cx.op, hb] at aC ⊢;exact read yes aC
      | true =>
        simp only[Cx.op, hb] at aC ⊢;rw[<- hpa];split at aC <;> try (cases aC; done)
        rename_i b off h1 h2
        try simp only[h1, h2]
        split at aC <;> try (cases aC; done)
        rename_i cs ty h3
        try simp only[h3]
        split at aC <;> try (cases aC; done)
        · rename_i sz xs e h4
          try simp only[h4]
          simp only[fm, jd, br, cg] at aC ⊢;obtain⟨rfl, rfl⟩ := aC;exact⟨rfl, rfl, rfl⟩
        · rename_i h4
          try simp only[h4]
          simp only[br, cg] at aC ⊢;obtain⟨rfl, rfl⟩ := aC;exact⟨rfl, rfl, rfl⟩
        · rename_i h4
          try simp only[h4]
          simp only[br, cg] at aC ⊢;obtain⟨rfl, rfl⟩ := aC;exact⟨rfl, rfl, rfl⟩
  case call c =>
    simp only[Op.operands] at hp h;simp only[Cx.op] at aC ⊢;cases gE : c.callee with
    | value f =>
      simp only[gE] at aC ⊢;simp only[Call.operands, gE] at hp h;rw[<- hp f (by simp), <- h.av (ys := c.args.toList) (λy hy => by simp at hy ⊢; exact .inr hy)]
      split at aC <;> try (cases aC; done)
      rename_i f' args h1 h2
      try simp only[h1, h2]
      split at aC <;> simp only[br, reduceCtorEq, cg] at aC;rename_i r' H' h3;obtain⟨rfl, rfl⟩ := aC
      try simp only[]
      refine⟨?_, ?_⟩ <;> simp[kl, gE, nX]
    | invoke rc m =>
      simp only[gE] at aC ⊢;simp only[Call.operands, gE] at hp h;rw[<- hp rc (by simp), <- h.av (ys := c.args.toList) (λy hy => by simp at hy ⊢; exact .inr hy)]
      split at aC <;> try (cases aC; done)
      rename_i f' args h1 h2
      try simp only[h1, h2]
      split at aC <;> simp only[br, reduceCtorEq, cg] at aC;rename_i r' H' h3;obtain⟨rfl, rfl⟩ := aC
      try simp only[]
      refine⟨?_, ?_⟩ <;> simp[kl, gE, nX]
    | builtin b =>
      simp only[gE] at aC ⊢;simp only[Call.operands, gE] at hp h;have plain : (match cx.builtin b c.argTypes c.args env H with | none => none | some (r, env) => some (r, (⟨env, H, lk, df⟩ : St))) = some (r, s') ->
          s'.env = nX env (kl takes ⟨dst, .call c, type, pos, after, guard⟩) /\ (match cx.builtin b c.argTypes c.args bI H with | none => none | some (r, env) => some (r, (⟨env, H, lk, df⟩ : St))) = some (r, { s' with env := nX bI (kl takes ⟨dst, .call c, type, pos, after, guard⟩) }) := by
        intro aC;split at aC <;> simp only[br, reduceCtorEq, cg] at aC;rename_i r' e h1;obtain⟨rfl, rfl⟩ := aC;have hg : e = nX env (kl takes ⟨dst, .call c, type, pos, after, guard⟩) /\ cx.builtin b c.argTypes c.args bI H = some (r', nX bI (kl takes ⟨dst, .call c, type, pos, after, guard⟩)) := by
          exact zet (xs := c.args.toList) (h.mono λy hy => by simpa using hy) (λy hy => hy) h1 (by cases b <;> simp[kl, gE])
        obtain⟨rfl, hg⟩ := hg;refine⟨rfl, ?_⟩;simp only[hg]
      split at aC
      · rename_i x y t ts fB Cp
        obtain⟨e1, e2⟩ := zgR (hp x (by have : x ∈ c.args.toList := by rw[fB]; simp
                                        simpa using this)) (hp y (by have : y ∈ c.args.toList := by rw[fB]; simp
                                                                     simpa using this)) aC
        have : kl takes ⟨dst, .call c, type, pos, after, guard⟩ = none := by simp[kl, gE]
        rw[this];exact⟨e1, e2⟩
      · rename_i x y t u fB Cp
        have : kl takes ⟨dst, .call c, type, pos, after, guard⟩ = some x := by simp[kl, gE, fB]
        split at aC
        · rename_i hu
          split at aC <;> try (cases aC; done)
          rename_i Lc
          obtain⟨e1, e2⟩ := zeu (hp x (by have : x ∈ c.args.toList := by rw[fB]; simp
                                          simpa using this)) (hp y (by have : y ∈ c.args.toList := by rw[fB]; simp
                                                                       simpa using this)) aC
          simp only[Lc, aF, this, nX];exact⟨e1, e2⟩
        · exact plain aC
      · exact plain aC
end
section
variable{P:aQ}
theorem Cs:∀{a b:bN},nQ a b=true->a=b
 | [],[],_=>rfl
 | [],_::_,h=>by simp[nQ] at h
 | _::_,[],h=>by simp[nQ] at h
 | x::xs,y::ys,h=>by
  simp only[nQ,eo] at h;rw[eU h.1,Cs h.2]
mutual
theorem V.iO:∀{a b:V},V.same a b=true->a=b
 | .bool a,b,h=>by cases b<;>simp[V.same] at h<;>simp[h]
 | .int k n,b,h=>by cases b<;>simp[V.same] at h;simp[h]
 | .str a,b,h=>by cases b<;>simp[V.same] at h;simp[Cs h]
 | .fR,b,h=>by cases b<;>simp[V.same] at h;rfl
 | .ptr x y,b,h=>by cases b<;>simp[V.same] at h;simp[h]
 | .fq x y,b,h=>by cases b<;>simp[V.same] at h;simp[h]
 | .obj x,b,h=>by cases b<;>simp[V.same] at h;simp[h]
 | .vp xs,b,h=>by cases b<;>simp[V.same] at h;rw[fT h]
 | .aG,b,h=>by cases b<;>simp[V.same] at h;rfl
 | .sl z xs o,b,h=>by cases b<;>simp[V.same] at h;rw[h.1,fT h.2.2,h.2.1]
 | .sr x y z u,b,h=>by cases b<;>simp[V.same] at h;simp[h]
 | .mo,b,h=>by cases b<;>simp[V.same] at h;rfl
 | .map x,b,h=>by cases b<;>simp[V.same] at h;simp[h]
 | .oY,b,h=>by cases b<;>simp[V.same] at h;rfl
 | .fn f as cs,b,h=>by
  cases b<;>try (simp[V.same] at h;done)
  rename_i f' as' cs';simp only[V.same,eo] at h;obtain⟨⟨h1,h2⟩,h3⟩:=h;split at h1
  next e=>rw[e,fT h2,fT h3]
  ·cases h1
 | .bM,b,h=>by cases b<;>simp[V.same] at h;rfl
 | .ec t v,b,h=>by cases b<;>simp[V.same] at h;rw[h.1,V.iO h.2]
 | .agg xs,b,h=>by cases b<;>simp[V.same] at h;rw[fT h]
 | .bq xs,b,h=>by cases b<;>simp[V.same] at h;rw[fT h]
 | .dW,b,h=>by cases b<;>simp[V.same] at h;rfl
 | .dD x y z,b,h=>by cases b<;>simp[V.same] at h;simp[h]
 | .gj x y z,b,h=>by cases b<;>simp[V.same] at h;simp[h]
theorem fT:∀{a b:aD},eJ a b=true->a=b
 | [],[],_=>rfl
 | [],_::_,h=>by simp[eJ] at h
 | _::_,[],h=>by simp[eJ] at h
 | x::xs,y::ys,h=>by
  simp only[eJ,eo] at h;rw[V.iO h.1,fT h.2]
end
theorem A1:∀(a:bN),nQ a a=true
 | []=>rfl
 | x::xs=>by simp[nQ,A1 xs]
mutual
theorem V.cN:∀(a:V),V.same a a=true
 | .bool a=>by simp[V.same]
 | .int k n=>by simp[V.same]
 | .str a=>by simp[V.same,A1]
 | .fR=>rfl
 | .ptr x y=>by simp[V.same]
 | .fq x y=>by simp[V.same]
 | .obj x=>by simp[V.same]
 | .vp xs=>by simp[V.same,dh xs]
 | .aG=>rfl
 | .sl z xs o=>by simp[V.same,dh xs]
 | .sr x y z u=>by simp[V.same]
 | .mo=>rfl
 | .map x=>by simp[V.same]
 | .oY=>rfl
 | .fn f as cs=>by simp[V.same,dh as,dh cs]
 | .bM=>rfl
 | .ec t v=>by simp[V.same,V.cN v]
 | .agg xs=>by simp[V.same,dh xs]
 | .bq xs=>by simp[V.same,dh xs]
 | .dW=>rfl
 | .dD x y z=>by simp[V.same]
 | .gj x y z=>by simp[V.same]
theorem dh:∀(a:aD),eJ a a=true
 | []=>rfl
 | x::xs=>by simp[eJ,V.cN x,dh xs]
end
theorem Lq(m i:Nat):bit m i=m.testBit i:=by
 unfold bit;rw[Nat.testBit_eq_decide_div_mod_eq];show Nat.beq ((m >>> i) % 2) 1=_;rw[Nat.shiftRight_eq_div_pow];cases h:Nat.beq (m / 2 ^ i % 2) 1 with
 | true=>simp[eU h]
 | false=>have:=Nat.ne_of_beq_eq_false h;simp;omega
theorem w9(a b i:Nat):bit (Nat.lor a b) i=(bit a i || bit b i):=by
 simp only[Lq];exact Ar a b i
theorem yc(k i:Nat):bit (Nat.pow 2 k) i=decide (k=i):=by
 rw[Lq];exact EP
theorem zgS{a b i:Nat}(h:Nat.beq (Nat.land a b) 0=true)(ha:bit a i=true)(hb:bit b i=true):False:=by
 have h1:a &&& b=0:=eU h;have h2:(a &&& b).testBit i=(a.testBit i && b.testBit i):=Nat.testBit_and a b i;rw[Lq] at ha hb;rw[h1,ha,hb] at h2;simp at h2
theorem yC(i:Nat):bit 0 i=false:=by rw[Lq];simp
theorem vf{t:Nat}:∀{xs:List aX},Operand.tmp t∈xs->bit (gk xs) t=true
 | .tmp u::xs,h=>by
  simp only[gk,w9,yc,tn,decide_eq_true_eq];rcases dH.1 h with h|h
  ·cases h;exact .inl rfl
  ·exact .inr (vf h)
 | .const _::xs,h=>by
  simp only[gk];rcases dH.1 h with h|h
  ·cases h
  ·exact vf h
 | .global _::xs,h=>by
  simp only[gk];rcases dH.1 h with h|h
  ·cases h
  ·exact vf h
 | .func _::xs,h=>by
  simp only[gk];rcases dH.1 h with h|h
  ·cases h
  ·exact vf h
theorem zcE{j m:Nat}:∀{rs:List Rec},maskAt rs j=some m->∃q∈rs,q.idx=j/\q.m=m
 | [],h=>by simp[maskAt] at h
 | r::rs,h=>by
  simp only[maskAt] at h;split at h
  next hb=>cases h;exact⟨r,eH ..,eU hb,rfl⟩
  ·obtain⟨q,h1,h2⟩:=zcE h;exact⟨q,dR _ h1,h2⟩
theorem Wi{rs:List Rec}:∀{es:List Edge}{m:Nat},wx rs es=some m->(∀e∈es,Region.binds .any e=true->∃q∈rs,q.idx=e.on) /\
  ∀i,bit m i=true->∃e∈es,Region.binds .any e=true/\(e.on=i\/∃q∈rs,q.idx=e.on/\bit q.m i=true)
 | [],m,h=>by
  simp only[wx,br] at h;subst h;exact⟨λe he=>by simp at he,λi hi=>by rw[yC] at hi;cases hi⟩
 | e::es,m,h=>by
  simp only[wx] at h;split at h
  ·rename_i hb;obtain⟨h1,h2⟩:=Wi h;refine⟨λe' he cZ=>?_,λi hi=>?_⟩
   ·rcases dH.1 he with rfl|he
    ·rw[hb] at cZ;cases cZ
    ·exact h1 e' he cZ
   ·obtain⟨e',he,r⟩:=h2 i hi;exact⟨e',dR _ he,r⟩
  ·rename_i hb;split at h<;>try (cases h;done)
   rename_i m1 ur;split at h<;>try (cases h;done)
   rename_i k hk;cases h;obtain⟨q,hq,HX,hqm⟩:=zcE ur;obtain⟨h1,h2⟩:=Wi hk;refine⟨λe' he cZ=>?_,λi hi=>?_⟩
   ·rcases dH.1 he with rfl|he
    ·exact⟨q,hq,HX⟩
    ·exact h1 e' he cZ
   ·simp only[w9,yc,tn,decide_eq_true_eq] at hi;rcases hi with hi|hi|hi
    ·obtain⟨e',he,r⟩:=h2 i hi;exact⟨e',dR _ he,r⟩
    ·exact⟨e,eH ..,hb,.inr ⟨q,hq,HX,by rw[hqm];exact hi⟩⟩
    ·exact⟨e,eH ..,hb,.inl hi⟩
theorem yd{cx:Cx}{takes:bY}{o:Oper}{env:aD}{H:Hp}{lk:aN}{df:bO}{r:OR}{s':St}(hn:q9 cx.P cx.uq takes o=false)(aC:cx.op takes o env H lk df=some (r,s')) :
  ∃v,r=.val v/\s'=⟨nX env (kl takes o),H,lk,df⟩/\∀AA AB,cx.op takes o env H AA AB=some (.val v,⟨nX env (kl takes o),H,AA,AB⟩):=by
 have i_:=(O9 (bI:=env) (λt _=>rfl) aC).1
 suffices h:∃v e,r=.val v/\s'=⟨e,H,lk,df⟩/\∀AA AB,cx.op takes o env H AA AB=some (.val v,⟨e,H,AA,AB⟩) by
  obtain⟨v,e,h1,h2,h3⟩:=h;rw[h2] at i_;simp only at i_;subst i_;exact⟨v,h1,h2,h3⟩
 have read:(match jf cx.P cx.gl o env H with|none=>none|some v=>some (OR.val v,(⟨env,H,lk,df⟩:St)))=some (r,s')->∃v e,r=.val v/\s'=⟨e,H,lk,df⟩/\∀AA AB,(match jf cx.P cx.gl o env H with|none=>none|some v=>some (OR.val v,(⟨env,H,AA,AB⟩:St)))=some (.val v,⟨e,H,AA,AB⟩):=by
  intro hh;split at hh<;>simp only[br,reduceCtorEq,cg] at hh;rename_i v hv;obtain⟨rfl,rfl⟩:=hh;exact⟨v,env,rfl,rfl,λ_ _=>rfl⟩
 have mv:∀x,(match take env x with|none=>none|some (v,env)=>some (OR.val v,(⟨env,H,lk,df⟩:St)))=some (r,s')->∃v e,r=.val v/\s'=⟨e,H,lk,df⟩/\∀AA AB,(match take env x with|none=>none|some (v,env)=>some (OR.val v,(⟨env,H,AA,AB⟩:St)))=some (.val v,⟨e,H,AA,AB⟩):=by
  intro x hh;split at hh<;>simp only[br,reduceCtorEq,cg] at hh;rename_i v e hv;obtain⟨rfl,rfl⟩:=hh;exact⟨v,e,rfl,rfl,λ_ _=>rfl⟩
 obtain⟨dst,op,type,pos,after,guard⟩:=o;cases op<;>simp only[q9,OF] at hn
 case load t a =>
  cases dst with
  | none=>exact read aC
  | some d =>
   simp only at hn;simp only[Cx.op,hn] at aC ⊢;exact read aC
 case move x =>
  cases dst with
  | none=>exact read aC
  | some d =>
   cases hb:takes.any (Nat.beq d) with
   | true =>
    simp only[Cx.op,hb] at aC ⊢;exact mv x aC
   | false =>
    simp only[Cx.op,hb] at aC ⊢;exact read aC
 case assign x =>
  simp only[Cx.op] at aC ⊢;exact mv x aC
 case slice t x lo hi mx =>
  cases mx with
  | some m=>exact read aC
  | none =>
   simp only at hn;simp only[Cx.op,hn] at aC ⊢;cases hf:xz takes x lo hi with
   | false =>
    simp only[hf] at aC ⊢;exact read aC
   | true =>
    simp only[hf] at aC ⊢;split at aC<;>simp only[br,reduceCtorEq,cg] at aC;rename_i v e hv;obtain⟨rfl,rfl⟩:=aC;exact⟨v,e,rfl,rfl,λ_ _=>rfl⟩
 case call c =>
  cases gE:c.callee<;>simp only[gE,OF] at hn;rename_i bi;have Fc:∀lk df,cx.op takes ⟨dst,.call c,type,pos,after,guard⟩ env H lk df=(match cx.builtin bi c.argTypes c.args env H with|none=>none|some (r,env)=>some (r,(⟨env,H,lk,df⟩:St))):=by
   intro lk df;simp only[Cx.op,gE];split
   ·simp at hn
   next x y t u fB Cp=>simp only[Cp] at hn;simp only[hn];cases cx.builtin .append c.argTypes c.args env H<;>rfl
   ·rfl
  simp only[Fc] at aC ⊢;clear Fc;split at aC<;>simp only[br,reduceCtorEq,cg] at aC;rename_i r' e h1;obtain⟨rfl,rfl⟩:=aC;have:∃v,r'=.val v:=by
   unfold Cx.builtin at h1;split at h1<;>try (cases h1;done)
   ·simp only[Option.bind_eq_bind,eG,br,cg] at h1;obtain⟨u,_,v,_,h3,rfl⟩:=h1;exact⟨_,h3.symm⟩
   ·split at h1<;>try (cases h1;done)
    simp only[Option.bind_eq_bind,eG,br,cg] at h1;obtain⟨y',_,⟨v,e'⟩,_,w,_,h4,rfl⟩:=h1;exact⟨_,h4.symm⟩
   all_goals
    simp only[Option.bind_eq_bind,eG] at h1;obtain⟨u,_,v,_,h3⟩:=h1;split at h3<;>simp only[br,reduceCtorEq,cg] at h3;exact⟨_,h3.1.symm⟩
  obtain⟨v,rfl⟩:=this
  try simp only[h1]
  exact⟨v,e,rfl,rfl,λ_ _=>rfl⟩
 case convert c d x =>
  simp only[Cx.op] at aC ⊢;split at aC
  next v e hv=>simp only[br,cg] at aC;obtain⟨rfl,rfl⟩:=aC;exact⟨v,e,rfl,rfl,λ_ _=>rfl⟩
  ·split at aC
   ·split at aC<;>simp only[br,reduceCtorEq,cg] at aC;rename_i v hv;obtain⟨rfl,rfl⟩:=aC;exact⟨v,env,rfl,rfl,λ_ _=>rfl⟩
   ·exact read aC
 all_goals exact read aC
theorem znr{cx:Cx}{takes:bY}{o:Oper}{env:aD}{H H2:Hp}{lk:aN}{df:bO}{v:V}{s':St}(hn:q9 cx.P cx.uq takes o=false)(hf:kU cx.P cx.uq o=false)(aC:cx.op takes o env H lk df=some (.val v,s')) :
  ∀AA AB,∃s2,cx.op takes o env H2 AA AB=some (.val v,s2):=by
 intro AA AB;have read:jf cx.P cx.gl o env H2=jf cx.P cx.gl o env H->(match jf cx.P cx.gl o env H with|none=>none|some v=>some (OR.val v,(⟨env,H,lk,df⟩:St)))=some (.val v,s')->∃s2,(match jf cx.P cx.gl o env H2 with|none=>none|some v=>some (OR.val v,(⟨env,H2,AA,AB⟩:St)))=some (.val v,s2):=by
  intro e hh;rw[e];split at hh<;>simp only[br,reduceCtorEq,cg] at hh;rename_i u hv;obtain⟨h1,rfl⟩:=hh;cases h1;exact⟨_,rfl⟩
 have mv:∀x,(match take env x with|none=>none|some (v,env)=>some (OR.val v,(⟨env,H,lk,df⟩:St)))=some (.val v,s')->∃s2,(match take env x with|none=>none|some (v,env)=>some (OR.val v,(⟨env,H2,AA,AB⟩:St)))=some (.val v,s2):=by
  intro x hh;split at hh<;>simp only[br,reduceCtorEq,cg] at hh;rename_i u e hv;obtain⟨h1,rfl⟩:=hh;cases h1;exact⟨_,rfl⟩
 obtain⟨dst,op,type,pos,after,guard⟩:=o;cases op<;>simp only[q9,kU,OF] at hn hf
 case move x =>
  cases dst with
  | none=>exact read rfl aC
  | some d =>
   cases hb:takes.any (Nat.beq d) with
   | true =>
    simp only[Cx.op,hb] at aC ⊢;exact mv x aC
   | false =>
    simp only[Cx.op,hb] at aC ⊢;exact read rfl aC
 case assign x =>
  simp only[Cx.op] at aC ⊢;exact mv x aC
 case slice t x lo hi mx =>
  cases mx with
  | some m=>exact read rfl aC
  | none =>
   simp only at hn;simp only[Cx.op,hn] at aC ⊢;cases Pa:xz takes x lo hi with
   | false =>
    simp only[Pa] at aC ⊢;exact read rfl aC
   | true =>
    simp only[Pa] at aC ⊢;split at aC<;>simp only[br,reduceCtorEq,cg] at aC;obtain⟨h1,rfl⟩:=aC;cases h1;exact⟨_,rfl⟩
 case convert c d x =>
  simp only[Cx.op] at aC ⊢;split at aC
  next v' e hv=>simp only[br,cg] at aC;obtain⟨h1,rfl⟩:=aC;cases h1;exact⟨_,rfl⟩
  ·simp only[hf] at aC ⊢;exact read rfl aC
 all_goals exact read rfl aC
end
section
variable{cx:Cx}{all:Array Oper}{takes:bY}
def GH(all:Array Oper)(takes:bY)(r:Rec):aD :=
 if zX all r.o r.env=some true then aq (nX r.env (kl takes r.o)) r.o.dst r.v else aq r.env r.o.dst r.v
def yQ(rs:List Rec)(q:Rec)(D:Nat):Prop:=∀d∈rs,d.hp=true->bit q.m d.idx=true->bit D d.idx=true
structure RI(cx:Cx)(all:Array Oper)(takes:bY)(s0:St)(Ev:Nat->aD)(i:Nat)(rs:List Rec)(cs:List ei)(s:St):Prop where
 ex:∀j,j<i->∃r∈rs,r.idx=j
 lt:∀r∈rs,r.idx<i
 uniq:∀r∈rs,∀q∈rs,r.idx=q.idx->r=q
 get:∀r∈rs,all[r.idx]?=some r.o
 tm:∀r∈rs,∀t,(r.o.dst=some t\/kl takes r.o=some (.tmp t))->bit r.tm t=true
 lm:∀r∈rs,∀t,(bit r.tm t=true\/t∈r.o.looksAt all)->bit r.lm t=true
 bQ:∀r∈rs,∀e∈r.o.after,Region.binds .any e=true->e.on<r.idx
 mlt:∀r∈rs,∀b,bit r.m b=true->b<r.idx
 mask:∀r∈rs,∀b,bit r.m b=true->∃e∈r.o.after,Region.binds .any e=true/\(e.on=b\/∃q∈rs,q.idx=e.on/\bit q.m b=true)
 slots:∀r∈rs,∀q∈rs,q.idx<r.idx->kw r q=true
 ev:∀r∈rs,Ev r.idx=r.env
 S5:Ev 0=s0.env
 S6:Ev i=s.env
 Pb:∀r∈rs,Ev (r.idx+1)=GH all takes r
 off:∀r∈rs,zX all r.o r.env≠some true->zX all r.o r.env=some false/\r.hp=false/\r.v=.bq []
 calm:∀r∈rs,zX all r.o r.env=some true->r.hp=q9 cx.P cx.uq takes r.o/\(q9 cx.P cx.uq takes r.o=false->∃H lk df s1,cx.op takes r.o r.env H lk df=some (.val r.v,s1))
 free:∀r∈rs,zX all r.o r.env=some true->r.free=true->kU cx.P cx.uq r.o=false
 c0:∃c∈cs,c.D=0/\c.H=s0.H/\c.lk=s0.lk/\c.df=s0.defers
 top:∃c cs',cs=c::cs'/\c.D=ep rs/\c.H=s.H/\c.lk=s.lk/\c.df=s.defers
 cD:∀c∈cs,∀b,bit c.D b=true->∃q∈rs,q.hp=true/\q.idx=b
 uu:∀c∈cs,∀d∈cs,c.D=d.D->c=d
 g1:∀c∈cs,∀q∈rs,q.hp=true->bit c.D q.idx=false->yQ rs q c.D->∃c3∈cs,c3.D=Nat.lor c.D (Nat.pow 2 q.idx)/\cx.dK takes q.o q.env c c3.D=some (q.v,c3)
 g2:∀c∈cs,∀q∈rs,q.hp=false->q.free=false->yQ rs q c.D->(∀d∈rs,d.hp=true->bit c.D d.idx=true->bit d.m q.idx=false)->∃c2,cx.dK takes q.o q.env c 0=some (q.v,c2)
theorem A3:∀{a b:List (V×V)},p_ a b=true->a=b
 | [],[],_=>rfl
 | [],_::_,h=>by simp[p_] at h
 | _::_,[],h=>by simp[p_] at h
 | (x,y)::xs,(z,u)::ys,h=>by
  simp only[p_,eo] at h;rw[V.iO h.1.1,V.iO h.1.2,A3 h.2]
theorem pT:∀{a b:aN},l9 a b=true->a=b
 | [],[],_=>rfl
 | [],_::_,h=>by simp[l9] at h
 | _::_,[],h=>by simp[l9] at h
 | (x,y)::xs,(z,u)::ys,h=>by
  simp only[l9,eo] at h;rw[eU h.1.1,eU h.1.2,pT h.2]
theorem uw:∀{a b:bO},nk a b=true->a=b
 | [],[],_=>rfl
 | [],_::_,h=>by simp[nk] at h
 | _::_,[],h=>by simp[nk] at h
 | (x,y)::xs,(z,u)::ys,h=>by
  simp only[nk,eo] at h;rw[V.iO h.1.1,fT h.1.2,uw h.2]
theorem Ct:∀{a b:aV},gm a b=true->a=b
 | .cells a t,b,h=>by
  cases b<;>simp only[gm,eo,fP] at h;rw[eU h.1,fT h.2]
 | .map a,b,h=>by
  cases b<;>simp only[gm,fP] at h;rw[A3 h]
 | .iter a i,b,h=>by
  cases b<;>simp only[gm,eo,fP] at h;rw[eU h.1,Cs h.2]
 | .ul v z a e,b,h=>by
  cases b<;>simp only[gm,eo,fP] at h;rw[eU h.1.1.1,eU h.1.1.2,eU h.1.2,fT h.2]
theorem ux:∀{a b:List aV},mM a b=true->a=b
 | [],[],_=>rfl
 | [],_::_,h=>by simp[mM] at h
 | _::_,[],h=>by simp[mM] at h
 | x::xs,z::ys,h=>by
  simp only[mM,eo] at h;rw[Ct h.1,ux h.2]
theorem zh5{a b:ei}(h:vH a b=true):a.H=b.H/\a.lk=b.lk/\a.df=b.df:=by
 obtain⟨D,⟨bs,es⟩,lk,df⟩:=a;obtain⟨D',⟨Ax,iD⟩,HR,HS⟩:=b;simp only[vH,eo] at h;exact⟨by rw[ux h.2,pT h.1.2],pT h.1.1.1,uw h.1.1.2⟩
theorem zbx{D:Nat}{c:ei}:∀{cs:List ei},vI D cs=some c->c∈cs/\c.D=D
 | [],h=>by simp[vI] at h
 | d::cs,h=>by
  simp only[vI] at h;split at h
  next hb=>cases h;exact⟨eH ..,eU hb⟩
  ·obtain⟨h1,h2⟩:=zbx h;exact⟨dR _ h1,h2⟩
theorem yn{α:Type}{f:α->Bool}:∀{l:List α},kz f l=true->∀x∈l,f x=true
 | [],_,x,hx=>by simp at hx
 | y::l,h,x,hx=>by
  simp only[kz] at h;split at h
  ·rename_i hy;rcases dH.1 hx with rfl|hx
   ·exact hy
   ·exact yn h x hx
  ·cases h
theorem lu{b:Nat}:∀{rs:List Rec},bit (ep rs) b=true ↔ ∃q∈rs,q.hp=true/\q.idx=b
 | []=>by simp[ep,yC]
 | r::rs=>by
  have ih:=lu (b:=b) (rs:=rs);simp only[ep];split
  ·rename_i h;simp only[w9,yc,tn,decide_eq_true_eq,ih,dH];constructor
   ·rintro(h1|⟨q,h1,h2⟩)
    ·exact⟨r,.inl rfl,h,h1⟩
    ·exact⟨q,.inr h1,h2⟩
   ·rintro⟨q,rfl|h1,h2⟩
    ·exact .inl h2.2
    ·exact .inr ⟨q,h1,h2⟩
  ·rename_i h;rw[ih];simp only[dH];constructor
   ·rintro⟨q,h1,h2⟩;exact⟨q,.inr h1,h2⟩
   ·rintro⟨q,rfl|h1,h2⟩
    ·rw[h] at h2;cases h2.1
    ·exact⟨q,h1,h2⟩
theorem xB{a b:Nat}(h:∀i,bit a i=bit b i):a=b:=by
 apply Nat.eq_of_testBit_eq;intro i;rw[<- Lq,<- Lq];exact h i
theorem NF(a b i:Nat):bit (Nat.land a b) i=(bit a i && bit b i):=by
 simp only[Lq];exact Nat.testBit_and a b i
theorem pU{a b:Nat}:vA a b=true ↔ ∀i,bit a i=true->bit b i=true:=by
 unfold vA;constructor
 ·intro h i hi;have h1:=eU h;rw[<- h1,NF,eo] at hi;exact hi.2
 ·intro h;have:Nat.land a b=a:=by
   apply xB;intro i;rw[NF];cases hi:bit a i with
   | false=>rfl
   | true=>simp[h i hi]
  rw[this];exact iN a
theorem mz{rs:List Rec}{q:Rec}{D:Nat}:vA (Nat.land q.m (ep rs)) D=true ↔ yQ rs q D:=by
 rw[pU];constructor
 ·intro h d hd hh hb;exact h d.idx (by rw[NF,hb,s5];exact lu.2 ⟨d,hd,hh,rfl⟩)
 ·intro h i hi;rw[NF,eo] at hi;obtain⟨d,h1,h2,rfl⟩:=lu.1 hi.2;exact h d h1 h2 hi.1
theorem zcF{D:Nat}{q:Rec}:∀{rs:List Rec},(∀d∈rs,d.hp=true->bit D d.idx=true->bit d.m q.idx=false)->KT D q rs=false
 | [],_=>rfl
 | c::cs,h=>by
  simp only[KT,zcF λd hd=>h d (dR _ hd),Bool.or_false];cases h1:c.hp with
  | false=>rfl
  | true=>cases h2:bit D c.idx with
   | false=>rfl
   | true=>simp[h c (eH ..) h1 h2]
theorem zlk{o:Oper}{env:aD}{c:ei}{D:Nat}{v:V}{c2:ei}(h:cx.dK takes o env c D=some (v,c2))(D':Nat):c2.D=D/\cx.dK takes o env c D'=some (v,{ c2 with D:=D' }):=by
 unfold Cx.dK at h ⊢;split at h<;>simp only[br,reduceCtorEq,cg] at h
 ·obtain⟨rfl,rfl⟩:=h;exact⟨rfl,by simp only[*]⟩
 ·obtain⟨rfl,rfl⟩:=h;exact⟨rfl,by simp only[*]⟩
theorem Wj{o:Oper}{env:aD}{v:V}{m b:Nat}:∀{cs l:List ei},cx.gR takes o env v m b cs=some l ->
  (∀c∈cs,vA m c.D=true->∃c2∈l,c2.D=Nat.lor c.D b/\cx.dK takes o env c c2.D=some (v,c2))/\(∀c2∈l,∃c∈cs,vA m c.D=true/\c2.D=Nat.lor c.D b/\cx.dK takes o env c c2.D=some (v,c2))
 | [],l,h=>by
  simp only[Cx.gR,br] at h;subst h;exact⟨λc hc=>by simp at hc,λc hc=>by simp at hc⟩
 | c::cs,l,h=>by
  simp only[Cx.gR] at h;split at h
  ·rename_i hs;obtain⟨h1,h2⟩:=Wj h;refine⟨λc' hc hb=>?_,λc2 hc=>?_⟩
   ·rcases dH.1 hc with rfl|hc
    ·rw[hs] at hb;cases hb
    ·exact h1 c' hc hb
   ·obtain⟨c',h3,h4⟩:=h2 c2 hc;exact⟨c',dR _ h3,h4⟩
  ·rename_i hs;split at h<;>try (cases h;done)
   rename_i u c2 hr;split at h<;>try (cases h;done)
   rename_i iJ;have:=V.iO iJ;subst this;split at h<;>try (cases h;done)
   rename_i l' hl;simp only[br] at h;subst h;obtain⟨h1,h2⟩:=Wj hl;have hD:=(zlk hr 0).1;refine⟨λc' hc hb=>?_,λc3 hc=>?_⟩
   ·rcases dH.1 hc with rfl|hc
    ·exact⟨c2,eH ..,hD,by rw[hD];exact hr⟩
    ·obtain⟨c3,h3,h4⟩:=h1 c' hc hb;exact⟨c3,dR _ h3,h4⟩
   ·rcases dH.1 hc with rfl|hc
    ·exact⟨c,eH ..,hs,hD,by rw[hD];exact hr⟩
    ·obtain⟨c',h3,h4⟩:=h2 c3 hc;exact⟨c',dR _ h3,h4⟩
end
end Go.Vm
