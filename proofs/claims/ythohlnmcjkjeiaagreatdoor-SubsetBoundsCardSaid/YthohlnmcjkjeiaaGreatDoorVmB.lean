/- Vm: maps, texts gone through, rows of zeros. Conditions: none but those named. -/
import Derived.Laws.MakeOwn
import Derived.Scope
import Derived.LoopN
import Derived.Recover
import Derived.Test.YthohlnmcjkjeiaaGreatDoorVmA
namespace Go.Vm
open Go
section
variable{P:aY}{B:dS}{g:Gh}{s:St}{a:Act}{w:aQ}
theorem zgn{_kd:TypeDesc}{k x:V}{ck cx:bC}(h:I7 k x=some true)(h1:aX g k ck)(h2:aX g x cx)(n:Nat):Instr.sameBits n cx ck=true:=by
 unfold I7 at h;split at h
 ·split at h<;>simp only[bz,reduceCtorEq] at h;rename_i e;subst e;cases h1;cases h2;have:=beq_iff_eq.1 h;subst this;simp[Instr.sameBits]
 ·simp only[bz] at h;cases h1 with
  | str b1=>cases h2 with
   | str b2 =>
    have:=pJ _ _ b1 b2;rw[h] at this;simp only[Instr.sameBits,beq_toListBytes,vk];rw[beq_iff_eq] at this ⊢;exact this.symm
 ·simp only[bz] at h;cases h1;cases h2;have:=beq_iff_eq.1 h;subst this;simp[Instr.sameBits]
 ·cases h
theorem ziZ{kd:TypeDesc}{k x:V}{ck cx:bC}(hk:yd kd k=true)(h1:aX g k ck)(h2:aX g x cx):∀{es iF:List (V×V)}{en:List MapEntry}(i:Nat),nL g es en->G6 k x es=some iF ->
  (Instr.findNow kd ck en i=some none/\iF=es++[(k,x)]) \/
  ∃j e cv,Instr.findNow kd ck en i=some (some (i+j,cv))/\en[j]?=some e/\Instr.sameBits 10000 e.key ck=true/\iF=es.set j (k,x)/\j<es.length
 | [],_,[],i,_,h=>by simp only[G6,bz] at h;subst h;exact .inl ⟨rfl,rfl⟩
 | [],_,_::_,i,hr,h=>by have:=hr.len;simp at this
 | _::_,_,[],i,hr,h=>by have:=hr.len;simp at this
 | (y,v)::es,iF,e::en,i,hr,h=>by
  obtain⟨ht,hy,hv⟩:=hr.tail;simp only[G6] at h;split at h
  next rJ=>simp only[bz] at h;subst h;exact .inr ⟨0,e,e.val,by simp[Instr.findNow,yB hk rJ h1 hy],rfl,zgn (_kd:=kd) rJ h1 hy _,rfl,by simp⟩
  ·rename_i rJ;simp only[mS] at h;obtain⟨r,Eg,rfl⟩:=h;rcases ziZ hk h1 h2 (i+1) ht Eg with⟨h3,h4⟩|⟨j,e',cv,h3,h4,h5,h6,h7⟩
   ·exact .inl ⟨by simp[Instr.findNow,yB hk rJ h1 hy,h3],by simp[h4]⟩
   ·refine .inr ⟨j+1,e',cv,?_,by simpa using h4,h5,by simp[h6],by simp;omega⟩
    simp only[Instr.findNow,yB hk rJ h1 hy,h3];rw[show i+1+j=i+(j+1) by omega]
  ·cases h
theorem zct{w:aQ}{r:Nat}{o:Obj}{c:Nat}(h:c≠r):({ w with heap:=w.heap.setIfInBounds r o }:aQ).heap[c]?=w.heap[c]?:=by
 simp[Ne.symm h]
theorem xk{w:aQ}{r:Nat}{o o':Obj}(h:w.heap[r]?=some o'):({ w with heap:=w.heap.setIfInBounds r o }:aQ).heap[r]?=some o:=by
 have:=(s_.1 h).1;simp[this]
theorem nL.push{es:List (V×V)}{en:List MapEntry}(h:nL g es en){x:V×V}{e:MapEntry}(h1:aX g x.1 e.key)(h2:aX g x.2 e.val):nL g (es++[x]) (en++[e]):=by
 refine⟨by simp[h.len],λj y f hy hf=>?_⟩
 rcases eY j es.length with hj|hj
 ·rw[gF hj] at hy;rw[gF (by rw[<- h.len];exact hj)] at hf
  exact h.rel j y f hy hf
 ·rw[fM hj] at hy;rw[fM (by rw[<- h.len];exact hj),<- h.len] at hf
  cases hk:j - es.length with
  | zero=>rw[hk] at hy hf;simp at hy hf;subst hy;subst hf;exact⟨h1,h2⟩
  | succ k=>rw[hk] at hy;simp at hy
theorem zbs(h:Rel B g s a w){t:aD}{m k x:a_}{b:Nat}{kv v:V}{es iF:List (V×V)}(hm:ak s.env m=some (.map b))(hk:ak s.env k=some kv)(hx:ak s.env x=some v)(tj:M3 P t kv=true)
  (hb:s.H.get b=some (.map es)) (hs:G6 kv v es=some iF) :
  ∃w',(Instr.mapUpdate t (a.eval m) (a.eval k) (a.eval x)).run P w=.ok () w'/\Rel B g { s with H:=(s.H.set b (.map iF)).bU b (.bx [kv,v]) } a w':=by
 have m1:=(zI h hm).1;obtain⟨k1,k2,_⟩:=zI h hk;obtain⟨v1,v2,_⟩:=zI h hx;generalize KC:a.eval m=cm at m1;cases m1;obtain⟨en,ck,e1,e2,e3,e4⟩:=xW h hb;unfold M3 at tj;split at tj<;>try (cases tj;done)
 rename_i kt et ht;split at tj<;>try (cases tj;done)
 rename_i kd Gp;have mX:s.H.az[b]?=some (.map es):=by simpa[Hp.get,zg] using hb
 have pY:∀off,¬Dx B b off:=λoff hl=>by
  obtain⟨cs,t2,sz,xs,c1,_⟩:=h.lK b off hl;rw[mX] at c1;cases c1
 have dH:∀oA:List (V×V),(∀p∈oA,p∈es\/p=(kv,v))->(bq.map oA).top<=max (bq.map es).top (V.bx [kv,v]).top:=λoA hp=>by
  refine tw.2 ⟨qO λy hy=>?_,qO λy hy=>?_⟩
  ·obtain⟨p,Vs,rfl⟩:=mU.1 hy;rcases hp p Vs with h1|h1
   ·exact cZ (zn (List.mem_map_of_mem (f:=(·.1)) h1)) (cZ (Ds _ _) (Ds _ _))
   ·subst h1;exact cZ (Ds _ _) (G5 _ _)
  ·obtain⟨p,Vs,rfl⟩:=mU.1 hy;rcases hp p Vs with h1|h1
   ·exact cZ (zn (List.mem_map_of_mem (f:=(·.2)) h1)) (cZ (G5 _ _) (Ds _ _))
   ·subst h1;simp only[V.top,aL];omega
 have lq:max (bq.map es).top (V.bx [kv,v]).top<=s.H.az.length:=tw.2 ⟨tw.2 ⟨e3,e4⟩,by simp only[V.top,aL];omega⟩
 have fin:∀(oA:List (V×V))(OA:Array MapEntry)(clock:Nat),(∀p∈oA,p∈es\/p=(kv,v))->nL g oA OA.toList ->
   Rel B g { s with H:=(s.H.set b (.map oA)).bU b (.bx [kv,v]) } a { w with heap:=w.heap.setIfInBounds (g.bT b) (.map OA clock) }:=λoA OA clock hp Sw=>by
  have:=h.write (l:=s.lk) (b:=b) (x0:=.map es) (x:=.map oA) (v:=.bx [kv,v]) (w':={ w with heap:=w.heap.setIfInBounds (g.bT b) (.map OA clock) }) rfl hb (λc hc=>zct hc) (by simp) rfl rfl rfl
   ⟨OA,clock,xk e1,by simpa using Sw.len,λj y e hy he=>Sw.rel j y e hy (by simpa using he)⟩ (cZ (dH oA hp) lq) (.inr (.inr (.inr (dH oA hp)))) (λoff hl=>absurd hl (pY off)) h.oI
  exact this
 have hg:(getObj (g.bT b)).run P w=.ok (.map en ck) w:=by simp[getObj,Sem.run,e1]
 have mh:∀o,(setObj (g.bT b) o).run P w=.ok () { w with heap:=w.heap.setIfInBounds (g.bT b) o }:=λo=>by simp[setObj,Sem.run,e1]
 have pZ:=zcs (P:=P) Gp tj k1 false w;rcases ziZ tj k1 v1 0 e2 hs with⟨h3,h4⟩|⟨j,e,cv,h3,h4,h5,h6,h7⟩
 ·subst h4;refine⟨{ w with heap:=w.heap.setIfInBounds (g.bT b) (.map (en.push { key:=a.eval k,val:=a.eval x,born:=ck }) (ck+1)) },?_,fin _ _ _ (λp hp=>?_) (by simpa using e2.push (x:=(kv,v)) (e:={ key:=a.eval k,val:=a.eval x,born:=ck }) k1 v1)⟩
  ·unfold Instr.mapUpdate;simp[run_underlying ht,hg,pZ,Instr.findKey,run_underlying Gp,h3,mh]
  ·rcases tu.1 hp with hp|hp
   ·exact .inl hp
   ·exact .inr (by simpa using hp)
 ·subst h6;rw[oh] at h3;have Vt:en[j]?=some e:=by simpa using h4
  have aid:j<en.size:=(s_.1 Vt).1;refine⟨{ w with heap:=w.heap.setIfInBounds (g.bT b) (.map (en.modify j λe=>{ e with key:=a.eval k,val:=a.eval x }) ck) },?_,fin _ _ _ (λp hp=>List.mem_or_eq_of_mem_set hp) ?_⟩
  ·have um:(Instr.keyThatStays e.key (a.eval k)).run P w=.ok (a.eval k) w:=by unfold Instr.keyThatStays;simp[h5]
   unfold Instr.mapUpdate;simp[run_underlying ht,hg,pZ,Instr.findKey,run_underlying Gp,h3,mh,Vt,um]
  ·refine⟨by simp[e2.len],λi y f hy hf=>?_⟩
   have EU:(en.modify j λe=>{ e with key:=a.eval k,val:=a.eval x })[i]?=some f:=by rw[<- F9];exact hf
   rw[Array.getElem?_modify] at EU
   by_cases Hq:j=i
   ·subst Hq;rw[BO h7] at hy;cases hy;rw[if_pos rfl,Vt] at EU;simp only[aW,bz] at EU;subst EU;exact⟨k1,v1⟩
   ·rw[r8 Hq] at hy;rw[if_neg Hq] at EU;exact e2.rel i y f hy (by simpa using EU)
theorem zj5{l:bO}{pos:Nat}(hl:∀b:Nat,b∈l->b<256)(hp:pos<l.length):Utf8.decode (bytes l) pos=G7 (l.drop pos):=by
 have Nb:∀k,((bytes l).get! (pos+k)).toNat=(l.drop pos).getD k 0:=by
  intro k;have e1:(bytes l).get! (pos+k)=(bytes l).data[pos+k]!:=by cases l<;>rfl
  rw[e1]
  by_cases hk:pos+k<l.length
  ·have hb:=hl _ (List.getElem_mem hk);simp[bytes,List.getD,hk,UInt8.toNat_ofNat',EJ hb]
  ·simp[bytes,List.getD,uf (by omega:l.length<=pos+k)]
   rfl
 have OB:∀k,(decide (pos+k<(bytes l).size) && ((bytes l).get! (pos+k)).toNat / 64 == 2)=(Nat.blt k (l.drop pos).length && Nat.beq ((l.drop pos).getD k 0 / 64) 2):=by
  intro k;rw[Nb]
  congr 1
  ·rw[kJ,List.length_drop,EK,decide_eq_true_iff,Nat.blt_eq];omega
  ·rw[EK,beq_iff_eq,Nat.beq_eq]
 have OC:=Nb 0;rw[om] at OC;have KL:∀k,(decide (pos+k<(bytes l).size) && (l.drop pos).getD k 0 / 64 == 2)=(Nat.blt k (l.drop pos).length && Nat.beq ((l.drop pos).getD k 0 / 64) 2):=λk=>by
  have:=OB k;rw[Nb] at this;exact this
 unfold Utf8.decode G7;simp only[om,Nb,OC,KL]
theorem znk(h:Rel B g s a w){it:a_}{b pos:Nat}{l:bO}(hi:ak s.env it=some (.ptr b 0))(hb:s.H.get b=some (.iter l pos))(ty:aD) :
  if Nat.blt pos l.length=true then
   ∃cv w',(Instr.next (a.eval it) true ty).run P w=.ok cv w'/\aX g (.bx [.bool true,.int .i64 pos,.int .i32 (G7 (l.drop pos)).1]) cv/\Rel B g { s with H:=(s.H.set b (.iter l (pos+(G7 (l.drop pos)).2))).bU b .fQ } a w'
  else ∃cv,(Instr.next (a.eval it) true ty).run P w=.ok cv w/\aX g (.bx [.bool false]) cv:=by
 have i1:=(zI h hi).1;generalize hie:a.eval it=ci at i1;cases i1;have mX:s.H.az[b]?=some (.iter l pos):=by simpa[Hp.get,zg] using hb
 obtain⟨e1,e2⟩:=h.di.ok b _ mX;have hg:(getObj (g.bT b)).run P w=.ok (.stringIter (bytes l) pos) w:=by simp[getObj,Sem.run,e1]
 have mh:∀o,(setObj (g.bT b) o).run P w=.ok () { w with heap:=w.heap.setIfInBounds (g.bT b) o }:=λo=>by simp[setObj,Sem.run,e1]
 have pY:∀off,¬Dx B b off:=λoff hl=>by
  obtain⟨cs,t2,sz,xs,c1,_⟩:=h.lK b off hl;rw[mX] at c1;cases c1
 split
 ·rename_i bW;rw[Nat.blt_eq] at bW;refine⟨.tuple #[.bool true,goInt pos,.int .i32 (G7 (l.drop pos)).1],{ w with heap:=w.heap.setIfInBounds (g.bT b) (.stringIter (bytes l) (pos+(G7 (l.drop pos)).2)) },?_,?_,?_⟩
  ·unfold Instr.next
   simp[hg,kJ,bW,zj5 e2 bW,mh]
  ·refine .bx rfl λj x u hx hu=>?_;rcases j with _|_|_|j
   ·simp at hx hu;subst hx;subst hu;exact .bool true
   ·simp at hx hu;subst hx;subst hu;exact .int _ _
   ·simp at hx hu;subst hx;subst hu;exact .int _ _
   ·simp at hx
  ·exact h.write (l:=s.lk) (b:=b) (x0:=.iter l pos) (x:=.iter l (pos+(G7 (l.drop pos)).2)) (v:=.fQ) (w':={ w with heap:=w.heap.setIfInBounds (g.bT b) (.stringIter (bytes l) (pos+(G7 (l.drop pos)).2)) }) rfl hb (λc hc=>zct hc) (by simp) rfl rfl rfl
    ⟨xk e1,e2⟩ (dP _) (.inl (dP _)) (λoff hl=>absurd hl (pY off)) h.oI
 ·rename_i bW;rw[Nat.blt_eq] at bW;refine⟨.tuple #[.bool false],?_,?_⟩
  ·unfold Instr.next
   simp[hg,kJ,bW]
  ·refine .bx rfl λj x u hx hu=>?_;rcases j with _|j
   ·simp at hx hu;subst hx;subst hu;exact .bool false
   ·simp at hx
end
section
variable{P:aY}{B:dS}{g:Gh}{s:St}{a:Act}{w:aQ}
theorem wV{t ty e:aD}{n:Nat}(ht:P.underlying t=some (.slice e))(hn:z4 P e=some n)(v:bC)(base:Option Addr)(oX sG:Nat)(hv:v=.slice base oX sG)(hle:oX<=sG)(ad:Option Addr)(c:Nat)(w:aQ) :
  (Builtin.append_ #[t,t] ty #[v,.slice ad 0 c]).run P w=.ok v w:=by
 subst hv;simp only[z4,mS] at hn;obtain⟨i,hi,rfl⟩:=hn;cases ad<;>cases base<;>simp[Builtin.append_,run_underlying ht,sizeOf,typeInfo,hi,Builtin.lenOf,Builtin.firstCells,hle,loadCells,loadCellsFrom,Go.storeCells]
def Gh.grown(g:Gh)(c:Nat)(vs:ei)(l:Option Loc):Gh :=
 {g with M:=λc' o=>if c'=c then vs[o]? else g.M c' o,own:=λc'=>if c'=c then l else g.own c' }
theorem Rel.Hr(h:Rel B g s a w){c:Nat}{t0:Nat}(Nc:s.env.length<=t0)(OD:t0<=s.env.length)(iD:g.own c=some (.slot B.d t0))(hc:c<w.heap.size)(vs:ei)(l:Option Loc){w':aQ}
  (hold:∀c',c'≠c->w'.heap[c']?=w.heap[c']?) (fD:w'.heap.size=w.heap.size) (dy:∀o v,vs[o]?=some v->w'.cell? ⟨c,o,none⟩=some v) (Hs:∀o v,g.M c o=some v->vs[o]?=some v)
  (pL:w'.os=w.os) (ht:w'.tape=w.tape) (nN:w'.output=w.output):Rel B (g.grown c vs l) s a w':=by
 have cK:∀c',(∀l',some (Loc.slot B.d t0)=some l'->g.own c'≠some l')->c'≠c:=λc' h' e=>h' _ rfl (e ▸ iD);have aih:∀b,b<s.H.az.length->g.bT b≠c:=λb hb e=>by
  have:=h.di.dN b hb;rw[e,iD] at this;cases this
 refine h.lf (b0:=none) (l0:=some (.slot B.d t0)) ?_ (dB _) (λ_ _ _=>rfl) (λb x hb hx=>?_) (λb h1 h2=>?_) (λb b' h1 h2=>?_) (λc' o v hv=>?_) (λc' l' eA=>?_) (λb j e=>by cases e) rfl rfl
  (λt x hx=>⟨x,hx,.inl ⟨rfl,λe=>?_⟩⟩) h.bJ h.lK h.oI (λt e=>by cases e;exact OD)
 ·refine⟨⟨λc' o v hv=>?_,λ_ _=>rfl,rfl,λ_ _ _ _ e=>e⟩,λc' _ _ h2=>hold c' (cK c' h2),λc' _ h2=>?_,λc' _ h2 o=>?_,by omega,λ_ _ _=>rfl,λl' iM=>?_,λb hb=>(by cases hb),λ_ _ _ _=>rfl,pL,ht,nN⟩
  ·simp only[Gh.grown];split
   next e=>subst e;exact Hs o v hv
   ·exact hv
  ·simp only[Gh.grown];rw[if_neg (cK c' h2)]
  ·simp only[Gh.grown];rw[if_neg (cK c' h2)]
  ·cases iM;exact .inl ⟨t0,rfl⟩
 ·rcases hb with hb|hb
  ·cases hb
  ·have:=(dA.1 hx).1;omega
 ·omega
 ·omega
 ·simp only[Gh.grown] at hv;split at hv
  next e=>subst e;exact dy o v hv
  next e=>rw[yC (hold c' e)];exact h.di.mem c' o v hv
 ·simp only[Gh.grown] at eA;split at eA
  next e=>omega
  ·have:=h.di.eI c' l' eA;omega
 ·cases e;have:=(dA.1 hx).1;omega
end
section
variable{P:aY}{B:dS}{g:Gh}{s:St}{a:Act}{w:aQ}
theorem zex(h:Rel B g s a w){e sz:Nat}{xs:aG}{ow:uj}{cv:bC}{vs:ei}(hr:aX g (.sl sz xs ow) cv)(ho:rowAt w e sz cv xs.length vs):bQ g (zK xs) vs:=by
 cases hr with
 | sl f h1 h2 h3 h4 h5 h6 =>
  rename_i ad cap c o;refine⟨by rw[qM h1,ho.1],h4,λj x v hx hv=>?_⟩
  have cK:xs≠[]:=by rintro rfl;simp[zK] at hx
  have e1:=h3 cK;subst e1;have:=ho.cells j v hv;rw[h.di.mem _ _ _ (h5 j x hx)] at this;cases this;exact h6 j x hx
theorem Gh.KM(n:Nat){g:Gh}{w:aQ}(hm:∀c o v,g.M c o=some v->w.cell? ⟨c,o,none⟩=some v)(vs:ei)(l:Option Loc):Gh.Le n g (g.row w.heap.size vs l):=by
 refine⟨λc o v hv=>?_,λ_ _=>rfl,rfl,λ_ _ _ _ e=>e⟩;have:=vl (hm c o v hv);simp only[Gh.row];rw[if_neg (by omega)]
 exact hv
theorem zgo(h:Rel B g s a w){e sz:Nat}{z:bC}{zs:aG}{vs:ei}(Eh:∀y:V,y∈zs->y.cells.length=sz)(ec:bQ g (zK zs) vs)(ht:aL zs<=s.H.az.length)(hz:z.cells.size=sz)(KN:zs.length<=maxLen)(old:Nat)(l:Loc){arr:dR}(nq:arr.toList=vs) :
  ∃g',Rel B g' s a (w.drew.alloc (.cells (arr++Builtin.zeroCells z.cells (grownCap w zs.length old e - zs.length)) e))/\aX g' (.sl sz zs (.yes e)) (.slice (some ⟨w.heap.size,0,none⟩) zs.length (grownCap w zs.length old e)) /\
   fI g' s.H.az.length (w.drew.alloc (.cells (arr++Builtin.zeroCells z.cells (grownCap w zs.length old e - zs.length)) e)) l e sz zs.length (.slice (some ⟨w.heap.size,0,none⟩) zs.length (grownCap w zs.length old e)):=by
 have hlen:vs.length=zs.length * sz:=by rw[<- ec.len,qM Eh]
 have oz:arr.size=zs.length * sz:=by rw[<- hlen,<- nq];simp
 have uR:=grownCap_ge w zs.length old e;generalize ov:grownCap w zs.length old e=cap at uR ⊢;have sH:cap<=maxLen:=by rw[<- ov];exact grownCap_le_maxLen w _ old e KN
 generalize lq:arr++Builtin.zeroCells z.cells (cap - zs.length)=cur;have dY:(w.drew.alloc (.cells cur e)).heap[w.heap.size]?=some (.cells cur e (0,0)):=heap_alloc_new w.drew _;have dy:∀o v,vs[o]?=some v->(w.drew.alloc (.cells cur e)).cell? ⟨w.heap.size,o,none⟩=some v:=λo v hv=>by
  rw[cell_of_row _ _ _ cur _ _ dY,<- lq];have ho:o<arr.size:=by rw[oz,<- hlen];exact(dA.1 hv).1
  rw[Array.getElem?_append_left ho,<- F9,nq];exact hv
 have hR:=h.settle vs (some l) (w':=w.drew.alloc (.cells cur e)) (by simp) (λc hc=>Go.heap_alloc_old w.drew _ hc) dy rfl rfl rfl
 refine⟨_,hR,aX.settled (n:=s.H.az.length) Eh uR ec (cZ yo ht) (Gh.KM _ h.di.mem _ _),vs,⟨hlen,.inr ⟨w.heap.size,0,cap,cur,rfl,dY,uR,sH,.inr ?_,?_⟩⟩,λc hc=>?_⟩
 ·rw[<- lq,Array.size_append,oz,size_zeroCells,hz,<- tv,oh];congr 1;omega
 ·rw[ny,<- lq,Array.toList_append,List.take_append_of_le_length (by simp;omega),nq]
  exact su (by omega)
 ·simp only[Value.ownBlock,bz] at hc;subst hc;refine⟨by simp[Gh.row],λo ho _=>?_,λb hb e=>?_⟩
  ·simp only[Gh.row,aI];simp only at ho;exact uf (by omega)
  ·have:=h.di.lt b hb;simp only[Gh.row] at e;omega
theorem bQ.append{xs ys:aG}{vs news:ei}(hold:bQ g (zK xs) vs)(ec:bQ g (zK ys) news):bQ g (zK (xs++ys)) (vs++news):=by
 simp only[zK,List.flatMap_append] at *;refine⟨by simp only[aZ,hold.len,ec.len],λj x hx=>?_,λj x v hx lV=>?_⟩
 ·rcases eY j (xs.flatMap V.cells).length with h1|h1
  ·rw[gF h1] at hx;exact hold.one j x hx
  ·rw[fM h1] at hx;exact ec.one _ x hx
 ·rcases eY j (xs.flatMap V.cells).length with h1|h1
  ·rw[gF h1] at hx;rw[gF (by rw[<- hold.len];exact h1)] at lV
   exact hold.rel j x v hx lV
  ·rw[fM h1] at hx;rw[fM (by rw[<- hold.len];exact h1),<- hold.len] at lV
   exact ec.rel _ x v hx lV
theorem zhN(h:Rel B g s a w){e sz:Nat}{xs ys:aG}{news:ei}{cv:bC}(hv:aX g (.sl sz xs (.yes e)) cv){t0:Nat}(Nc:s.env.length<=t0)(OD:t0<=s.env.length)(ho:fI g s.H.az.length w (.slot B.d t0) e sz xs.length cv)
  (Eh:∀y:V,y∈xs++ys->y.cells.length=sz) (ec:bQ g (zK ys) news) (ht:aL (xs++ys)<=s.H.az.length) (l:Loc) {c o cap:Nat} {cur:dR} (iW:cv=.slice (some ⟨c,o,none⟩) xs.length cap)
  (lq:w.heap[c]?=some (.cells cur e (0,0))) (fJ:xs.length+ys.length<=cap) (cK:ys≠[]) :
  ∃g',Rel B g' s a (w.setRow c (cur.toList.take (o+xs.length * sz)++news++cur.toList.drop (o+xs.length * sz+news.length)).toArray)/\aX g' (.sl sz (xs++ys) (.yes e)) (.slice (some ⟨c,o,none⟩) (xs.length+ys.length) cap) /\
   fI g' s.H.az.length (w.setRow c (cur.toList.take (o+xs.length * sz)++news++cur.toList.drop (o+xs.length * sz+news.length)).toArray) l e sz (xs.length+ys.length) (.slice (some ⟨c,o,none⟩) (xs.length+ys.length) cap):=by
 subst iW;obtain⟨vs,Sy,Nd⟩:=ho;have hold:=zex h hv Sy;obtain⟨BC,ho3⟩:=Sy;rcases ho3 with⟨e2,_⟩|⟨c',o',oU,aik,e2,sg,hn,sH,fD,OE⟩
 ·cases e2
 cases e2;rw[lq] at sg;cases sg;obtain⟨Vu,Vv,Vw⟩:=Nd c rfl;have hyl:0<ys.length:=Ki.2 cK;have fD:cur.size=o+cap * sz:=by rcases fD with h|h;omega;exact h
 have lp:news.length=ys.length * sz:=by rw[<- ec.len,qM λy hy=>Eh y (CQ _ hy)]
 have ail:xs.length * sz+ys.length * sz<=cap * sz:=by rw[<- tv];exact Nat.mul_le_mul_right _ fJ
 have gI:cur.toList.length=cur.size:=AG;have KK:(cur.toList.take (o+xs.length * sz)).length=o+xs.length * sz:=by rw[uQ];omega
 have gw:cur.toList.take (o+xs.length * sz)=cur.toList.take o++vs:=by rw[<- OE,List.take_add]
 generalize B9:cur.toList.take (o+xs.length * sz)++news++cur.toList.drop (o+xs.length * sz+news.length)=L;have bW:c<w.heap.size:=(s_.1 lq).1;have dY:(w.setRow c L.toArray).heap[c]?=some (.cells L.toArray e (0,0)):=setRow_heap w c _ _ _ _ lq;have sI:∀c',c'≠c->(w.setRow c L.toArray).heap[c']?=w.heap[c']?:=λc' cK=>setRow_other w c c' _ cK
 have oK:(w.setRow c L.toArray).heap.size=w.heap.size:=setRow_size w c _;generalize hF:cur.toList.take (o+xs.length * sz)++news=F at B9;have dy:∀k v,F[k]?=some v->(w.setRow c L.toArray).cell? ⟨c,k,none⟩=some v:=λk v lV=>by
  rw[cell_of_row _ _ _ _ _ _ dY,List.getElem?_toArray,<- B9,gF (dA.1 lV).1];exact lV
 have Hs:∀k v,g.M c k=some v->F[k]?=some v:=λk v hm=>by
  have:=h.di.mem _ _ _ hm;rw[cell_of_row w _ _ _ _ _ lq] at this;have hk:k<cur.size:=(s_.1 this).1;have bW:k<o+xs.length * sz:=by
   rcases eY k (o+xs.length * sz) with h1|h1
   ·exact h1
   ·rw[Vv k h1 (by simp only;omega)] at hm;cases hm
  rw[<- hF,gF (by rw[KK];exact bW),Ak,if_pos bW]
  simpa using this
 have hR:=h.Hr Nc OD Vu bW F (some l) sI oK dy Hs rfl rfl rfl
 have hle:Gh.Le s.H.az.length g (g.grown c F (some l)):=⟨λc' o v hm=>by
  simp only[Gh.grown];split
  next e=>subst e;exact Hs o v hm
  ·exact hm,λ_ _=>rfl,rfl,λ_ _ _ _ e=>e⟩
 have dG:bQ g (zK (xs++ys)) (vs++news):=hold.append ec;have hFl:F.length=o+xs.length * sz+news.length:=by rw[<- hF,aZ,KK]
 have DF:(cur.toList.take o).length=o:=by rw[uQ];omega
 have hFo:∀j,F[o+j]?=(vs++news)[j]?:=λj=>by
  rw[<- hF,gw,bp,fM (by omega),DF,MZ]
 refine⟨_,hR,?_,vs++news,⟨by rw[aZ,BC,lp,tv],.inr ⟨c,o,cap,L.toArray,rfl,dY,fJ,sH,.inr ?_,?_⟩⟩,λc' eA=>?_⟩
 ·rw[show xs.length+ys.length=(xs++ys).length by simp]
  refine .sl (c:=c) (o:=o) (λj=>(vs++news).getD j .nilFunc) Eh (by simpa using fJ) (λ_=>rfl) dG.one (λj x hj=>?_) (λj x hj=>?_)
  ·obtain⟨v,lV,_⟩:=dG.get hj;simp[Gh.grown,hFo,lV,List.getD]
  ·obtain⟨v,lV,hr⟩:=dG.get hj;have:=hr.le hle (cZ (zn (zw hj)) (cZ yo ht));simpa[List.getD,lV] using this
 ·rw[<- fD];simp only[List.size_toArray,<- B9,aZ,hFl,List.length_drop,AG];omega
 ·rw[tv,<- lp,<- BC];simp only[<- B9,<- hF,gw];rw[bp,bp,List.drop_append_of_le_length (by omega),List.drop_of_length_le (by omega),bt,<- bp,List.take_append_of_le_length (by simp)]
  exact su (by simp)
 ·simp only[Value.ownBlock,bz] at eA;subst eA;refine⟨by simp[Gh.grown],λj ho _=>?_,λb hb e=>Vw b hb e⟩
  simp only[Gh.grown,aI];simp only[tv] at ho;exact uf (by rw[hFl,lp];omega)
end
section
variable{P:aY}{B:dS}{g:Gh}{s:St}{a:Act}{w:aQ}
theorem Vx{e:aD}{n:Nat}{i:TypeInfo}(hn:z4 P e=some n)(hi:P.info? e=some i):i.size=n:=by
 simpa[z4,hi] using hn
theorem aX.EV{sz:Nat}{xs:aG}{ow:uj}{cv:bC}(h:aX g (.sl sz xs ow) cv):∃base cap,cv=.slice base xs.length cap/\xs.length<=cap:=by
 cases h;exact⟨_,_,rfl,by assumption⟩
theorem aX.pM{cv:bC}(h:aX g .aH cv):cv=.slice none 0 0:=by
 cases h;rfl
theorem zb6{w:aQ}(t ty e:aD)(i:TypeInfo)(ht:P.underlying t=some (.slice e))(hi:P.info? e=some i)
  (g o oX sG:Nat) (cur:dR) (hg:w.heap[g]?=some (.cells cur e (0,0)))
  (a:Addr) (m c:Nat) (news:ei) (hl:news.length=m * i.size) (OF:∀j u,news[j]?=some u->w.cell? (a.add j)=some u) (h1:∀u∈news,u.oneCell'=true)
  (fJ:oX+m<=sG) (Ht:o+oX * i.size+news.length<=cur.size) :
  (Builtin.append_ #[t,t] ty #[.slice (some ⟨g,o,none⟩) oX sG,.slice (some a) m c]).run P w =
   .ok (.slice (some ⟨g,o,none⟩) (oX+m) sG) (w.setRow g (cur.toList.take (o+oX * i.size)++news++cur.toList.drop (o+oX * i.size+news.length)).toArray):=by
 have hf:=run_firstCells_some (P:=P) w i.size m a m c news hl OF;have fe:=run_storeCells_at P g (o+oX * i.size) e news 0 cur w hg (by simpa using Ht) h1
 simp only[om] at fe;simp[Builtin.append_,run_underlying ht,sizeOf,typeInfo,hi,Builtin.lenOf,fJ,hf,Addr.add_lit,fe]
theorem zj6(h:Rel B g s a w){t ty:aD}{x y:a_}{yv v r:V}{dh:aG}
  (hy:ak s.env y=some yv) (hx:take s.env x=some (v,dh)) (hr:kb P s.H t v yv=some r) (l0:Nat) :
  ∃g' cv w',(Builtin.append_ #[t,t] ty #[a.eval x,a.eval y]).run P w=.ok cv w'/\Rel B g' { s with env:=dh } a w'/\aX g' r cv/\cW g' s.H.az.length w' (.slot B.d l0) r cv/\r.top<=s.H.az.length:=by
 obtain⟨y1,y3,_⟩:=zI h hy;unfold kb at hr;simp only[Option.bind_eq_bind,eM] at hr;obtain⟨td,ht,hr⟩:=hr;split at hr<;>try (cases hr;done)
 rename_i e;simp only[eM] at hr;obtain⟨n,hn,i,hi,z,hz,hr⟩:=hr;have tH:=Vx hn hi;split at hr<;>try (cases hr;done)
 rename_i Vy;have Eh:z.cells.size=n:=fo (by simpa using Vy)
 simp only[eM] at hr;obtain⟨ys,th,hr⟩:=hr;have OG:=yp h hn th y1 y3
 by_cases cK:ys=[]
 ·subst cK;obtain⟨ad,cap,n_,_⟩:=OG.form;obtain⟨g1,h1,v1,v2,v3,sF⟩:=vJ h hx (.slot B.d l0);have hzero:∃base oX sG,a.eval x=.slice base oX sG/\oX<=sG/\aX g1 r (a.eval x)/\cW g1 s.H.az.length w (.slot B.d l0) r (a.eval x)/\r.top<=s.H.az.length:=by
   split at hr
   ·simp only[bz] at hr;subst hr;have e:=v1.pM;exact⟨_,_,_,e,dB _,v1,trivial,dP _⟩
   ·split at hr<;>simp only[bz,reduceCtorEq] at hr;rename_i hc;simp only[eF] at hc;have e1:=fo hc.1.1.1;have e2:=fo hc.1.1.2;subst e1;subst e2;subst hr;simp only[nk];obtain⟨base,cap,f1,f2⟩:=v1.EV;exact⟨_,_,_,f1,f2,v1,v2,v3⟩
   ·cases hr
  obtain⟨base,oX,sG,e1,e2,r1,r2,r3⟩:=hzero;refine⟨g1,a.eval x,w,?_,h1,r1,r2,r3⟩;rw[n_];have:=wV (P:=P) (ty:=ty) ht hn (a.eval x) base oX sG e1 e2 ad cap w;exact this
 ·obtain⟨g1,h1,v1,v2,v3,sF⟩:=vJ h hx (.slot B.d s.env.length);have gv:=yp h1 (s:={ s with env:=dh }) hn th (sF.rel y1) y3;obtain⟨ad,cy,n_,lg⟩:=gv.form;obtain⟨a0,news,rfl,ec,gx⟩:=lg cK;have uW:0<ys.length:=Ki.2 cK;have lp:news.length=ys.length * i.size:=by rw[<- ec.len,qM gv.sized,tH]
  have sE:∀u∈news,u.oneCell'=true:=λu hu=>by
   obtain⟨j,hj⟩:=List.getElem?_of_mem hu;have sC:j<(zK ys).length:=by rw[ec.len];exact(dA.1 hj).1
   have hx:=gG sC;exact(ec.rel j _ u hx hj).nY (ec.one j _ hx)
  have p9:∀m,ku m i.bytes=true->m<=maxLen/\m * i.bytes<=140737488355328:=λm hm=>by
   simp only[ku,eF] at hm;exact⟨by have:=rA hm.1;simp only[maxLen];omega,rA hm.2⟩
  have k_:({ s with env:=dh }:St).env.length<=s.env.length:=by
   rw[h1.len,h.len];exact dB _
  have OH:s.env.length<=({ s with env:=dh }:St).env.length:=by
   rw[h1.len,h.len];exact dB _
  have fresh:∀(zs:aG),zs=ys->a.eval x=.slice none 0 0->ku ys.length i.bytes=true->r=.sl n ys (.yes e) ->
    ∃g' cv w',(Builtin.append_ #[t,t] ty #[a.eval x,a.eval y]).run P w=.ok cv w'/\Rel B g' { s with env:=dh } a w'/\aX g' r cv/\cW g' s.H.az.length w' (.slot B.d l0) r cv/\r.top<=s.H.az.length:=by
   intro _ _ I_ DG er;obtain⟨m1,m2⟩:=p9 _ DG;obtain⟨g2,k1,k2,k3⟩:=zgo h1 (e:=e) (sz:=n) (z:=z) gv.sized ec gv.aL Eh m1 0 (.slot B.d l0) (arr:=news.toArray) (by simp)
   refine⟨g2,_,_,?_,k1,by rw[er];exact k2,by rw[er];exact k3,by rw[er];exact gv.aL⟩
   rw[I_,n_];exact run_append_nil (P:=P) w t ty e i z ht hi hz a0 ys.length cy news lp gx uW (by simp only[maxLen] at m1;omega) (by omega)
  split at hr
  ·split at hr
   ·exact absurd rfl cK
   ·split at hr<;>simp only[bz,reduceCtorEq] at hr;rename_i hc;simp only[eF] at hc;have I_:a.eval x=.slice none 0 0:=v1.pM;exact fresh ys rfl I_ hc.1 hr.symm
  ·split at hr<;>simp only[bz,reduceCtorEq] at hr;rename_i sz xs e' hc;simp only[eF] at hc;have e1:=fo hc.1.1.1;have e2:=fo hc.1.1.2;subst e1;subst e2;obtain⟨m1,m2⟩:=p9 _ hc.2;have iD:fI g1 s.H.az.length w (.slot B.d s.env.length) e n xs.length (a.eval x):=v2;obtain⟨vs,ho,_⟩:=id iD;have hold:=zex h1 v1 ho;have pE:∀y:V,y∈xs->y.cells.length=n:=by
    generalize a.eval x=c at v1;cases v1;assumption
   have dG:∀y:V,y∈xs++ys->y.cells.length=n:=λy hy=>(tu.1 hy).elim (pE y) (gv.sized y);have uk:aL (xs++ys)<=s.H.az.length:=qO λy hy=>(tu.1 hy).elim (λh=>cZ (zn h) v3) (λh=>cZ (zn h) gv.aL);rcases id ho with⟨BC,⟨e3,e4⟩|⟨c,o,cap,cur,e3,lq,hle,sH,p_,mq⟩⟩
   ·have Gr:xs=[]:=List.length_eq_zero_iff.1 e4;subst Gr;exact fresh ys rfl e3 (by simpa using hc.2) (by simpa using hr.symm)
   ·by_cases EW:xs.length+ys.length<=cap
    ·obtain⟨g2,k1,k2,k3⟩:=zhN h1 v1 k_ OH iD dG ec uk (.slot B.d l0) e3 lq EW cK;refine⟨g2,_,_,?_,k1,by rw[<- hr];exact k2,by rw[<- hr];simpa[cW] using k3,by rw[<- hr];exact uk⟩
     rw[e3,n_];have p_:cur.size=o+cap * n:=by rcases p_ with h|h;omega;exact h
     have:=zb6 (P:=P) (w:=w) t ty e i ht hi c o xs.length cap cur lq a0 ys.length cy news lp gx sE EW (by rw[lp,tH,p_,p6,<- tv];exact Nat.add_le_add_left (Nat.mul_le_mul_right _ EW) _)
     rw[tH] at this;exact this
    ·have OI:bQ g1 (zK (xs++ys)) (vs++news):=hold.append ec;obtain⟨g2,k1,k2,k3⟩:=zgo h1 (e:=e) (sz:=n) (z:=z) dG OI uk Eh (by simpa using m1) cap (.slot B.d l0) (arr:=vs.toArray++news.toArray) (by simp)
     simp only[aZ] at k1 k2 k3;refine⟨g2,_,_,?_,k1,by rw[<- hr];exact k2,by rw[<- hr];simpa[cW] using k3,by rw[<- hr];exact uk⟩
     rw[e3,n_];exact run_append_grow (P:=P) w t ty e i z ht hi hz ⟨c,o,none⟩ xs.length cap vs (by rw[BC,tH]) (λj u hu=>by rw[Addr.add_lit];exact(show rowAt w e n (.slice (some ⟨c,o,none⟩) xs.length cap) xs.length vs from e3 ▸ ho).cells j u hu) a0 ys.length cy news lp gx (by omega) (by simp only[maxLen] at m1;omega) (growslice_fits (by omega) m2)
  ·cases hr
end
section
variable{P:aY}{B:dS}{g:Gh}{s:St}{a:Act}{w:aQ}
def eW(P:aY)(B:dS)(s':St)(a:Act)(w:aQ)(o:Oper)(v:V):Prop :=
 ∃g' cv w',(execOp a.eval o).run P w=.ok (.value cv) w'/\DC B g' s' a w' o.dst v cv
theorem zhO{w:aQ}{c:Nat}{cs:dR}{t:aD}(h:w.heap[c]?=some (.cells cs t (0,0)))(k:Nat):(w.freeze { block:=c,off:=cs.size } 1).heap[k]?=if k=c then some (.cells cs t (cs.size,cs.size+1)) else w.heap[k]?:=by
 unfold World.freeze;simp only[Nat.one_ne_zero,bD,Array.getElem?_modify]
 by_cases hk:k=c
 ·subst hk;simp[h]
 ·simp[hk,Ne.symm hk]
theorem zek{P:aY}{t e:aD}{w:aQ}{c o len cap:Nat}{cs:dR}{et:aD}(hs:P.underlying t=some (.slice e))(h8:P.underlying e=some (.int .u8))(h:w.heap[c]?=some (.cells cs et (0,0))) :
  (convert t t (.slice (some ⟨c,o,none⟩) len cap)).run P w=.ok (.slice (some ⟨c,o,none⟩) len cap) (w.freeze { block:=c,off:=cs.size } 1):=by
 have hsh:w.shape? c=some (et,cs.size):=by simp[World.shape?,h]
 simp[convert,run_underlying hs,run_underlying h8,markStringish,shape,freeze,Sem.run,hsh]
theorem znl(h:Rel B g s a w){src dst:aD}{x:a_}{o:Oper}{v:V}{dh:aG}(hm:ye P src dst x s.env=some (v,dh))(ho:o.op=.convert src dst x):eW P B { s with env:=dh } a w o v:=by
 unfold ye at hm;split at hm<;>try (cases hm;done)
 rename_i e Sz hs;have Vz:=fo Sz;subst Vz;split at hm<;>simp only[bz,reduceCtorEq,cq] at hm;rename_i sz y ys e' cR h8 ht;obtain⟨rfl,rfl⟩:=hm;obtain⟨g',k1,k2,k3,k4,_⟩:=vJ h ht (.slot B.d s.env.length);have hlen:cR.length=s.env.length:=by
  have:=k1.len.trans h.len.symm;simpa using this
 have VB:fI g' s.H.az.length w (.slot B.d s.env.length) e' sz (y::ys).length (a.eval x):=k3;obtain⟨vs,⟨_,cC⟩,iD⟩:=VB;rcases cC with⟨_,h0⟩|⟨c,ro,cap,cur,iW,hc,_⟩
 ·simp at h0
 obtain⟨o1,o2,o3⟩:=iD c (by rw[iW];rfl)
 rw[iW] at k2;have dJ:=zhO hc;have dy:∀ad,(w.freeze { block:=c,off:=cur.size } 1).cell? ad=w.cell? ad:=λad=>by
  simp only[World.cell?,dJ]
  by_cases e0:ad.block=c
  ·rw[if_pos e0,e0,hc]
  ·rw[if_neg e0]
 have oK:(w.freeze { block:=c,off:=cur.size } 1).heap.size=w.heap.size:=by simp[World.freeze]
 have hle:Gh.Le s.H.az.length g' { g' with own:=λk=>if k=c then none else g'.own k }:=⟨λ_ _ _ h=>h,λ_ _=>rfl,rfl,λ_ _ _ _ h=>h⟩
 have iN:gS B.d none (some (.slot B.d s.env.length)) s.H.az.length g' w { g' with own:=λk=>if k=c then none else g'.own k } (w.freeze { block:=c,off:=cur.size } 1):=by
  refine⟨hle,λk _ _ hk=>?_,λk _ hk=>?_,λ_ _ _ _=>rfl,by rw[oK];exact dB _,λ_ _ _=>rfl,λl hl=>.inl ⟨_,(BQ hl).symm⟩,λb hb=>(by cases hb),λ_ _ _ _=>rfl,rfl,rfl,rfl⟩
  ·have cK:¬k=c:=λe0=>hk _ rfl (by rw[e0];exact o1)
   rw[dJ,if_neg cK]
  ·have cK:¬k=c:=λe0=>hk _ rfl (by rw[e0];exact o1)
   simp only;rw[if_neg cK]
 refine⟨{ g' with own:=λk=>if k=c then none else g'.own k },.slice (some ⟨c,ro,none⟩) (y::ys).length cap,w.freeze { block:=c,off:=cur.size } 1,?_,?_,?_,λ_ _=>trivial,k4⟩
 ·simp only[execOp,ho,iW,Sem.run_bind,zek hs h8 hc,Result.andThen_ok,Sem.run_pure]
 ·refine k1.lf (b0:=none) (l0:=some (.slot B.d s.env.length)) iN (dB _) (λ_ _ _=>rfl) (λb x hb hx=>?_) (λb h1 h2=>?_) (λb b' h1 h2=>?_) (λc' o' v' lV=>?_) (λc' l hl=>?_) (λb j e0=>by cases e0) rfl rfl (λt x hx=>⟨x,hx,.inl ⟨rfl,λe0=>?_⟩⟩) k1.bJ k1.lK k1.oI (λt e0=>?_)
  ·rcases hb with hb|hb
   ·cases hb
   ·exact absurd (dA.1 hx).1 (Nat.not_lt.2 hb)
  ·exact absurd h2 (Nat.not_lt.2 h1)
  ·exact absurd h2 (Nat.not_lt.2 h1)
  ·rw[dy];exact k1.di.mem c' o' v' lV
  ·simp only at hl;rw[oK];split at hl
   ·cases hl
   ·exact k1.di.eI c' l hl
  ·simp only[bz,Loc.slot.injEq,lJ] at e0;have:=(dA.1 hx).1;simp only at this;omega
  ·simp only[bz,Loc.slot.injEq,lJ] at e0;simp only;omega
 ·exact(k2.le hle k4).bg
def oY(P:aY)(B:dS)(s':St)(a:Act)(w:aQ)(o:Oper):Prop :=
 ∃g' w',(execOp a.eval o).run P w=.ok .skip w'/\Rel B g' s' a w'
theorem VC(g:Gh)(n N:Nat):aX (g.var n N) (.ptr n 0) (.pointer (some ⟨N,0,none⟩)):=by
 have:=aX.ptr (g:=g.var n N) n 0;simpa[Gh.var] using this
theorem zk6(h:Rel B g s a w){t:aD}{z:V}(hz:qL P t=some z)(hc:dD z=true){o:Oper}(ho:o.op=.alloc t) :
  eW P B { s with H:=s.H.push (.cells z.cells t) } a w o (.ptr s.H.az.length 0):=by
 obtain⟨cz,z1,z2,z3,_,z5⟩:=yA (g:=g) hz w;have ec:=vn z2 hc
 have lp:=λx hx=>xX (v:=cz) (z:=z) (by
  simp only[qL,eM] at hz;obtain⟨i,hi,zz,M_,hv⟩:=hz;simp only[hi,aV] at z5
  rw[M_] at z5;cases z5;exact hv) x hx
 refine⟨g.var s.H.az.length w.heap.size,.pointer (some ⟨w.heap.size,0,none⟩),w.alloc (.cells cz.cells t),?_,?_,?_,λ_ _=>trivial,?_⟩
 ·simp[execOp,ho,Instr.alloc,z1,newVar,newRow]
 ·refine h.p8 ec (qO λx hx=>cZ (Sl hx) (by omega)) λj x v hx hv=>⟨?_,λsz xs e=>lp x (zw hx) _ _ _ e⟩
  cases x with
  | sl sz xs o=>exact absurd rfl (lp _ (zw hx) sz xs o)
  | _=>trivial
 ·exact VC _ _ _
 ·simp[V.top,Hp.push]
theorem zo0(h:Rel B g s a w){t:aD}{x:a_}{v:V}{dh:aG}(ht:take s.env x=some (v,dh))(hc:dD v=true){o:Oper}(ho:o.op=.box t x) :
  eW P B { s with env:=dh,H:=s.H.push (.cells v.laid t) } a w o (.ptr s.H.az.length 0):=by
 obtain⟨g',h1,v1,v2,v3,sF⟩:=vJ h ht (.cell s.H.az.length 0);obtain⟨l1,l2,l3⟩:=Vp v1 hc v2 (y7 ht) v3;refine⟨g'.var s.H.az.length w.heap.size,.pointer (some ⟨w.heap.size,0,none⟩),w.alloc (.cells (a.eval x).cells t),?_,?_,?_,λ_ _=>trivial,?_⟩
 ·simp[execOp,ho,Instr.box,newVar,newRow]
 ·exact h1.p8 l1 l2 λj y u hy hu=>by have:=l3 j y u hy hu;rw[oh] at this;exact this
 ·exact VC _ _ _
 ·simp[V.top,Hp.push]
theorem zhP(h:Rel B g s a w){t:aD}{o:Oper}(ho:o.op=.makeMap t none):eW P B { s with H:=s.H.push (.map []) } a w o (.map s.H.az.length):=by
 have hv:(g.var s.H.az.length w.heap.size).bT s.H.az.length=w.heap.size:=by simp[Gh.var]
 refine⟨g.var s.H.az.length w.heap.size,.map (some w.heap.size),w.alloc (.map #[] 0),?_,?_,?_,λ_ _=>trivial,?_⟩
 ·simp[execOp,ho,Instr.makeMap]
 ·refine h.push (.map []) rfl rfl rfl rfl ⟨#[],0,?_,rfl,λj x me hx=>by simp at hx⟩ (by simp[bq.top,aL])
  rw[hv];exact Vo (w':=w.alloc (.map #[] 0)) rfl
 ·have:=aX.map (g:=g.var s.H.az.length w.heap.size) s.H.az.length;rw[hv] at this;exact this
 ·simp[V.top,Hp.push]
theorem zk7(h:Rel B g s a w){t:aD}{x:a_}{l:bO}(ht:P.underlying t=some .string)(hx:ak s.env x=some (.str l)){o:Oper}(ho:o.op=.range t x) :
  eW P B { s with H:=s.H.push (.iter l 0) } a w o (.ptr s.H.az.length 0):=by
 have x1:=(zI h hx).1;generalize Ja:a.eval x=cx at x1;cases x1 with
 | str hl =>
  have hv:(g.var s.H.az.length w.heap.size).bT s.H.az.length=w.heap.size:=by simp[Gh.var]
  refine⟨g.var s.H.az.length w.heap.size,.pointer (some ⟨w.heap.size,0,none⟩),w.alloc (.stringIter (bytes l) 0),?_,?_,?_,λ_ _=>trivial,?_⟩
  ·simp[execOp,ho,Instr.range,Ja,run_underlying ht]
  ·refine h.push (.iter l 0) rfl rfl rfl rfl ⟨?_,hl⟩ (by simp[bq.top])
   rw[hv];exact Vo (w':=w.alloc (.stringIter (bytes l) 0)) rfl
  ·exact VC _ _ _
  ·simp[V.top,Hp.push]
theorem zk8{n:Nat}{z:V}{cz:bC}(hz:aX g z cz)(ek:dD z=true)(hl:z.cells.length=n)(hn:n≠0)(len:Nat):bQ g (zK (List.replicate len z)) (madeCells cz.cells (len * n)).toList:=by
 have Bz:=vn hz ek;have ES:cz.cells.size=n:=by rw[<- hl,Bz.len];simp
 have nZ:(zK (List.replicate len z)).length=len * n:=by rw[qM (sz:=n) λy hy=>by rw[(List.mem_replicate.1 hy).2];exact hl];simp
 refine⟨by rw[nZ];simp[madeCells],λj x hx=>?_,λj x v hx hv=>?_⟩
 ·have hj:j<len * n:=by rw[<- nZ];exact(dA.1 hx).1
  rw[ww hl len j hj] at hx;exact Bz.one _ x hx
 ·have hj:j<len * n:=by rw[<- nZ];exact(dA.1 hx).1
  rw[ww hl len j hj] at hx;have hm:j % n<cz.cells.size:=by rw[ES];exact Nat.mod_lt _ (by omega)
  simp only[madeCells,Array.toList_map,Array.toList_range,mu,Kj,hj,aW,bz,ES] at hv;rw[getElem!_pos cz.cells (j % n) hm] at hv;refine Bz.rel _ x v hx ?_;rw[F9,D_ hm,hv]
theorem zaW(z:V):∀n,(List.replicate n z.cells).flatten=zK (List.replicate n z)
 | 0=>rfl
 | n+1=>by simp only[G3,List.flatten_cons,zaW z n,zK,Eb]
theorem zfh(h:Rel B g s a w){t e:aD}{lx cx:a_}{k k':IntKind}{l c:Int}{n:Nat}{i:TypeInfo}{z:V}(ht:P.underlying t=some (.slice e))(hlx:ak s.env lx=some (.int k l))(iY:ak s.env cx=some (.int k' c))
  (hn:z4 P e=some n) (hi:P.info? e=some i) (hz:qL P e=some z) (hc:(Nat.beq n 0 || l<0 || c<l || !ku c.toNat i.bytes || !Nat.beq z.cells.length n || !dD z)=false) {o:Oper} (ho:o.op=.makeSlice t lx cx) :
  (l=0->eW P B s a w o (.sl n [] (.yes e)))/\eW P B { s with H:=s.H.push (.cells (List.replicate c.toNat z.cells).flatten e) } a w o (.sr s.H.az.length 0 l.toNat c.toNat):=by
 simp only[Bool.or_eq_false_iff,Bool.not_eq_false',decide_eq_false_iff_not] at hc;obtain⟨⟨⟨⟨⟨c1,c2⟩,c3⟩,c4⟩,c5⟩,ek⟩:=hc;have AM:n≠0:=by intro e;subst e;simp at c1
 have VD:z.cells.length=n:=fo c5;simp only[ku,eF] at c4;have b1:=rA c4.1;have b2:=rA c4.2;obtain⟨cz,z1,z2,z3,_,z5⟩:=yA (g:=g) hz w;simp only[hi,aV] at z5;have l1:=(zI h hlx).1;have k1:=(zI h iY).1;generalize hle:a.eval lx=cl at l1;generalize BB:a.eval cx=cc at k1;cases l1;cases k1;have tH:=Vx hn hi;have KO:(i.bytes:Int) * c<=281474976710656:=by
  have h1:(i.bytes:Int) * c=((c.toNat * i.bytes:Nat):Int):=by
   rw[Int.natCast_mul,Int.toNat_of_nonneg (by omega),Int.mul_comm]
  rw[h1];omega
 have cL:=run_make (P:=P) w t e i cz ht hi z5 k k' l c (by omega) (by omega) KO (by omega)
 have EX:(execOp a.eval o).run P w=.ok (.value (.slice (some ⟨w.heap.size,0,none⟩) l.toNat c.toNat)) (w.alloc (.cells (madeCells cz.cells (c.toNat * i.size)) e)):=by
  simp[execOp,ho,hle,BB,cL]
 constructor
 ·intro h0;subst h0;refine⟨_,_,_,EX,h.settle [] (some (.slot B.d (o.dst.getD 0))) (by simp) (λj hj=>Go.heap_alloc_old w _ hj) (λ_ _ e=>by simp at e) rfl rfl rfl,?_,λd hd=>?_,dP _⟩
  ·exact .sl (c:=w.heap.size) (o:=0) (λ_=>.nilFunc) (λ_ e=>by simp at e) (dP _) (λe=>absurd rfl e) (λ_ _ e=>by simp[zK] at e) (λ_ _ e=>by simp[zK] at e) (λ_ _ e=>by simp[zK] at e)
  ·refine⟨[],zgc (World.ownsRow_made w _ c.toNat (dP _) (by simp only[maxLen];omega) (by rw[size_madeCells,tH])),λc' eA=>?_⟩
   simp only[Value.ownBlock,bz] at eA;subst eA;refine⟨by simp[Gh.row,hd],λo' _ _=>by simp[Gh.row],λb hb e=>?_⟩
   have:=h.di.lt b hb;simp only[Gh.row] at e;omega
 ·have hm:=zk8 z2 ek VD AM c.toNat
  have lp:=λx hx=>xX (v:=cz) (z:=z) (by
   simp only[qL,eM] at hz;obtain⟨i',EM,zz,M_,hv⟩:=hz;rw[hi] at EM;cases EM
   rw[M_] at z5;cases z5;exact hv) x hx
  have e_:∀x∈zK (List.replicate c.toNat z),∀sz xs o,x≠.sl sz xs o:=λx hx=>by
   obtain⟨y,hy,He⟩:=List.mem_flatMap.1 hx;rw[(List.mem_replicate.1 hy).2] at He;exact lp x He
  have hv:(g.var s.H.az.length w.heap.size).bT s.H.az.length=w.heap.size:=by simp[Gh.var]
  rw[tH] at EX;refine⟨g.var s.H.az.length w.heap.size,_,_,EX,?_,?_,λ_ _=>trivial,by simp[V.top,Hp.push]⟩
  ·rw[zaW];refine h.p8 hm (qO λx hx=>?_) λj x v hx lV=>⟨?_,λsz xs e=>e_ x (zw hx) _ _ _ e⟩
   ·obtain⟨y,hy,He⟩:=List.mem_flatMap.1 hx;rw[(List.mem_replicate.1 hy).2] at He;exact cZ (Sl He) (by omega)
   ·cases x with
    | sl sz xs o=>exact absurd rfl (e_ _ (zw hx) sz xs o)
    | _=>trivial
  ·have:=aX.sr (g:=g.var s.H.az.length w.heap.size) (b:=s.H.az.length) (off:=0) (show l.toNat<=c.toNat by omega)
   rw[hv] at this;exact this
theorem VE{sz:Nat}{xs:aG}(hs:∀y:V,y∈xs->y.cells.length=sz){c j:Nat}{y:V}(h:(zK (xs.drop c))[j]?=some y):(zK xs)[c * sz+j]?=some y :=
 yz (b:=xs.length) hs (by rw[Gc];exact h)
theorem zk9(h:Rel B g s a w){t:aD}{x:a_}{lo:Option a_}{o:Oper}{v:V}{dh:aG}(hm:Kw P t x lo s.env=some (v,dh))(ho:o.op=.slice t x lo none none):eW P B { s with env:=dh } a w o v:=by
 unfold Kw at hm;split at hm<;>try (cases hm;done)
 rename_i e' sz xs e cR k i ht hx iB;split at hm<;>try (cases hm;done)
 rename_i n hn;split at hm<;>simp only[bz,reduceCtorEq,cq] at hm;rename_i hc;obtain⟨rfl,rfl⟩:=hm;simp only[eF,decide_eq_true_eq] at hc;obtain⟨⟨c1,c2⟩,c3⟩:=hc;obtain rfl:=fo c1;have c3:=rA c3;have Ei:=Hh h iB;obtain⟨g',k1,k2,k3,k4,_⟩:=vJ h hx (.slot B.d (o.dst.getD 0));have VB:fI g' s.H.az.length w (.slot B.d (o.dst.getD 0)) e n xs.length (a.eval x):=k3;obtain⟨vs,cC,iD⟩:=VB
 have hu:=run_underlying ht w;generalize hi:i.toNat=j at *;generalize I_:a.eval x=cv at *;cases k2 with
 | sl f h1 h2 h3 h4 h5 h6 =>
  rename_i ad cap cb ro;have dw:=xi (P:=P) (isSlice:=true) (lo:=some (.int k i)) (hi:=none) (Ee:=none) (len:=xs.length) (l:=j) (h:=xs.length) Ei trivial rfl (by simp[ka,c2,hi]) c3 (dB _) h2 w
  have hlen:(xs.drop j).length=xs.length - j:=by simp
  have cL:(execOp a.eval o).run P w=.ok (.value (.slice (if cap=j then ad else ad.map (·.add (j * n))) (xs.length - j) (cap - j))) w:=by
   simp[execOp,ho,I_,Instr.sliceAt,hu,Instr.slice,dw,jA hn]
  refine⟨g',_,w,cL,k1,?_,λd hd=>?_,cZ (qO λy hy=>zn (BP hy)) k4⟩
  ·rw[<- hlen];refine .sl (c:=cb) (o:=ro+j * n) (λq=>f (j * n+q)) (λy hy=>h1 y (BP hy)) (by rw[hlen];omega) (λcK=>?_) (λq y hq=>h4 _ y (VE h1 hq)) (λq y hq=>?_) (λq y hq=>h6 _ y (VE h1 hq))
   ·have:0<xs.length - j:=by rw[<- hlen];exact Ki.2 cK
    rw[if_neg (by omega),h3 (by rintro rfl;simp at cK)]
    simp[Addr.add_lit]
   ·rw[p6];exact h5 _ y (VE h1 hq)
  ·have Jb:o.dst.getD 0=d:=by rw[hd];rfl
   subst Jb;show fI g' s.H.az.length w _ e n (xs.drop j).length _;rw[hlen];obtain⟨r1,⟨r2,r3⟩|⟨c,VF,oU,cur,r2,r3,r4,r5,r6,r7⟩⟩:=cC
   ·simp only[Value.slice.injEq] at r2;obtain⟨rfl,_,rfl⟩:=r2;have hj:j=0:=by omega
    subst hj;simp only[aI,r3,Nat.zero_sub];exact⟨[],⟨by simp,.inl ⟨rfl,rfl⟩⟩,λc hc=>(by cases hc)⟩
   ·simp only[Value.slice.injEq,lJ] at r2;obtain⟨rfl,rfl⟩:=r2;obtain⟨o1,o2,o3⟩:=iD c rfl
    by_cases VG:cap=j
    ·rw[if_pos VG];have Gr:xs.length - j=0:=by omega
     rw[Gr,VG,Dt];refine⟨[],⟨by simp,.inr ⟨c,VF,0,cur,rfl,r3,dB _,by simp[maxLen],.inl rfl,by simp⟩⟩,λc' eA=>?_⟩
     cases eA;exact⟨o1,λq q1 q2=>by simp only at q1 q2;omega,o3⟩
    ·rw[if_neg VG];simp only[aW,Addr.add_lit];have ec:cur.size=VF+cap * n:=by rcases r6 with r6|r6;omega;exact r6
     refine⟨vs.drop (j * n),⟨by rw[List.length_drop,r1,Nat.sub_mul],.inr ⟨c,VF+j * n,cap - j,cur,rfl,r3,by omega,by omega,.inr ?_,?_⟩⟩,λc' eA=>?_⟩
     ·rw[ec,p6,<- tv]
      congr 2
      omega
     ·rw[<- r7,<- List.drop_drop,List.drop_take,Nat.sub_mul]
     ·cases eA;refine⟨o1,λq q1 q2=>o2 q ?_ ?_,o3⟩
      ·simp only at q1 ⊢;have:j * n+(xs.length - j) * n=xs.length * n:=by rw[<- tv];congr 1;omega
       omega
      ·simp only at q2 ⊢;have:j * n+(cap - j) * n=cap * n:=by rw[<- tv];congr 1;omega
       omega
theorem znm(h:Rel B g s a w){t:aD}{p:a_}{b off sz:Nat}{xs:aG}{e:aD}{cs:aG}{ty:aD}(DE:qG P t=some false)(hp:ak s.env p=some (.ptr b off))(hb:s.H.get b=some (.cells cs ty))
  (hc:cs[off]?=some (.sl sz xs (.yes e))) {o:Oper} (ho:o.op=.load t p) :
  eW P B { s with H:=s.H.set b (.cells (cs.set off (.sl sz xs .lock)) ty),lk:=(b,off)::s.lk } a w o (.sl sz xs (.yes e)):=by
 have p1:=(zI h hp).1;generalize Oz:a.eval p=cp at p1;cases p1;have mX:s.H.az[b]?=some (.cells cs ty):=by simpa[Hp.get,zg] using hb
 have lM:b<s.H.az.length:=(dA.1 mX).1;obtain⟨arr,a1,a2,a3⟩:=h.di.ok b _ mX;have dH:=h.di.aL b _ mX;have DF:off<cs.length:=(dA.1 hc).1;have hoa:off<arr.size:=by omega
 have iW:arr[off]?=some arr[off]:=D_ hoa;generalize arr[off]=cv at iW;obtain⟨c1,c2,c3,_⟩:=a3 off _ cv hc iW;have iD:fI g s.H.az.length w (.cell b off) e sz xs.length cv:=c3;have dy:w.cell? ⟨g.bT b,off,none⟩=some cv:=by rw[cell_of_row w _ _ arr _ _ a1];exact iW
 have cL:(execOp a.eval o).run P w=.ok (.value cv) w:=by
  simp[execOp,ho,Oz,Instr.loadAt,Instr.sureAddr,loadVar,Sm DE,dy]
 let l1:Loc:=.slot B.d (o.dst.getD 0)
 let g':Gh:={ g with own:=λc=>if cv.ownBlock=some c then some l1 else g.own c,lk:=λb' o'=>if b'=b/\o'=off then cv else g.lk b' o' }
 have KP:∀c,(∀l,some (Loc.cell b off)=some l->g.own c≠some l)->cv.ownBlock≠some c:=λc eA e=>by
  obtain⟨vs,_,Nd⟩:=iD;exact eA _ rfl (Nd c e).1
 have iN:gS B.d (some b) (some (.cell b off)) s.H.az.length g w g' w :=
  ⟨⟨λ_ _ _ e=>e,λ_ _=>rfl,rfl,λ_ _ _ _ e=>e⟩,λ_ _ _ _=>rfl,λc _ eA=>by show(if _ then _ else _)=_;rw[if_neg (KP c eA)],λ_ _ _ _=>rfl,dB _,
   λb' o' hl=>by show(if _ then _ else _)=_;rw[if_neg];rintro⟨rfl,rfl⟩;exact hl _ rfl rfl,λl hl=>.inr ⟨b,off,by cases hl;rfl,rfl⟩,λb' dw=>by cases dw;exact lM,λ_ _ _ _=>rfl,rfl,rfl,rfl⟩
 have lp:¬ju s.H.az b off:=by
  rintro⟨cs',t',Ox,BY,h1,h2⟩;rw[mX] at h1;cases h1;rw[hc] at h2;cases h2
 have hlen:(s.H.set b (.cells (cs.set off (.sl sz xs .lock)) ty)).az.length=s.H.az.length:=by simp[Hp.set]
 have CZ:(s.H.set b (.cells (cs.set off (.sl sz xs .lock)) ty)).az[b]?=some (.cells (cs.set off (.sl sz xs .lock)) ty):=by simp[Hp.set,lM]
 have sI:∀b',b'≠b->(s.H.set b (.cells (cs.set off (.sl sz xs .lock)) ty)).az[b']?=s.H.az[b']?:=λb' cK=>by simp[Hp.set,r8 (Ne.symm cK)]
 have C0:(bq.cells (cs.set off (.sl sz xs .lock)) ty).top<=(bq.cells cs ty).top :=
  Ve (cs:=cs) (dB _) (by show aL xs<=_;exact zn (zw hc))
 have OJ:∀b' o',ju s.H.az b' o'->ju (s.H.set b (.cells (cs.set off (.sl sz xs .lock)) ty)).az b' o':=by
  rintro b' o' ⟨cs',t',Ox,BY,h1,h2⟩
  by_cases e1:b'=b
  ·subst e1;rw[mX] at h1;cases h1
   by_cases e2:o'=off
   ·subst e2;exact⟨_,_,sz,xs,CZ,BO DF⟩
   ·exact⟨_,_,Ox,BY,CZ,by rw[r8 (Ne.symm e2)];exact h2⟩
  ·exact⟨cs',t',Ox,BY,by rw[sI b' e1];exact h1,h2⟩
 have hR:Rel B g' { s with H:=s.H.set b (.cells (cs.set off (.sl sz xs .lock)) ty),lk:=(b,off)::s.lk } a w:=by
  refine h.lf (s':={ s with H:=s.H.set b (.cells (cs.set off (.sl sz xs .lock)) ty),lk:=(b,off)::s.lk }) iN (by rw[hlen];exact dB _) (λb' _ cK=>sI b' λe=>cK (by rw[e])) (λb' x C1 hx=>?_) (λb' h1 h2=>?_) (λb1 b2 h1 h2=>?_) h.di.mem (λc l gI=>?_)
   (λb' j e=>by cases e;exact lp) rfl rfl (λt x hx=>⟨x,hx,.inl ⟨rfl,λe=>by cases e⟩⟩) (λb' x hx=>?_) (λb' o' hl=>OJ b' o' (h.lK b' o' hl)) (λq hq=>?_) (λ_ e=>by cases e)
  ·have dw:b'=b:=by
    rcases C1 with C1|C1
    ·cases C1;rfl
    ·have:=(dA.1 hx).1;rw[hlen] at this;omega
   subst dw;rw[CZ] at hx;cases hx;rw[hlen];refine⟨⟨arr,a1,by simpa using a2,λj x v hx hv=>?_⟩,cZ C0 dH⟩
   by_cases e2:j=off
   ·subst e2;rw[BO DF] at hx;cases hx;rw[iW] at hv;cases hv;refine⟨rfl,?_,trivial,?_⟩
    ·have:=c2.le iN.le (cZ (zn (zw hc)) dH);cases this with
     | sl f h1 h2 h3 h4 h5 h6=>exact .sl f h1 h2 h3 h4 h5 h6
    ·show cv=(if _ then _ else _)
     rw[if_pos ⟨rfl,rfl⟩]
   ·rw[r8 (Ne.symm e2)] at hx;obtain⟨d1,d2,d3,d4⟩:=a3 j x v hx hv;refine⟨d1,d2.le iN.le (cZ (zn (zw hx)) dH),cW.same iN (λe=>by cases e;exact e2 rfl) (λb1 h2 h3=>absurd h3 (Nat.not_lt.2 h2)) d3,?_⟩
    unfold Oq at *;split
    ·show v=(if _ then _ else _)
     rw[if_neg (λe=>e2 e.2)];exact d4
    ·trivial
  ·rw[hlen] at h2;omega
  ·rw[hlen] at h2;omega
  ·simp only[g'] at gI;split at gI
   next e=>exact iD.lt c e
   ·exact h.di.eI c l gI
  ·by_cases e1:b'=b
   ·subst e1;rw[show({ s with H:=s.H.set b' (.cells (cs.set off (.sl sz xs .lock)) ty),lk:=(b',off)::s.lk }:St).H.az[b']?=_ from CZ] at hx;cases hx;rcases h.bJ b' _ mX with h1|⟨m,h1,h2⟩|⟨y,h1,h2⟩
    ·exact .inl (cZ C0 h1)
    ·exact .inr (.inl ⟨m,h1,cZ C0 h2⟩)
    ·exact .inr (.inr ⟨y,h1,cZ C0 h2⟩)
   ·rw[show({ s with H:=s.H.set b (.cells (cs.set off (.sl sz xs .lock)) ty),lk:=(b,off)::s.lk }:St).H.az[b']?=s.H.az[b']? from sI b' e1] at hx;exact h.bJ b' x hx
  ·rcases dM.1 hq with rfl|hq
   ·exact λhl=>lp (h.lK b off hl)
   ·exact h.oI q hq
 have htx:aL xs<=s.H.az.length:=cZ (show(V.sl sz xs (.yes e)).top<=_ from zn (zw hc)) dH;refine⟨g',cv,w,cL,hR,c2.le iN.le (cZ (zn (zw hc)) dH),λd hd=>?_,by rw[hlen];exact htx⟩
 obtain⟨vs,Sy,Nd⟩:=iD;refine⟨vs,Sy,λc eA=>⟨?_,(Nd c eA).2.1,?_⟩⟩
 ·show(if _ then _ else _)=_
  rw[if_pos eA];simp only[l1,hd,gm]
 ·rw[hlen];exact(Nd c eA).2.2
end
section
variable{P:aY}{B:dS}{g:Gh}{s:St}{a:Act}{w:aQ}
theorem zo1{s':St}{o:Oper}{v:V}(h:eW P B s' a w o v){K:Act->aQ->Prop}{Q:Exit->Act->aQ->Prop}(hk:∀g' cv w',DC B g' s' a w' o.dst v cv->K (a.put o.dst cv) w'):o.wp P a w K Q:=by
 obtain⟨g',cv,w',h1,h2⟩:=h;unfold Oper.wp;rw[h1,Oper.upon_value];exact hk g' cv w' h2
theorem wp_skip{s':St}{o:Oper}(h:oY P B s' a w o){K:Act->aQ->Prop}{Q:Exit->Act->aQ->Prop}(hk:∀g' w',Rel B g' s' a w'->K (a.put o.dst undef) w'):o.wp P a w K Q:=by
 obtain⟨g',w',h1,h2⟩:=h;unfold Oper.wp;rw[h1,Oper.upon_skip];exact hk g' w' h2
theorem zgp(h:Rel B g s a w){x:a_}{v:V}{dh:aG}(ht:take s.env x=some (v,dh)){o:Oper}(ho:o.op=.move x\/o.op=.assign x):eW P B { s with env:=dh } a w o v:=by
 obtain⟨g',h1,v1,v2,v3,_⟩:=vJ h ht (.slot B.d (o.dst.getD 0));refine⟨g',a.eval x,w,by rcases ho with ho|ho<;>simp[execOp,ho],h1,v1,λd hd=>?_,v3⟩
 simpa[hd] using v2
theorem znn(h:Rel B g s a w){x:a_}{v:V}{t ty:aD}{n:Int}(hx:ak s.env x=some v)(hl:qW P s.H t v=some n):(Builtin.len_ #[t] ty #[a.eval x]).run P w=.ok (.int .i64 n) w:=by
 have x1:=(zI h hx).1;unfold qW at hl;split at hl
 next ht=>simp only[bz] at hl;subst hl;generalize a.eval x=c at x1;cases x1;simp[Builtin.len_,run_underlying ht,goInt,kJ]
 next ht=>simp only[bz] at hl;subst hl;rw[x1.pM];simp[Builtin.len_,run_underlying ht,goInt]
 next ht=>simp only[bz] at hl;subst hl;obtain⟨b,c,e,_⟩:=x1.EV;rw[e];simp[Builtin.len_,run_underlying ht,goInt]
 next ht=>simp only[bz] at hl;subst hl;generalize a.eval x=c at x1;cases x1;simp[Builtin.len_,run_underlying ht,goInt]
 next ht=>simp only[bz] at hl;subst hl;generalize a.eval x=c at x1;cases x1;simp[Builtin.len_,run_underlying ht,goInt]
 next ht=>simp only[bz] at hl;subst hl;generalize a.eval x=c at x1;cases x1;simp[Builtin.len_,run_underlying ht,goInt]
 ·rename_i b ht;split at hl<;>simp only[bz,reduceCtorEq] at hl;rename_i es hb;subst hl;obtain⟨en,ck,e1,e2,_⟩:=xW h hb;generalize a.eval x=c at x1;cases x1;have hg:(getObj (g.bT b)).run P w=.ok (.map en ck) w:=by simp[getObj,Sem.run,e1]
  have:es.length=en.size:=by have:=e2.len;simpa using this
  simp[Builtin.len_,run_underlying ht,hg,goInt,this]
 ·cases hl
theorem zey(h:Rel B g s a w){x y:a_}{k k':IntKind}{m n:Int}(hx:ak s.env x=some (.int k m))(hy:ak s.env y=some (.int k' n))(ps:Array aD)(ty:aD) :
  (Builtin.min_ ps ty #[a.eval x,a.eval y]).run P w=.ok (.int k (if n<m then n else m)) w/\(Builtin.max_ ps ty #[a.eval x,a.eval y]).run P w=.ok (.int k (if n > m then n else m)) w:=by
 have x1:=(zI h hx).1;have y1:=(zI h hy).1;generalize a.eval x=c at x1;generalize a.eval y=d at y1;cases x1;cases y1;constructor
 ·simp[Builtin.min_,Builtin.min2]
 ·simp[Builtin.max_,Builtin.max2]
end
section
variable{P:aY}{B:dS}{g:Gh}{s:St}{a:Act}{w:aQ}
structure lW(d:Nat)(H:Hp)(g:Gh)(w:aQ)(H':Hp)(g':Gh)(w':aQ):Prop where
 di:p7 g' H'.az w'
 fr:Fr d H.az g w g' w'
 len:H.az.length<=H'.az.length
 dZ:∀b,H.az.length<=b->b<H'.az.length->w.heap.size<=g'.bT b
 bJ:∀(b:Nat)(x:bq),H'.az[b]?=some x->x.top<=b+1\/(∃m,(b,m)∈H'.bJ/\x.top<=m)\/∃y:bq,H.az[b]?=some y/\x.top<=y.top
 DH:∀p∈H.bJ,p∈H'.bJ
 lK:∀b off,ju H.az b off->ju H'.az b off
def fA(d:Nat)(H:Hp)(g:Gh)(w:aQ)(l:Loc)(out:Out)(H':Hp):Ending->aQ->Prop
 | .returned cv,w'=>∃v g',out=.ret v/\lW d H g w H' g' w'/\aX g' v cv/\cW g' H'.az.length w' l v cv/\v.top<=H'.az.length
 | .panicked chain,w'=>∃v cv g',out=.pX v/\chain=[{ v:=cv,recovered:=false }]/\lW d H g w H' g' w'/\aX g' v cv/\v.top<=H'.az.length
 | .outgrown,_=>False
def zgq(args:aG):Prop:=∀x∈args,∀sz xs e,x≠.sl sz xs (.yes e)
structure eS(g:Gh)(n:Nat)(args:aG)(bG:dR):Prop where
 len:args.length=bG.size
 rel:∀(j:Nat)(x:V)(v:bC),args[j]?=some x->bG[j]?=some v->aX g x v
 top:aL args<=n
 no:zgq args
def xA(P:aY)(gl:Nat->Nat->cj)(call:FuncId->aG->Hp->Option (Out×Hp))(d:Nat):Prop :=
 ∀f args H out H',call f args H=some (out,H')->∀g w bG l,iu P gl g->p7 g H.az w->eS g H.az.length args bG->Calls P f bG w (fA d H g w l out H')
theorem rU.mono{d d' n:Nat}(h:d<=d'){c:Nat}(hp:rU d' n g w c):rU d n g w c :=
 ⟨hp.1,hp.2.1,hp.2.2.imp id λ⟨k,t,e,hk⟩=>⟨k,t,e,Kl h hk⟩⟩
theorem Fr.mono{d d':Nat}(h:d<=d'){bs:List bq}{g':Gh}{w':aQ}(hf:Fr d bs g w g' w'):Fr d' bs g w g' w' :=
 ⟨hf.le,λc hc=>hf.heap c (hc.mono h),λc hc=>hf.own c (hc.mono h),λc hc=>hf.M c (hc.mono h),hf.size,hf.lk,hf.os,hf.tape,hf.output⟩
theorem cW.after{d dd t:Nat}(hd:d<dd){H H':Hp}{g':Gh}{w':aQ}(hA:lW d H g w H' g' w'){x:V}{cv:bC}(h:cW g H.az.length w (.slot dd t) x cv):cW g' H'.az.length w' (.slot dd t) x cv:=by
 unfold cW at *;split
 ·rename_i sz xs e;have h':fI g H.az.length w (.slot dd t) e sz xs.length cv:=h;have bW:=h'.lt;obtain⟨vs,h1,h2⟩:=h';have hp:∀c,cv.ownBlock=some c->rU d H.az.length g w c:=λc hc=>⟨bW c hc,(h2 c hc).2.2,.inr ⟨dd,t,(h2 c hc).1,hd⟩⟩;refine⟨vs,zaV h1 λc hc=>hA.fr.heap c (hp c hc),λc hc=>⟨?_,?_,λb hb e=>?_⟩⟩
  ·rw[hA.fr.own c (hp c hc)];exact(h2 c hc).1
  ·exact(h2 c hc).2.1.eq λo=>hA.fr.M c (hp c hc) o
  ·rcases eY b H.az.length with dw|dw
   ·exact(h2 c hc).2.2 b dw ((hA.fr.le.bT b dw).symm.trans e)
   ·have:=hA.dZ b dw hb;have:=bW c hc;omega
 ·trivial
theorem Rel.call(h:Rel B g s a w){d:Nat}(hd:d<B.d){H':Hp}{g':Gh}{w':aQ}(hA:lW d s.H g w H' g' w'):Rel B g' { s with H:=H' } a w':=by
 refine { di:=hA.di,len:=h.len,env:=λt x v hx hv=>?_,dO:=λt x hx=>cZ (h.dO t x hx) hA.len,n0:=cZ h.n0 hA.len,bJ:=λb x hx=>?_,dZ:=λb h1 h2=>?_,fr:=?_,lK:=λb off hl=>hA.lK b off (h.lK b off hl),oI:=h.oI,dg:=λp hp=>?_,eJ:=h.eJ,defers:=λj x q hx hq=>(h.defers j x q hx hq).le hA.fr.le hA.len,marks:=λdm hdd D hD=>?_,nI:=h.nI }
 ·obtain⟨h1,h2⟩:=h.env t x v hx hv;exact⟨h1.le hA.fr.le (h.dO t x hx),h2.after hd hA⟩
 ·rcases hA.bJ b x hx with h1|h1|⟨y,h1,h2⟩
  ·exact .inl h1
  ·exact .inr (.inl h1)
  ·rcases h.bJ b y h1 with h3|⟨m,h3,h4⟩|⟨z,h3,h4⟩
   ·exact .inl (cZ h2 h3)
   ·exact .inr (.inl ⟨m,hA.DH _ h3,cZ h2 h4⟩)
   ·exact .inr (.inr ⟨z,h3,cZ h2 h4⟩)
 ·rcases eY b s.H.az.length with h3|h3
  ·rw[hA.fr.le.bT b h3];exact h.dZ b h1 h3
  ·exact cZ h.fr.size (hA.dZ b h3 h2)
 ·exact h.fr.trans h.n0 h.dZ (λb off hl=>h.lK b off (.inl hl)) (hA.fr.mono (Nat.le_of_lt hd))
 ·obtain⟨p1,p2,p3,p4,p5⟩:=h.dg p hp;refine⟨p1,p2.le hA.fr.le p4,p3.after hd hA,cZ p4 hA.len,λb off e=>?_⟩;rw[hA.fr.lk b off (h.lK b off (.inr ⟨p,hp,e⟩))];exact p5 b off e
 ·obtain⟨h0,h1,h2,h3⟩:=h.marks dm hdd D hD;have bW:D<w.heap.size:=(s_.1 h1).1;have hp:rU d s.H.az.length g w D:=⟨bW,h2,.inl h3⟩;refine⟨h0,(hA.fr.heap D hp).trans h1,λb hb e=>?_,(hA.fr.own D hp).trans h3⟩;rcases eY b s.H.az.length with h4|h4
  ·rw[hA.fr.le.bT b h4] at e;exact h2 b h4 e
  ·have:=hA.dZ b h4 hb;omega
structure Ends(P:aY)(B:dS)(o:Oper)(r:OR)(s':St)(K:Act->aQ->Prop)(Q:Exit->Act->aQ->Prop):Prop where
 val:∀v,r=.val v->∀g' cv a' w',DC B g' s' a' w' o.dst v cv->K (a'.put o.dst cv) w'
 skip:r=.skip->∀g' a' w',Rel B g' s' a' w'->K (a'.put o.dst undef) w'
 pX:∀v,r=.pX v->∀g' cv a' w',Rel B g' s' a' w'->aX g' v cv->v.top<=s'.H.az.length->Q (.panic [{ v:=cv,recovered:=false }]) a' w'
def yE(P:aY):Prop:=∀(f:FuncId)(fn:Func),P.funcs[f]?=some fn->(fn.name == "runtime.NumGoroutine")=false
def wY(P:aY):Prop:=∀(f:FuncId)(fn:Func)(args:aG)(v:V),P.funcs[f]?=some fn->fn.body=none->U3 fn.name args=some v ->
 ∀g n bG w,eS g n args bG->∃cv,(callFunc f bG).run P w=.ok (.value cv) w/\aX g v cv/\v.top=0/\(∀k l,cW g k w l v cv)
theorem zgr{cx:Cx}(hP:cx.P=P)(fN:yE P)(dQ:wY P){d:Nat}(hd:d<B.d)(rG:iu P cx.gl B.g)(dz:xA P cx.gl cx.call d)(h:Rel B g s a w){f:FuncId}{args:aG}{bG:dR}{r:OR}{H':Hp}
  (hc:cx.bK f args s.H=some (r,H')) (fS:eS g s.H.az.length args bG) {o:Oper} (ho:(execOp a.eval o).run P w=(callFunc f bG).run P w) {K:Act->aQ->Prop} {Q:Exit->Act->aQ->Prop} (hE:Ends P B o r { s with H:=H' } K Q):o.wp P a w K Q:=by
 have DI:iu P cx.gl g:=rG.le h.fr.le;unfold Cx.bK at hc;rw[hP] at hc;cases hf:P.funcs[f]? with
 | none=>rw[hf] at hc;cases hc
 | some fn =>
  rw[hf] at hc;simp only at hc;cases hb:fn.body with
  | none =>
   rw[hb] at hc;simp only at hc;split at hc<;>simp only[bz,reduceCtorEq,cq] at hc;rename_i v hv;obtain⟨rfl,rfl⟩:=hc;obtain⟨cv,h1,h2,h3,h4⟩:=dQ f fn args v hf hb hv g _ bG w fS;unfold Oper.wp;rw[ho,h1,Oper.upon_value];exact hE.val v rfl g cv a w ⟨h,h2,λ_ _=>h4 _ _,by omega⟩
  | some c =>
   rw[hb] at hc;simp only at hc;split at hc<;>simp only[bz,reduceCtorEq] at hc;rename_i res lO;obtain⟨out,H1⟩:=res;have cL:(callFunc f bG).run P w=.ok (.enter f bG) w:=by
    have cK:fn.name≠ "runtime.NumGoroutine":=by simpa using fN f fn hf
    simp[callFunc,hf,hb,cK]
   unfold Oper.wp;rw[ho,cL,Oper.upon_enter];refine Calls.mono (dz f args s.H out H1 lO g w bG (.slot B.d (o.dst.getD 0)) DI h.di fS) λe w' hp=>?_;cases e with
   | returned cv =>
    obtain⟨v,g',rfl,hA,v1,v2,v3⟩:=hp;simp only[G8,cq] at hc;obtain⟨rfl,rfl⟩:=hc;exact hE.val v rfl g' cv a w' ⟨h.call hd hA,v1,λt ht=>by simpa[ht] using v2,v3⟩
   | panicked chain =>
    obtain⟨v,cv,g',rfl,rfl,hA,v1,v3⟩:=hp;simp only[G8,cq] at hc;obtain⟨rfl,rfl⟩:=hc;exact hE.pX v rfl g' cv a w' (h.call hd hA) v1 v3
   | outgrown=>exact hp.elim
end
section
variable{P:aY}{B:dS}{g:Gh}{s:St}{a:Act}{w:aQ}
theorem zfi(l:aG):zgq (l.map bg):=λx hx sz xs e h=>by
 obtain⟨y,_,rfl⟩:=mU.1 hx;exact vV y sz xs e h
theorem eS.EY{n:Nat}{l:aG}{arr:dR}(hl:l.length=arr.size)(hr:∀(j:Nat)(x:V)(v:bC),l[j]?=some x->arr[j]?=some v->aX g x v)(ht:aL l<=n):eS g n (l.map bg) arr :=
 ⟨by simpa using hl,λj x v hx hv=>by
  simp only[mu,mS] at hx;obtain⟨y,hy,rfl⟩:=hx
  exact(hr j y v hy hv).bg,by rw[eR];exact ht,zfi l⟩
theorem vF{l m:aG}{x y:dR}(h1:l.length=x.size)(hl:∀(j:Nat)(z:V)(v:bC),l[j]?=some z->x[j]?=some v->aX g z v)(hm:∀(j:Nat)(z:V)(v:bC),m[j]?=some z->y[j]?=some v->aX g z v) :
  ∀(j:Nat)(z:V)(v:bC),(l++m)[j]?=some z->(x++y)[j]?=some v->aX g z v:=λj z v hz hv=>by
 rcases eY j l.length with h|h
 ·rw[gF h] at hz;rw[Array.getElem?_append_left (by omega)] at hv
  exact hl j z v hz hv
 ·rw[fM h] at hz;rw[Array.getElem?_append_right (by omega),<- h1] at hv
  exact hm _ z v hz hv
theorem wx{l m:aG}{n:Nat}(h1:aL l<=n)(h2:aL m<=n):aL (l++m)<=n :=
 qO λ_ hx=>(tu.1 hx).elim (λh=>cZ (zn h) h1) (λh=>cZ (zn h) h2)
theorem zj7{t:aD}{v rv:V}{cv:bC}{name:String}{f:FuncId}(hm:U2 P t v name=some (f,rv))(k:Nat):rv=v/\(method (k+1) t cv name).run P w=.ok (f,cv) w:=by
 simp only[U2,Option.bind_eq_bind,eM] at hm;obtain⟨i,hi,m,Hu,hm⟩:=hm;split at hm<;>try (cases hm;done)
 rename_i hp;simp only[eM] at hm;obtain⟨⟨f',pr⟩,hf,ds,hds,hm⟩:=hm;have Gs:m.path=#[]:=by simpa using hp
 simp only at hm;split at hm<;>simp only[bz,reduceCtorEq,cq] at hm
 ·obtain⟨rfl,rfl⟩:=hm;refine⟨rfl,?_⟩;simp[method,typeInfo,hi,Hu,Gs,follow,hf,receiverAt,run_underlying hds,Place.get]
 ·obtain⟨rfl,rfl⟩:=hm;refine⟨rfl,?_⟩;cases ds<;>first
   |(simp[method,typeInfo,hi,Hu,Gs,follow,hf,receiverAt,run_underlying hds,Place.get];done)
   |(exfalso;simp_all;done)
theorem zhQ(P:aY):∃k,P.types.size+Made.depth=k+1:=⟨P.types.size+(Made.depth - 1),by simp[Made.depth]⟩
theorem zgs{cx:Cx}(hP:cx.P=P)(fN:yE P)(dQ:wY P){d:Nat}(hd:d<B.d)(rG:iu P cx.gl B.g)(dz:xA P cx.gl cx.call d)(h:Rel B g s a w){fv:V}{args:aG}{fn:Fn}{fa fc bG:dR}{r:OR}{H':Hp}
  (hc:cx.mB fv args s.H=some (r,H')) (hfv:aX g fv (.func fn fa fc)) (Gt:fv.top<=s.H.az.length) (hl:args.length=bG.size) (hr:∀(j:Nat)(x:V)(v:bC),args[j]?=some x->bG[j]?=some v->aX g x v) (ht:aL args<=s.H.az.length)
  {o:Oper} (ho:(execOp a.eval o).run P w=(invoke (.fn fn fc) (fa++bG)).run P w) {K:Act->aQ->Prop} {Q:Exit->Act->aQ->Prop} (hE:Ends P B o r { s with H:=H' } K Q):o.wp P a w K Q:=by
 unfold Cx.mB at hc;split at hc
 ·rename_i f first cap
  simp only[eH] at hc;cases hfv with
  | fn f1 f2 f3 f4 =>
   have SA:aL first<=s.H.az.length/\aL cap<=s.H.az.length:=tw.1 Gt
   refine zgr hP fN dQ hd rG dz h hc (bG:=fa++bG++fc) (eS.EY (by simp[f1,f2,hl]) (vF (by simp[f1,hl]) (vF f1 f3 hr) f4) (wx (wx SA.1 ht) SA.2)) ?_ hE
   rw[ho];rfl
 ·rename_i name first cap
  split at hc<;>try (cases hc;done)
  rename_i t v rest OK;split at hc<;>try (cases hc;done)
  rename_i f rv hm;rw[hP] at hm;simp only[eH] at hc;cases hfv with
  | fn f1 f2 f3 f4 =>
   have SA:aL first<=s.H.az.length/\aL cap<=s.H.az.length:=tw.1 Gt
   have dG:=vF f1 f3 hr;have hlen:(first++args).length=(fa++bG).size:=by simp[f1,hl]
   have dH:=wx SA.1 ht;rw[OK] at dG hlen dH;have h0:0<(fa++bG).size:=by rw[<- hlen];simp
   have AN:=dG 0 _ _ rfl (D_ h0);generalize Gu:(fa++bG)[0]=cr at AN;cases AN with
   | dX hv =>
    rename_i cv;obtain⟨k,hk⟩:=zhQ P;obtain⟨rfl,hmr⟩:=zj7 (P:=P) (w:=w) (cv:=cv) hm k;have AO:(fa++bG)[0]?=some (.iface t cv):=by rw[D_ h0,Gu]
    refine zgr hP fN dQ hd rG dz h hc (bG:=#[cv]++(fa++bG).extract 1 (fa++bG).size) (eS.EY ?_ (λj x u hx hu=>?_) ?_) ?_ hE
    ·simp only[bh] at hlen;simp only[bh,Array.size_append,Array.size_extract,List.size_toArray,List.length_nil] at *;omega
    ·cases j with
     | zero =>
      rw[Array.getElem?_append_left (by simp)] at hu
      simp only[List.getElem?_cons_zero,bz,List.getElem?_toArray] at hx hu;subst hx;subst hu;exact hv
     | succ j =>
      refine dG (j+1) x u (by simpa using hx) ?_
      rw[Array.getElem?_append_right (by simp)] at hu
      simp only[List.size_toArray,bh,List.length_nil,oh,Nat.add_sub_cancel] at hu;rw[Array.getElem?_extract] at hu;split at hu
      ·rw[I4] at hu;exact hu
      ·cases hu
    ·exact qO λx hx=>by
      rcases dM.1 hx with rfl|hx
      ·exact cZ (show _<=(V.dX t x).top from dB _) (cZ (zn (fy ..)) dH)
      ·exact cZ (zn (eo _ hx)) dH
    ·rw[ho];simp only[invoke,AO,callMethod];simp[hk,hmr]
 ·cases hc
end
section
variable{P:aY}{B:dS}{g:Gh}{s:St}{a:Act}{w:aQ}
theorem rL{args:rT}{x y:a_}(h:args.toList=[x,y]):args=#[x,y]:=by
 apply Array.ext';simpa using h
theorem zpP{args:rT}{x:a_}(h:args.toList=[x]):args=#[x]:=by
 apply Array.ext';simpa using h
theorem zla{args:Array aD}{x y:aD}(h:args.toList=[x,y]):args=#[x,y]:=by
 apply Array.ext';simpa using h
theorem zo2{args:Array aD}{x:aD}(h:args.toList=[x]):args=#[x]:=by
 apply Array.ext';simpa using h
theorem zhR{cx:Cx}(hP:cx.P=P)(h:Rel B g s a w){b:Builtin}{ts:Array aD}{args:rT}{r:OR}{dh:aG}(hb:cx.builtin b ts args s.env s.H=some (r,dh)){o:Oper}{c:Call}(ho:o.op=.call c)(hc:c.callee=.builtin b)(hts:c.argTypes=ts)(fS:c.args=args) :
  ∃v,r=.val v/\eW P B { s with env:=dh } a w o v:=by
 have cL:∀m:Sem bC,(∀x,builtin b ts o.type x (args.map a.eval)=(do pure (.value (<- m))))->∀cv w',m.run P w=.ok cv w'->(execOp a.eval o).run P w=.ok (.value cv) w':=by
  intro m hm cv w' hr;simp[execOp,ho,resolve,hc,hts,fS,invoke,hm,hr]
 unfold Cx.builtin at hb;split at hb
 next x t hx ht=>have e1:=zpP hx;have e2:=zo2 ht;subst e1;subst e2;simp only[Option.bind_eq_bind,eM,bz,cq] at hb;obtain⟨v,hv,n,hn,rfl,rfl⟩:=hb;rw[hP] at hn;exact⟨_,rfl,g,.int .i64 n,w,cL (Builtin.len_ #[t] o.type #[a.eval x]) (λ_=>by simp[builtin]) _ _ (znn h hv hn),h,.int _ _,λ_ _=>trivial,dP _⟩
 ·rename_i x y t u hx ht;have e1:=rL hx;have e2:=zla ht;subst e1;subst e2;split at hb<;>try (cases hb;done)
  rename_i KQ;have e3:t=u:=fo (by simpa using KQ)
  subst e3;simp only[Option.bind_eq_bind,eM,bz,cq] at hb;obtain⟨yv,hy,⟨v,bM⟩,pK,r',Eg,rfl,rfl⟩:=hb;rw[hP] at Eg;obtain⟨g',cv,w',h1,h2,h3,h4,h5⟩:=zj6 (ty:=o.type) h hy pK Eg (o.dst.getD 0);exact⟨_,rfl,g',cv,w',cL (Builtin.append_ #[t,t] o.type #[a.eval x,a.eval y]) (λ_=>by simp[builtin]) _ _ h1,h2,h3,λd hd=>by simpa[hd] using h4,h5⟩
 next x y hx=>have e1:=rL hx;subst e1;simp only[Option.bind_eq_bind,eM] at hb;obtain⟨u,hu,v,hv,hb⟩:=hb;split at hb<;>simp only[bz,reduceCtorEq,cq] at hb;obtain⟨rfl,rfl⟩:=hb;exact⟨_,rfl,g,_,w,cL (Builtin.min_ ts o.type #[a.eval x,a.eval y]) (λ_=>by simp[builtin]) _ _ (zey h hu hv ts o.type).1,h,.int _ _,λ_ _=>trivial,dP _⟩
 next x y hx=>have e1:=rL hx;subst e1;simp only[Option.bind_eq_bind,eM] at hb;obtain⟨u,hu,v,hv,hb⟩:=hb;split at hb<;>simp only[bz,reduceCtorEq,cq] at hb;obtain⟨rfl,rfl⟩:=hb;exact⟨_,rfl,g,_,w,cL (Builtin.max_ ts o.type #[a.eval x,a.eval y]) (λ_=>by simp[builtin]) _ _ (zey h hu hv ts o.type).2,h,.int _ _,λ_ _=>trivial,dP _⟩
 ·cases hb
end
section
variable{P:aY}{B:dS}{g:Gh}{s:St}{a:Act}{w:aQ}
def Gh.eK(g:Gh)(b u:Nat)(v:bC)(own:Nat->Option Loc):Gh :=
 {g with fm:=λb' u'=>if b'=b/\u'=u then some v else g.fm b' u',own:=own }
theorem zgt{H:Hp}{Ed:List bq}(h:Ot Ed H){b:Nat}{x0 x:bq}{v:V}(hb:H.az[b]?=some x0)(gJ:x.top<=max x0.top v.top):Ot Ed ((H.set b x).bU b v):=by
 have lM:b<H.az.length:=(dA.1 hb).1;have m9:((H.set b x).bU b v).az=H.az.set b x:=by simp only[Hp.bU,Hp.set];split<;>rfl
 have dI:∀p∈H.bJ,p∈((H.set b x).bU b v).bJ:=by
  intro p hp;simp only[Hp.bU,Hp.set];split
  ·exact hp
  ·exact eo _ hp
 intro b' y hy;rw[m9] at hy
 by_cases e:b'=b
 ·subst e;rw[BO lM] at hy;cases hy;rcases Nat.le_total x0.top v.top with h2|h2
  ·rw[Nat.max_eq_right h2] at gJ
   by_cases h3:v.top<=b'+1
   ·exact .inl (cZ gJ h3)
   ·refine .inr (.inl ⟨v.top,?_,gJ⟩);simp only[Hp.bU,Hp.set];rw[if_neg h3];exact fy ..
  ·rw[Nat.max_eq_left h2] at gJ;rcases h b' x0 hb with h1|⟨m,h1,h2⟩|⟨y,h1,h2⟩
   ·exact .inl (cZ gJ h1)
   ·exact .inr (.inl ⟨m,dI _ h1,cZ gJ h2⟩)
   ·exact .inr (.inr ⟨y,h1,cZ gJ h2⟩)
 ·rw[r8 (λe'=>e e'.symm)] at hy;rcases h b' y hy with h1|⟨m,h1,h2⟩|h1
  ·exact .inl h1
  ·exact .inr (.inl ⟨m,dI _ h1,h2⟩)
  ·exact .inr (.inr h1)
theorem Rel.EZ(h:Rel B g s a w){b eK sz:Nat}{cs:aG}{e:aD}{x:bq}{v:V}{g':Gh}{w':aQ}(hb:s.H.get b=some (.ul eK sz cs e))
  (hs:gS B.d (some b) (some (.cell b 0)) s.H.az.length g w g' w') (hM:g'.M=g.M) (oJ:∀c o v,g.M c o=some v->w'.heap[c]?=w.heap[c]?) (sy:∀c l,g'.own c=some l->c<w'.heap.size)
  (ek:fR g' s.H.az.length w' b x) (dH:x.top<=s.H.az.length) (gJ:x.top<=max (aL cs) v.top):Rel B g' { s with H:=(s.H.set b x).bU b v } a w':=by
 simp only[Hp.get,zg] at hb;have lM:b<s.H.az.length:=(dA.1 hb).1;have m9:((s.H.set b x).bU b v).az=s.H.az.set b x:=by
  simp only[Hp.bU,Hp.set];split<;>rfl
 have hlen:((s.H.set b x).bU b v).az.length=s.H.az.length:=by rw[m9];simp
 have lp:∀off,¬ju s.H.az b off:=by
  rintro off ⟨cs',t',Ox,BY,h1,h2⟩;rw[hb] at h1;cases h1
 refine h.lf (s':={ s with H:=(s.H.set b x).bU b v }) hs (by rw[hlen];exact dB _) (λb' dw cK=>?_) (λb' y Hl hy=>?_) (λb' h1 h2=>?_) (λb1 b2 h1 h2=>?_) (λc o u hu=>?_) sy
  (λb' j e=>by cases e;exact lp 0) rfl rfl (λt y hy=>⟨y,hy,.inl ⟨rfl,λe=>by cases e⟩⟩) (zgt h.bJ hb gJ) (λb' off Ho=>?_) h.oI (λ_ e=>by cases e)
 ·rw[m9,r8 (λe=>cK (by rw[e]))]
 ·have dw:b'=b:=by
   rcases Hl with Hl|Hl
   ·cases Hl;rfl
   ·have:=(dA.1 hy).1;rw[hlen] at this;omega
  subst dw;rw[m9,BO lM] at hy;cases hy;rw[hlen];exact⟨ek,dH⟩
 ·rw[hlen] at h2;omega
 ·rw[hlen] at h2;omega
 ·rw[hM] at hu;rw[yC (oJ c o u hu)];exact h.di.mem c o u hu
 ·have h0:=h.lK b' off Ho;have cK:b'≠b:=λe=>lp off (e ▸ h0);obtain⟨cs,t,sz,xs,h1,h2⟩:=h0;exact⟨cs,t,sz,xs,by rw[m9,r8 (λe'=>cK e'.symm)];exact h1,h2⟩
theorem SB(h:Rel B g s a w){b eK sz:Nat}{cs:aG}{e:aD}(hb:s.H.get b=some (.ul eK sz cs e)):b<s.H.az.length/\(g.own (g.bT b)=none):=by
 simp only[Hp.get,zg] at hb;have lM:b<s.H.az.length:=(dA.1 hb).1;exact⟨lM,h.di.dN b lM⟩
theorem Gh.KR{n:Nat}{g:Gh}{b u:Nat}{v:bC}{own:Nat->Option Loc}(hf:g.fm b u=none):Gh.Le n g (g.eK b u v own):=by
 refine⟨λ_ _ _ e=>e,λ_ _=>rfl,rfl,λb' u' v' _ e=>?_⟩;simp only[Gh.eK];split
 next e'=>obtain⟨rfl,rfl⟩:=e';rw[hf] at e;cases e
 ·exact e
theorem eX:∀(l:aG),cg l=zK l
 | []=>rfl
 | x::xs=>by simp[cg,zK,eX xs]
theorem SC(h:Rel B g s a w){b eK sz:Nat}{cs cs':aG}{e:aD}{c len cap c' B_ oU:Nat}{vs KS:ei}{v:V}{w':aQ}(hb:s.H.get b=some (.ul eK sz cs e))(hu:G9 g s.H.az.length w b eK sz cs e c len cap vs)
  (sI:∀k,k<w.heap.size->k≠c->w'.heap[k]?=w.heap[k]?) (fD:w.heap.size<=w'.heap.size) (pL:w'.os=w.os) (ht:w'.tape=w.tape) (nN:w'.output=w.output) (eA:c'=c\/c'=w.heap.size)
  (cC:w'.ownsRow 0 e sz (.slice (some ⟨c',0,none⟩) B_ oU) B_ KS) (ec:bQ g cs' KS) (dH:aL cs'<=s.H.az.length) (gJ:aL cs'<=max (aL cs) v.top) :
  ∃g',Rel B g' { s with H:=(s.H.set b (.ul (eK+1) sz cs' e)).bU b v } a w'/\aX g' (.dF b (eK+1) B_) (.slice (some ⟨c',0,none⟩) B_ oU):=by
 obtain⟨lM,tI⟩:=SB h hb;have bW:c<w.heap.size:=(hu.row.lt c rfl).2;have VH:c'<w'.heap.size:=(cC.lt c' rfl).2;have e_:∀k,k<w.heap.size->(∀b',some b=some b'->g.bT b'≠k)->(∀l,some (Loc.cell b 0)=some l->g.own k≠some l)->k≠c:=λk _ h1 h2 e=>by
  subst e;rcases hu.BS with h3|h3
  ·exact h1 b rfl h3.symm
  ·exact h2 _ rfl h3
 let own:Nat->Option Loc:=λk=>if c'≠c/\k=c' then some (.cell b 0) else g.own k
 let g':Gh:=g.eK b (eK+1) (.slice (some ⟨c',0,none⟩) B_ oU) own
 have iD:∀k,k<w.heap.size->own k=g.own k:=λk hk=>by
  show(if _ then _ else _)=_
  rw[if_neg];rintro⟨h1,rfl⟩;rcases eA with h2|h2
  ·exact h1 h2
  ·omega
 have hle:Gh.Le s.H.az.length g g':=Gh.KR (hu.fresh _ (Ko _));have E0:g'.fm b (eK+1)=some (.slice (some ⟨c',0,none⟩) B_ oU):=by simp[g',Gh.eK]
 have hS:gS B.d (some b) (some (.cell b 0)) s.H.az.length g w g' w' :=
  ⟨hle,λk hk h1 h2=>sI k hk (e_ k hk h1 h2),λk hk _=>iD k hk,λ_ _ _ _=>rfl,fD,λ_ _ _=>rfl,λl hl=>.inr ⟨b,0,by cases hl;rfl,rfl⟩,λb' dw=>by cases dw;exact lM,
   λb' u dw cK=>by
    show(if _ then _ else _)=_
    rw[if_neg];rintro⟨rfl,_⟩;exact cK rfl,pL,ht,nN⟩
 refine⟨g',h.EZ hb hS rfl (λk o x hx=>?_) (λk l hk=>?_) ⟨c',B_,oU,KS,E0,hu.pos,cC,?_,λo=>?_,λb' dw cK e'=>?_,ec.len,λj x u hx hv=>⟨ec.one j x hx,?_⟩,λu hlu=>?_⟩ dH gJ,.dF E0⟩
 ·refine sI k (vl (h.di.mem k o x hx)) λe=>?_;subst e;rw[hu.M o] at hx;cases hx
 ·have:(if c'≠c/\k=c' then some (Loc.cell b 0) else g.own k)=some l:=hk
  split at this
  next e=>rw[e.2];exact VH
  ·exact uO (h.di.eI k l this) fD
 ·rcases eA with e'|e'
  ·subst e';rcases hu.BS with h1|h1
   ·exact .inl h1
   ·refine .inr ?_;show(if _ then _ else _)=_
    rw[if_neg (λe=>e.1 rfl)];exact h1
  ·refine .inr ?_;show(if _ then _ else _)=_
   rw[if_pos ⟨by omega,rfl⟩]
 ·show g.M c' o=none;rcases eA with e'|e'
  ·subst e';exact hu.M o
  ·cases hm:g.M c' o with
   | none=>rfl
   | some x=>have:=vl (h.di.mem _ _ _ hm);omega
 ·rcases eA with e2|e2
  ·subst e2;exact hu.others b' dw cK e'
  ·have:=h.di.lt b' dw;have e3:g.bT b'=c':=e';omega
 ·exact(ec.rel j x u hx hv).le hle (cZ (zn (zw hx)) dH)
 ·show(if _ then _ else _)=_
  rw[if_neg (λe=>by omega)]
  exact hu.fresh u (by omega)
theorem zgu{w:aQ}{e:aD}{sz c len cap k:Nat}{vs:ei}(h:w.ownsRow 0 e sz (.slice (some ⟨c,0,none⟩) len cap) len vs)(hk:k<=len):w.ownsRow 0 e sz (.slice (some ⟨c,0,none⟩) k cap) k (vs.take (k * sz)):=by
 obtain⟨hl,h|⟨c',oU,cur,hv,h0,hb,h1,h2,h3,hx⟩⟩:=h
 ·cases h.1
 ·cases hv;have hm:k * sz<=len * sz:=Nat.mul_le_mul_right _ hk;refine⟨by rw[uQ,hl];omega,.inr ⟨c,cap,cur,rfl,h0,hb,by omega,h2,h3,?_⟩⟩
  rw[<- hx,List.take_take,Nat.min_eq_left hm]
theorem VI(cs:aG)(k:Nat):aL (cs.take k)<=aL cs:=qO λ_ hx=>zn (Bt hx)
theorem zj8{cx:Cx}(hP:cx.P=P)(h:Rel B g s a w){t:aD}{x:a_}{lo hi:Option a_}{r:OR}{s':St}(aE:cx.oT t x lo hi s.env s.H s.lk s.defers=some (r,s')){o:Oper}(ho:o.op=.slice t x lo hi none) :
  ∃v,r=.val v/\eW P B s' a w o v:=by
 unfold Cx.oT at aE;rw[hP] at aE;split at aE<;>try (cases aE;done)
 rotate_left
 next b off len cap Sh EM hx iB Al=>split at aE<;>simp only[bz,reduceCtorEq,cq] at aE;rename_i v hv;obtain⟨rfl,rfl⟩:=aE;obtain⟨x1,x2,_⟩:=zI h hx;obtain⟨cv,e1,e2,e3,e4⟩:=zew (P:=P) (n:=s.H.az.length) hv x1 (Hh h iB) (Hh h Al) x2 w;exact⟨v,rfl,g,cv,w,by simp[execOp,ho,e1],h,e2,λd _=>e4 _ _,e3⟩
 rename_i e' b u len k hh ht hx iB Al;split at aE<;>try (cases aE;done)
 rename_i m eK sz cs e hm hb;split at aE<;>try (cases aE;done)
 rename_i hc;simp only[eH,qw,ji,bz,cq] at aE;obtain⟨rfl,rfl⟩:=aE;simp only[eF,decide_eq_true_eq] at hc;obtain⟨⟨hv,h0⟩,hle⟩:=hc;have hv:=fo hv;have hle:=rA hle;subst hv;obtain⟨x1,x2,_⟩:=zI h hx;obtain⟨c,l0,cap,vs,hu,h2,h3⟩:=So h hb;have VJ:=Hh h iB;have VK:=Hh h Al;have ov:l0<=cap:=by
  obtain⟨_,hr|⟨_,_,_,hr,_,_,h5,_⟩⟩:=hu.row
  ·cases hr.1
  ·cases hr;exact h5
 generalize Ja:a.eval x=SD at x1;cases x1 with
 | dF hh' =>
  rw[hu.fm] at hh';cases hh';have dw:=xi (P:=P) (isSlice:=true) (len:=len) (cap:=cap) (l:=0) (h:=hh.toNat) VJ VK (by simp[ka,h0]) rfl (dP _) hle ov w
  obtain⟨g',r1,r2⟩:=SC (v:=.fQ) h hb hu (λ_ _ _=>rfl) (dB _) rfl rfl rfl (.inl rfl) (zgu hu.row hle) (h2.take _) (cZ (VI _ _) h3) (cZ (VI _ _) (Ds _ _));refine⟨_,rfl,g',_,w,?_,r1,r2,λ_ _=>trivial,?_⟩
  ·have hs:(Instr.sliceAt t (.slice (some ⟨c,0,none⟩) len cap) (lo.map a.eval) (hi.map a.eval) none).run P w=.ok (.slice (some ⟨c,0,none⟩) hh.toNat cap) w:=by
    simp[Instr.sliceAt,run_underlying ht,Instr.slice,dw,jA hm,Addr.add_lit]
   simp[execOp,ho,Ja,hs]
  ·have:((s.H.set b (.ul (eK+1) sz (cs.take (hh.toNat * sz)) e)).bU b .fQ).az.length=s.H.az.length:=by
    simp only[Hp.bU,Hp.set];split<;>simp
   rw[this];have:=(SB h hb).1;simp only[V.top];omega
end
section
variable{P:aY}{B:dS}{g:Gh}{s:St}{a:Act}{w:aQ}
theorem zcL{α:Type}(l vs:List α)(off m:Nat)(h:off+vs.length<=m)(hm:m<=l.length):(storeCells l off vs).take m=storeCells (l.take m) off vs:=by
 apply EI;intro j;rw[Ak,qH _ _ _ _ (by omega),qH _ _ _ _ (by rw[uQ];omega),Ak]
 by_cases hj:j<m
 ·simp[hj]
 ·have:¬(off<=j/\j<off+vs.length):=by omega
  simp[hj,this]
theorem zgv(H:Hp)(b:Nat)(x:bq)(v:V):((H.set b x).bU b v).az.length=H.az.length:=by
 simp only[Hp.bU,Hp.set];split<;>simp
theorem zj9{w:aQ}{e:aD}{sz c len cap off:Nat}{vs news:ei}(h:w.ownsRow 0 e sz (.slice (some ⟨c,0,none⟩) len cap) len vs)(hf:off+news.length<=vs.length)(h1:∀u∈news,u.oneCell'=true) :
  ∃w',(Go.storeCells ⟨c,off,none⟩ news 0).run P w=.ok () w'/\w'.ownsRow 0 e sz (.slice (some ⟨c,0,none⟩) len cap) len (storeCells vs off news)/\(∀k,k≠c->w'.heap[k]?=w.heap[k]?)/\w'.heap.size=w.heap.size/\w'.os=w.os/\w'.tape=w.tape/\w'.output=w.output:=by
 obtain⟨hl,h|⟨c',oU,cur,hv,h0,hb,Hj,h2,h3,hx⟩⟩:=h
 ·cases h.1
 ·cases hv;have BC:vs.length<=cur.toList.length:=by rw[<- hx];simp;omega
  have nq:cur.toList.take off++news++cur.toList.drop (off+news.length)=storeCells cur.toList off news:=by
   have oW:cur.toList=cur.toList.take off++(cur.toList.drop off).take news.length++cur.toList.drop (off+news.length):=by
    rw[bp,<- List.drop_drop,Ea,Ea]
   have hlen:(cur.toList.take off).length=off:=by rw[uQ];omega
   have:=kS news ((cur.toList.drop off).take news.length) (cur.toList.take off) (cur.toList.drop (off+news.length)) (by rw[uQ,List.length_drop];omega)
   rw[hlen,<- oW] at this;rw[this]
  have fe:=run_storeCells_at P c off e news 0 cur w hb (by simp at BC ⊢;omega) h1
  simp only[om] at fe;rw[nq] at fe;refine⟨_,fe,⟨by rw[kB];exact hl,.inr ⟨c,cap,_,rfl,h0,setRow_heap w c _ _ _ _ hb,Hj,h2,by simp[kB,h3],?_⟩⟩,λk hk=>setRow_other w c k _ hk,setRow_size w c _,rfl,rfl,rfl⟩
  show(storeCells cur.toList off news).take (len * sz)=_;have hle:len * sz<=cur.toList.length:=by rw[<- hl];exact BC
  rw[zcL _ _ _ _ (by omega) hle,hx]
theorem Rel.ef(h:Rel B g s a w){b eK sz:Nat}{cs cs':aG}{e:aD}{c len cap:Nat}{vs KS:ei}{v:V}{w':aQ}(hb:s.H.get b=some (.ul eK sz cs e))(hu:G9 g s.H.az.length w b eK sz cs e c len cap vs)
  (sI:∀k,k≠c->w'.heap[k]?=w.heap[k]?) (fD:w'.heap.size=w.heap.size) (pL:w'.os=w.os) (ht:w'.tape=w.tape) (nN:w'.output=w.output)
  (cC:w'.ownsRow 0 e sz (.slice (some ⟨c,0,none⟩) len cap) len KS) (ec:bQ g cs' KS) (dH:aL cs'<=s.H.az.length) (gJ:aL cs'<=max (aL cs) v.top) :
  Rel B g { s with H:=(s.H.set b (.ul eK sz cs' e)).bU b v } a w':=by
 obtain⟨lM,tI⟩:=SB h hb;have e_:∀k,k<w.heap.size->(∀b',some b=some b'->g.bT b'≠k)->(∀l,some (Loc.cell b 0)=some l->g.own k≠some l)->k≠c:=λk _ h1 h2 e=>by
  subst e;rcases hu.BS with h3|h3
  ·exact h1 b rfl h3.symm
  ·exact h2 _ rfl h3
 have hS:gS B.d (some b) (some (.cell b 0)) s.H.az.length g w g w' :=
  ⟨.refl _ _,λk hk h1 h2=>sI k (e_ k hk h1 h2),λk hk _=>rfl,λ_ _ _ _=>rfl,by omega,λ_ _ _=>rfl,λl hl=>.inr ⟨b,0,by cases hl;rfl,rfl⟩,λb' dw=>by cases dw;exact lM,
   λb' u dw cK=>rfl,pL,ht,nN⟩
 refine h.EZ hb hS rfl (λk o x hx=>?_) (λk l hk=>?_) ⟨c,len,cap,KS,hu.fm,hu.pos,cC,hu.BS,hu.M,hu.others,ec.len,λj x u hx hv=>⟨ec.one j x hx,ec.rel j x u hx hv⟩,hu.fresh⟩ dH gJ
 ·refine sI k λe=>?_;subst e;rw[hu.M o] at hx;cases hx
 ·rw[fD];exact h.di.eI k l hk
theorem bQ.pN{cs:aG}{vs:ei}(h:bQ g cs vs):∀u∈vs,u.oneCell'=true:=λu hu=>by
 obtain⟨j,hj⟩:=List.getElem?_of_mem hu;have sC:j<cs.length:=by rw[h.len];exact(dA.1 hj).1
 have hx:=gG sC;exact(h.rel j _ u hx hj).nY (h.one j _ hx)
theorem zka(h:Rel B g s a w){t:aD}{p x:a_}{b eK k n sz:Nat}{v0 v:V}{dh:aG}{cs:aG}{e:aD}(hp:ak s.env p=some (.gk b eK k))(hx:take s.env x=some (v0,dh))(hv:bg v0=v)(hn:z4 P t=some n)
  (hb:s.H.get b=some (.ul eK sz cs e)) (ek:dD v=true) (hl:v.cells.length=n) (hle:k+n<=cs.length) :
  ∃g' w',(Instr.storeAt t (a.eval p) (a.eval x)).run P w=.ok () w'/\Rel B g' { s with env:=dh,H:=(s.H.set b (.ul eK sz (storeCells cs k v.cells) e)).bU b v } a w':=by
 obtain⟨p1,p2,_⟩:=zI h hp;obtain⟨g',h1,v1,_,v2,sF⟩:=vJ h hx .ret;have v1:=v1.bg;rw[hv] at v1;have v2:v.top<=s.H.az.length:=by rw[<- hv,jq];exact v2
 have p1:=sF.rel p1;have dw:({ s with env:=dh }:St).H.get b=some (.ul eK sz cs e):=hb;obtain⟨c,len,cap,vs,hu,h2,h3⟩:=So h1 dw;generalize Oz:a.eval p=cp at p1;cases p1 with
 | gk _ hh =>
  rw[hu.fm] at hh;cases hh;have ec:=vn v1 ek;have nO:(a.eval x).cells.size=n:=by rw[<- hl,ec.len];simp
  obtain⟨w',e1,e2,e3,e4,e5,e6,e7⟩:=zj9 (P:=P) (off:=k) hu.row (by rw[<- hu.len,AG,nO];exact hle) ec.pN
  refine⟨g',w',?_,h1.ef (v:=v) dw hu e3 e4 e5 e6 e7 e2 (h2.store k ec) (vD h3 (cZ (yD v) v2)) (cZ y8 (tw.2 ⟨Ds _ _,cZ (yD v) (G5 _ _)⟩))⟩;unfold Instr.storeAt storeVar;simp[Instr.sureAddr,jA hn,nO,e1]
def Gh.pO(g:Gh)(n N:Nat)(v:bC):Gh:={ g.var n N with fm:=λb u=>if b=n then (if u=0 then some v else none) else g.fm b u }
theorem Gh.C2(g:Gh)(n N:Nat)(v:bC):Gh.Le n g (g.pO n N v) :=
 ⟨λ_ _ _ h=>h,λb hb=>by simp only[Gh.pO,Gh.var];rw[if_neg (by omega)],rfl,λb u x hb e=>by simp only[Gh.pO];rw[if_neg (by omega)];exact e⟩
theorem Rel.OL(h:Rel B g s a w)(bT:bq){obj:Obj}{w':aQ}{v:bC}(hw:w'.heap=w.heap.push obj)(pL:w'.os=w.os)(ht:w'.tape=w.tape)(nN:w'.output=w.output)
  (ek:fR (g.pO s.H.az.length w.heap.size v) (s.H.az.length+1) w' s.H.az.length bT) (dH:bT.top<=s.H.az.length+1):Rel B (g.pO s.H.az.length w.heap.size v) { s with H:=s.H.push bT } a w':=by
 have hl:(s.H.push bT).az.length=s.H.az.length+1:=by simp[Hp.push]
 have dJ:∀b,b<s.H.az.length->(s.H.push bT).az[b]?=s.H.az[b]?:=λb hb=>by simp only[Hp.push];rw[gF hb]
 have rK:(s.H.push bT).az[s.H.az.length]?=some bT:=by simp[Hp.push]
 have hv:(g.pO s.H.az.length w.heap.size v).bT s.H.az.length=w.heap.size:=by simp[Gh.pO,Gh.var]
 have fD:w'.heap.size=w.heap.size+1:=by rw[hw];simp
 have hS:gS B.d none none s.H.az.length g w (g.pO s.H.az.length w.heap.size v) w' :=
  ⟨g.C2 _ _ _,λc hc _ _=>Sv hw hc,λ_ _ _=>rfl,λ_ _ _ _=>rfl,by rw[hw];simp,λ_ _ _=>rfl,λl hl=>(by cases hl),λb hb=>(by cases hb),λb u hb _=>by simp only[Gh.pO];rw[if_neg (by omega)],pL,ht,nN⟩
 refine h.lf (s':={ s with H:=s.H.push bT }) hS (by rw[hl];omega) (λb hb _=>dJ b hb) (λb x hb hx=>?_) (λb h1 h2=>?_) (λb b' h1 h2 h3 h4 _=>?_) (λc o v hv=>?_) (λc l hc=>?_)
  (λb j e=>by cases e) rfl rfl (λt x hx=>⟨x,hx,.inl ⟨rfl,λe=>by cases e⟩⟩) ?_ (λb off pY=>y6 dJ (h.lK b off pY)) h.oI (λ_ e=>by cases e)
 ·have dw:b=s.H.az.length:=by
   rcases hb with hb|hb
   ·cases hb
   ·have:=(dA.1 hx).1;rw[hl] at this;omega
  subst dw;rw[rK] at hx;cases hx;rw[hl];exact⟨ek,dH⟩
 ·have:b=s.H.az.length:=by rw[hl] at h2;omega
  subst this;rw[hv];refine⟨dB _,by omega,?_,λo=>?_⟩
  ·show g.own w.heap.size=none;cases ho:g.own w.heap.size with
   | none=>rfl
   | some l=>have:=h.di.eI _ _ ho;omega
  ·show g.M w.heap.size o=none;cases hm:g.M w.heap.size o with
   | none=>rfl
   | some v=>have:=vl (h.di.mem _ _ _ hm);omega
 ·rw[hl] at h2 h4;omega
 ·rw[yC (Sv hw (vl (h.di.mem c o v hv)))];exact h.di.mem c o v hv
 ·have:=h.di.eI c l hc;omega
 ·intro b x hx;rcases eY b s.H.az.length with h1|h1
  ·rw[show({ s with H:=s.H.push bT }:St).H.az[b]?=s.H.az[b]? from dJ b h1] at hx;exact h.bJ b x hx
  ·have dw:b=s.H.az.length:=by
    have:=(dA.1 hx).1;have iM:({ s with H:=s.H.push bT }:St).H.az.length=s.H.az.length+1:=hl;omega
   subst dw;rw[show({ s with H:=s.H.push bT }:St).H.az[s.H.az.length]?=some bT from rK] at hx;cases hx;exact .inl dH
theorem zlb(h:Rel B g s a w){cs:aG}{vs:ei}{e:aD}{sz len cap:Nat}{cur:dR}{w':aQ}(hw:w'.heap=w.heap.push (.cells cur e (0,0)))(pL:w'.os=w.os)(ht:w'.tape=w.tape)(nN:w'.output=w.output)
  (uW:0<sz) (cC:w'.ownsRow 0 e sz (.slice (some ⟨w.heap.size,0,none⟩) len cap) len vs) (ec:bQ g cs vs) (dH:aL cs<=s.H.az.length) :
  ∃g',Rel B g' { s with H:=s.H.push (.ul 0 sz cs e) } a w'/\aX g' (.dF s.H.az.length 0 len) (.slice (some ⟨w.heap.size,0,none⟩) len cap):=by
 have E0:(g.pO s.H.az.length w.heap.size (.slice (some ⟨w.heap.size,0,none⟩) len cap)).fm s.H.az.length 0=some (.slice (some ⟨w.heap.size,0,none⟩) len cap):=by simp[Gh.pO]
 refine⟨_,h.OL (.ul 0 sz cs e) hw pL ht nN ⟨w.heap.size,len,cap,vs,E0,uW,cC,.inl (by simp[Gh.pO,Gh.var]),λo=>?_,λb' dw cK e'=>?_,ec.len,λj x u hx hv=>⟨ec.one j x hx,?_⟩,λu hu=>?_⟩ (Km dH),.dF E0⟩
 ·show g.M w.heap.size o=none;cases hm:g.M w.heap.size o with
  | none=>rfl
  | some v=>have:=vl (h.di.mem _ _ _ hm);omega
 ·have h1:b'<s.H.az.length:=by omega
  have:=h.di.lt b' h1;simp only[Gh.pO,Gh.var] at e';rw[if_neg cK] at e';omega
 ·exact(ec.rel j x u hx hv).le (g.C2 _ _ _) (cZ (zn (zw hx)) dH)
 ·simp only[Gh.pO,aI];rw[if_neg (by omega)]
theorem y9{w:aQ}{e:aD}{sz k old:Nat}{z:bC}{vs:ei}{arr:dR}(nq:arr.toList=vs)(hl:vs.length=k * sz)(hz:z.cells.size=sz)(KN:k<=maxLen) :
  (w.drew.alloc (.cells (arr++Builtin.zeroCells z.cells (grownCap w k old e - k)) e)).ownsRow 0 e sz (.slice (some ⟨w.heap.size,0,none⟩) k (grownCap w k old e)) k vs:=by
 have uR:=grownCap_ge w k old e;have sH:grownCap w k old e<=maxLen:=grownCap_le_maxLen w k old e KN;have oz:arr.size=k * sz:=by rw[<- hl,<- nq];simp
 refine⟨hl,.inr ⟨w.heap.size,_,_,rfl,dP _,heap_alloc_new w.drew _,uR,sH,?_,?_⟩⟩
 ·rw[Array.size_append,oz,size_zeroCells,hz,<- tv];congr 1;omega
 ·rw[Array.toList_append,List.take_append_of_le_length (by simp;omega),nq]
  exact su (by omega)
end
section
variable{P:aY}{B:dS}{g:Gh}{s:St}{a:Act}{w:aQ}
theorem zlc(v:V):bg (bg v)=bg v:=by cases v<;>rfl
theorem xY(h:Rel B g s a w){b off:Nat}{cs L:aG}{tt:aD}{arr:dR}{news:ei}(hb:s.H.get b=some (.cells cs tt))(a1:w.heap[g.bT b]?=some (.cells arr tt (0,0)))(a2:bQ g cs arr.toList)(a3:aL cs<=s.H.az.length)
  (a4:∀(j:Nat)(x:V)(v:bC),cs[j]?=some x->arr[j]?=some v->cW g s.H.az.length w (.cell b j) x v/\Oq g b j x v) (dY:bQ g L news) (gI:∀q∈L,bg q=q) (VL:aL L<=s.H.az.length) (c3:off+L.length<=cs.length) (oV:wr s.lk b off L.length (cs.drop off)=true) :
  Rel B g { s with H:=(s.H.set b (.cells (storeCells cs off L) tt)).bU b (.bx L) } a (w.setRow (g.bT b) (storeCells arr.toList off news).toArray):=by
 have oz:cs.length=arr.size:=by have:=a2.len;simpa using this
 have lM:b<s.H.az.length:=by simp only[Hp.get,zg] at hb;exact(dA.1 hb).1
 have lp:news.length=L.length:=dY.len.symm;have hLc:∀q∈L,(∀sz xs o,q=.sl sz xs o->o=.no):=λq hq sz xs o e=>by
  have:=gI q hq;subst e;simp[bg] at this;exact this.symm
 have B8:(w.setRow (g.bT b) (storeCells arr.toList off news).toArray).heap[g.bT b]?=some (.cells (storeCells arr.toList off news).toArray tt (0,0)):=setRow_heap w _ _ _ tt _ a1;have iN:gS B.d (some b) none s.H.az.length g w g (w.setRow (g.bT b) (storeCells arr.toList off news).toArray) :=
  ⟨.refl _ _,λc _ hc _=>setRow_other w _ c _ (λe=>hc b rfl e.symm),λ_ _ _=>rfl,λ_ _ _ _=>rfl,by simp[World.setRow],λ_ _ _=>rfl,λl hl=>(by cases hl),λb' dw=>(by cases dw;exact lM),λ_ _ _ _=>rfl,rfl,rfl,rfl⟩
 refine Rel.write (l:=s.lk) (v:=.bx L) h (b:=b) (x0:=.cells cs tt) (x:=.cells (storeCells cs off L) tt) (N:=g.bT b) rfl hb (λc hc=>setRow_other w _ c _ hc) (by simp[World.setRow]) rfl rfl rfl
  ⟨_,B8,by simp[kB,oz],λj y u hy hu=>?_⟩ (vD a3 VL) (.inr (.inr (.inr (cZ y8 (tw.2 ⟨Ds _ _,G5 _ _⟩))))) (λo iB=>?_) h.oI
 ·have fe:=a2.store off dY;have hr:=fe.rel j y u hy (by simpa using hu)
  refine⟨fe.one j y hy,hr,?_,?_⟩
  ·rw[qH _ _ _ _ (by omega)] at hy
   have nD:(storeCells arr.toList off news)[j]?=some u:=by simpa using hu
   rw[qH _ _ _ _ (by have:arr.toList.length=arr.size:=AG;omega)] at nD
   by_cases hj:off<=j/\j<off+L.length
   ·rw[if_pos hj] at hy;have:=hLc y (zw hy);cases y with
    | sl sz xs o=>have e:=this sz xs o rfl;subst e;trivial
    | _=>trivial
   ·rw[if_neg hj] at hy;rw[if_neg (by rw[lp];exact hj)] at nD
    exact cW.same iN (λe=>by cases e) (λb1 h2 h3=>absurd (show b1<s.H.az.length from h3) (Nat.not_lt.2 h2)) (a4 j y u hy (by simpa using nD)).1
  ·rw[qH _ _ _ _ (by omega)] at hy
   have nD:(storeCells arr.toList off news)[j]?=some u:=by simpa using hu
   rw[qH _ _ _ _ (by have:arr.toList.length=arr.size:=AG;omega)] at nD
   by_cases hj:off<=j/\j<off+L.length
   ·rw[if_pos hj] at hy;have:=hLc y (zw hy);cases y with
    | sl sz xs o=>have e:=this sz xs o rfl;subst e;trivial
    | _=>trivial
   ·rw[if_neg hj] at hy;rw[if_neg (by rw[lp];exact hj)] at nD
    exact(a4 j y u hy (by simpa using nD)).2
 ·obtain⟨Vr,t2',sz,xs,d1,d2⟩:=h.lK b o iB;have mX:s.H.az[b]?=some (.cells cs tt):=by simpa[Hp.get,zg] using hb
  rw[mX] at d1;cases d1;refine⟨_,_,sz,xs,rfl,?_⟩;rw[qH _ _ _ _ (by omega)]
  by_cases hj:off<=o/\o<off+L.length
  ·have:=Vq oV (o - off) (.sl sz xs .lock) (by omega) (by rw[G4,show off+(o - off)=o by omega];exact d2) rfl
   rw[show off+(o - off)=o by omega] at this
   exact absurd iB (h.oI _ this)
  ·rw[if_neg hj];exact d2
theorem zhS{cx:Cx}(hP:cx.P=P)(h:Rel B g s a w){t ty:aD}{x y:a_}{r:OR}{s':St}(aE:cx.mV t x y s.env s.H s.lk s.defers=some (r,s')) :
  ∃v g' cv w',r=.val v/\(Builtin.append_ #[t,t] ty #[a.eval x,a.eval y]).run P w=.ok cv w'/\Rel B g' s' a w'/\aX g' v cv/\(∀n l,cW g' n w' l v cv)/\v.top<=s'.H.az.length:=by
 unfold Cx.mV at aE;rw[hP] at aE;simp only[Option.bind_eq_bind,eM] at aE;obtain⟨td,ht,aE⟩:=aE;split at aE<;>try (cases aE;done)
 rename_i e;simp only[eM] at aE;obtain⟨n,hn,i,hi,z,hz,yv,hy,ys,th,aE⟩:=aE;have tH:=Vx hn hi;split at aE<;>try (cases aE;done)
 rename_i rM;simp only[tf,not_or,I3,Bool.not_eq_false'] at rM;have Eh:z.cells.size=n:=fo (by simpa using rM.1)
 have AM:0<n:=by
  rcases Kk n with e|e
  ·subst e;simp at rM
  ·exact e
 simp only[eM] at aE;obtain⟨xv,hx,aE⟩:=aE;obtain⟨y1,y3,_⟩:=zI h hy;obtain⟨x1,x3,x4⟩:=zI h hx;clear x4;have gv:=yp h hn th y1 y3;have p9:∀m,ku m i.bytes=true->m<=maxLen/\m * i.bytes<=140737488355328:=λm hm=>by
  simp only[ku,eF] at hm;exact⟨by have:=rA hm.1;simp only[maxLen];omega,rA hm.2⟩
 split at aE
 ·have I_:=x1.pM;split at aE
  ·simp only[bz,cq] at aE;obtain⟨rfl,rfl⟩:=aE;obtain⟨ad,cap,n_,_⟩:=gv.form;refine⟨.aH,g,.slice none 0 0,w,rfl,?_,h,.aH,λ_ _=>trivial,dP _⟩;rw[I_,n_];exact wV (P:=P) (ty:=ty) ht hn _ none 0 0 rfl (dB _) ad cap w
  ·rename_i cK;have cK:ys≠[]:=λe=>cK e;split at aE<;>try (cases aE;done)
   rename_i DG;simp only[dj,qw,qm,bz,cq] at aE;obtain⟨rfl,rfl⟩:=aE;obtain⟨ad,cy,n_,lg⟩:=gv.form;obtain⟨a0,news,rfl,ec,gx⟩:=lg cK;obtain⟨m1,m2⟩:=p9 _ DG;have uW:0<ys.length:=Ki.2 cK;have lp:news.length=ys.length * i.size:=by rw[<- ec.len,qM gv.sized,tH]
   have cC:=y9 (w:=w) (e:=e) (old:=0) (k:=ys.length) (sz:=n) (z:=z) (arr:=news.toArray) (vs:=news) (by simp) (by rw[lp,tH]) Eh m1
   have p_:bQ g (cg ys) news:=by rw[eX];exact ec
   obtain⟨g',r1,r2⟩:=zlb (w':=w.drew.alloc (.cells (news.toArray++Builtin.zeroCells z.cells (grownCap w ys.length 0 e - ys.length)) e)) h rfl rfl rfl rfl AM cC p_ (by rw[eX];exact cZ yo gv.aL)
   refine⟨_,g',_,_,rfl,?_,r1,r2,λ_ _=>trivial,by simp[V.top,Hp.push]⟩
   rw[I_,n_];exact run_append_nil (P:=P) w t ty e i z ht hi hz a0 ys.length cy news lp gx uW (by simp only[maxLen] at m1;omega) (by omega)
 ·rename_i b u len;split at aE<;>try (cases aE;done)
  rename_i eK sz cs e' hb;split at aE<;>try (cases aE;done)
  rename_i hc;simp only[dj,qw,ji,bz,cq] at aE;obtain⟨rfl,rfl⟩:=aE;simp only[eF] at hc;obtain⟨⟨⟨c1,c2⟩,c3⟩,DG⟩:=hc;have c1:=fo c1;have c2:=fo c2;have c3:=fo c3;subst c1;subst c2;subst c3;obtain⟨m1,m2⟩:=p9 _ DG;obtain⟨c,l0,cap,vs,hu,h2,h3⟩:=So h hb;have Ao:aL (cs++cg ys)<=max (aL cs) (V.bx ys).top:=by
   refine qO λq hq=>?_;rcases tu.1 hq with hq|hq
   ·exact cZ (zn hq) (Ds _ _)
   ·rw[eX] at hq;exact cZ (xU hq) (G5 _ _)
  have KT:aL (cs++cg ys)<=s.H.az.length:=cZ Ao (tw.2 ⟨h3,gv.aL⟩);have dH:(V.dF b (eK+1) (len+ys.length)).top<=((s.H.set b (.ul (eK+1) n (cs++cg ys) e)).bU b (.bx ys)).az.length:=by
   rw[zgv];have:=(SB h hb).1;simp only[V.top];omega
  generalize Ja:a.eval x=SD at x1;cases x1 with
  | dF hh =>
   rw[hu.fm] at hh;cases hh
   by_cases cK:ys=[]
   ·subst cK;obtain⟨ad,oU,n_,_⟩:=gv.form;have BZ:len<=cap:=by
     obtain⟨_,hr|⟨_,_,_,hr,_,_,h5,_⟩⟩:=hu.row
     ·cases hr.1
     ·cases hr;exact h5
    obtain⟨g',r1,r2⟩:=SC (v:=.bx []) h hb hu (λ_ _ _=>rfl) (dB _) rfl rfl rfl (.inl rfl) hu.row (cs':=cs++cg []) (by simpa[cg] using h2) KT Ao
    refine⟨_,g',_,w,rfl,?_,r1,r2,λ_ _=>trivial,dH⟩;rw[n_];exact wV (P:=P) (ty:=ty) ht hn _ (some ⟨c,0,none⟩) len cap rfl BZ ad oU w
   ·obtain⟨ad,cy,n_,lg⟩:=gv.form;obtain⟨a0,news,rfl,ec,gx⟩:=lg cK;have uW:0<ys.length:=Ki.2 cK;have lp:news.length=ys.length * i.size:=by rw[<- ec.len,qM gv.sized,tH]
    have p_:bQ g (cg ys) news:=by rw[eX];exact ec
    have dG:bQ g (cs++cg ys) (vs++news):=by
     refine⟨by simp only[aZ,h2.len,p_.len],λj q hq=>?_,λj q v' hq lV=>?_⟩
     ·rcases eY j cs.length with h4|h4
      ·rw[gF h4] at hq;exact h2.one j q hq
      ·rw[fM h4] at hq;exact p_.one _ q hq
     ·rcases eY j cs.length with h4|h4
      ·rw[gF h4] at hq;rw[gF (by rw[<- h2.len];exact h4)] at lV
       exact h2.rel j q v' hq lV
      ·rw[fM h4] at hq;rw[fM (by rw[<- h2.len];exact h4),<- h2.len] at lV
       exact p_.rel _ q v' hq lV
    obtain⟨BC,hr|⟨c',oU,cur,hr,_,lq,BZ,sH,nO,mq⟩⟩:=id hu.row
    ·cases hr.1
    cases hr;have hlen:(vs++news).length=(len+ys.length) * n:=by rw[aZ,BC,lp,tH,tv]
    by_cases EW:len+ys.length<=cap
    ·have Ht:len * i.size+news.length<=cur.size:=by rw[lp,tH,nO,<- tv];exact Nat.mul_le_mul_right _ EW
     have cL:=run_append_room (P:=P) w t ty e i ht hi c len cap cur lq a0 ys.length cy news lp gx ec.pN EW Ht;rw[tH] at cL Ht;have cC:(w.setRow c (cur.toList.take (len * n)++news++cur.toList.drop (len * n+news.length)).toArray).ownsRow 0 e n (.slice (some ⟨c,0,none⟩) (len+ys.length) cap) (len+ys.length) (vs++news):=by
      refine⟨hlen,.inr ⟨c,cap,_,rfl,dP _,setRow_heap w c cur _ e _ lq,EW,sH,?_,?_⟩⟩
      ·simp only[List.size_toArray,aZ,uQ,List.length_drop,AG];omega
      ·rw[mq,<- hlen];exact List.take_left
     obtain⟨g',r1,r2⟩:=SC (v:=.bx ys) h hb hu (λk _ hk=>setRow_other w c k _ hk) (Nat.le_of_eq (setRow_size w c _).symm) rfl rfl rfl (.inl rfl) cC dG KT Ao;refine⟨_,g',_,_,rfl,?_,r1,r2,λ_ _=>trivial,dH⟩;rw[n_];exact cL
    ·have cC:=y9 (w:=w) (e:=e) (old:=cap) (k:=len+ys.length) (sz:=n) (z:=z) (arr:=vs.toArray++news.toArray) (vs:=vs++news) (by simp) hlen Eh m1
     obtain⟨g',r1,r2⟩:=SC (v:=.bx ys) h hb hu (λk hk _=>heap_alloc_old w.drew _ hk) (by simp) rfl rfl rfl (.inr rfl) cC dG KT Ao
     refine⟨_,g',_,_,rfl,?_,r1,r2,λ_ _=>trivial,dH⟩;rw[n_];exact run_append_grow (P:=P) w t ty e i z ht hi hz ⟨c,0,none⟩ len cap vs (by rw[BC,tH]) (hu.row.cells rfl) a0 ys.length cy news lp gx (by omega) (by simp only[maxLen] at m1;omega) (growslice_fits (by omega) m2)
 ·rename_i b off len cap;split at aE<;>try (cases aE;done)
  rename_i cs tt hb;split at aE
  ·rename_i hc;simp only[dj,qw,ji,bz,cq] at aE;obtain⟨rfl,rfl⟩:=aE;simp only[eF] at hc;obtain⟨⟨⟨⟨⟨⟨c1,c2⟩,c3⟩,c4⟩,c5⟩,c6⟩,oV⟩:=hc;have c1:=fo c1;have c2:=fo c2;have c3:=fo c3;have c4:=fo c4;have c5:=rA c5;have c6:=rA c6;subst c1;subst c2;subst c3;rw[eX] at c4 ⊢;have lM:b<s.H.az.length:=by simp only[Hp.get,zg] at hb;exact(dA.1 hb).1
   have dH:(V.sr b 0 (len+ys.length) cap).top<=((s.H.set b (.cells (storeCells cs len ((zK ys).map bg)) tt)).bU b (.bx ((zK ys).map bg))).az.length:=by
    rw[zgv];simp only[V.top];omega
   generalize Ja:a.eval x=SD at x1;cases x1 with
   | sr BZ =>
    obtain⟨arr,a1,a2,a3,a4⟩:=xj h hb;have oz:cs.length=arr.size:=by have:=a2.len;simpa using this
    obtain⟨ad,cy,n_,lg⟩:=gv.form;have bW:aL ((zK ys).map bg)<=s.H.az.length:=by
     rw[eR];exact cZ yo gv.aL
    have gI:∀q∈(zK ys).map bg,bg q=q:=λq hq=>by
     obtain⟨q',_,rfl⟩:=mU.1 hq;exact zlc q'
    by_cases cK:ys=[]
    ·subst cK;have:=xY (news:=[]) (off:=len) h hb a1 a2 a3 a4 (L:=[]) ⟨rfl,λ_ _ e=>by simp at e,λ_ _ _ e=>by simp at e⟩ (λq hq=>by cases hq) (dP _) (by simp at c6 ⊢;omega) (by simp[wr])
     have e1:(w.setRow (g.bT b) (storeCells arr.toList len []).toArray)=w:=by
      show w.setRow (g.bT b) arr.toList.toArray=w;rw[Array.toArray_toList];exact setRow_self w _ arr _ _ a1
     rw[e1] at this;refine⟨_,g,_,w,rfl,?_,by simpa[zK] using this,.sr (by simpa using BZ),λ_ _=>trivial,dH⟩
     rw[n_];exact wV (P:=P) (ty:=ty) ht hn _ (some ⟨g.bT b,0,none⟩) len cap rfl BZ ad _ w
    ·obtain⟨a0,news,rfl,ec,gx⟩:=lg cK;have lp:news.length=ys.length:=by rw[<- ec.len,qM gv.sized,I5]
     have cL:=run_append_room (P:=P) w t ty tt i ht hi (g.bT b) len cap arr a1 a0 ys.length cy news (by rw[lp,tH,I5]) gx ec.pN c5 (by rw[lp,tH];omega)
     have dG:=xY (off:=len) h hb a1 a2 a3 a4 (L:=(zK ys).map bg) (news:=news) ec.uU gI bW (by rw[c4];exact c6) (by rw[c4];exact oV)
     have nq:arr.toList.take (len * i.size)++news++arr.toList.drop (len * i.size+news.length)=storeCells arr.toList len news:=by
      rw[tH,I5];have oW:arr.toList=arr.toList.take len++(arr.toList.drop len).take ys.length++arr.toList.drop (len+ys.length):=by
       rw[bp,<- List.drop_drop,Ea,Ea]
      have hlen:(arr.toList.take len).length=len:=by rw[uQ,AG];omega
      have:=kS news ((arr.toList.drop len).take ys.length) (arr.toList.take len) (arr.toList.drop (len+ys.length)) (by have hL:arr.toList.length=arr.size:=AG;simp only[uQ,List.length_drop];omega)
      rw[hlen,<- oW] at this;rw[this,lp]
     rw[nq] at cL;refine⟨_,g,_,_,rfl,?_,dG,.sr (by omega),λ_ _=>trivial,dH⟩
     rw[n_];exact cL
  ·rename_i e_;split at aE<;>try (cases aE;done)
   rename_i xs pE;split at aE<;>try (cases aE;done)
   rename_i hc;simp only[dj,qw,qm,bz,cq] at aE;obtain⟨rfl,rfl⟩:=aE;simp only[eF] at hc;obtain⟨⟨⟨c1,c2⟩,c3⟩,DG⟩:=hc;have c1:=fo c1;have c2:=rA c2;have c3:=rA c3;obtain⟨m1,m2⟩:=p9 _ DG;have KU:=yp h hn pE x1 x3;obtain⟨ad1,SE,iY,KV⟩:=KU.form;have hxn:xs≠[]:=λe=>by rw[e] at c1;simp at c1;omega
   obtain⟨a1,AP,rfl,pL,Hv⟩:=KV hxn;have ov:SE=cap/\len<=cap:=by
    rw[iY] at x1;cases x1 with
    | sr BZ=>exact⟨rfl,BZ⟩
   obtain⟨rfl,BZ⟩:=ov;obtain⟨ad,cy,n_,lg⟩:=gv.form;have uW:0<ys.length:=by omega
   have cK:ys≠[]:=λe=>by rw[e] at uW;simp at uW
   obtain⟨a0,news,rfl,ec,gx⟩:=lg cK;have lp:news.length=ys.length * i.size:=by rw[<- ec.len,qM gv.sized,tH]
   have DF:AP.length=len * i.size:=by rw[<- pL.len,qM KU.sized,tH,c1]
   have h2:bQ g (cg xs) AP:=by rw[eX];exact pL
   have p_:bQ g (cg ys) news:=by rw[eX];exact ec
   have dG:bQ g (cg xs++cg ys) (AP++news):=by
    refine⟨by simp only[aZ,h2.len,p_.len],λj q hq=>?_,λj q v' hq lV=>?_⟩
    ·rcases eY j (cg xs).length with h4|h4
     ·rw[gF h4] at hq;exact h2.one j q hq
     ·rw[fM h4] at hq;exact p_.one _ q hq
    ·rcases eY j (cg xs).length with h4|h4
     ·rw[gF h4] at hq;rw[gF (by rw[<- h2.len];exact h4)] at lV
      exact h2.rel j q v' hq lV
     ·rw[fM h4] at hq;rw[fM (by rw[<- h2.len];exact h4),<- h2.len] at lV
      exact p_.rel _ q v' hq lV
   have hlen:(AP++news).length=(len+ys.length) * n:=by rw[aZ,DF,lp,tH,tv]
   have cC:=y9 (w:=w) (e:=e) (old:=SE) (k:=len+ys.length) (sz:=n) (z:=z) (arr:=AP.toArray++news.toArray) (vs:=AP++news) (by simp) hlen Eh m1
   have Ao:aL (cg xs++cg ys)<=s.H.az.length:=by
    refine qO λq hq=>?_;rcases tu.1 hq with hq|hq
    ·rw[eX] at hq;exact cZ (xU hq) KU.aL
    ·rw[eX] at hq;exact cZ (xU hq) gv.aL
   obtain⟨g',r1,r2⟩:=zlb (w':=w.drew.alloc (.cells (AP.toArray++news.toArray++Builtin.zeroCells z.cells (grownCap w (len+ys.length) SE e - (len+ys.length))) e)) h rfl rfl rfl rfl AM cC dG Ao;refine⟨_,g',_,_,rfl,?_,r1,r2,λ_ _=>trivial,by simp[V.top,Hp.push]⟩
   rw[iY,n_,c1];exact run_append_grow (P:=P) w t ty e i z ht hi hz a1 len SE AP DF Hv a0 ys.length cy news lp gx (by omega) (by simp only[maxLen] at m1;omega) (growslice_fits (by omega) m2)
 ·cases aE
theorem zld{cx:Cx}(hP:cx.P=P)(h:Rel B g s a w){t t2 ty:aD}{x y:a_}{r:OR}{s':St}(aE:cx.sx t x y s.env s.H s.lk s.defers=some (r,s')) :
  ∃v g' cv w',r=.val v/\(Builtin.copy_ #[t,t2] ty #[a.eval x,a.eval y]).run P w=.ok cv w'/\Rel B g' s' a w'/\aX g' v cv/\(∀n l,cW g' n w' l v cv)/\v.top<=s'.H.az.length:=by
 unfold Cx.sx at aE;rw[hP] at aE;simp only[Option.bind_eq_bind,eM] at aE;obtain⟨td,ht,aE⟩:=aE;split at aE<;>try (cases aE;done)
 rename_i e;simp only[eM] at aE;obtain⟨n,hn,yv,hy,ys,th,xv,hx,aE⟩:=aE;obtain⟨y1,y3,_⟩:=zI h hy;obtain⟨x1,x3,x4⟩:=zI h hx;clear x4;have gv:=yp h hn th y1 y3;split at aE<;>try (cases aE;done)
 rename_i b off len cap;split at aE<;>try (cases aE;done)
 rename_i cs tt hb;split at aE<;>try (cases aE;done)
 rename_i hc;simp only[dj,ji,bz,cq] at aE;obtain⟨rfl,rfl⟩:=aE;simp only[eF] at hc;obtain⟨⟨⟨c1,c2⟩,c3⟩,oV⟩:=hc;have c1:=fo c1;have c2:=fo c2;have c3:=rA c3;subst c1;rw[eX] at c2;have AQ:(P.info? e).map (·.size)=some 1:=hn;generalize hm:min len ys.length=m at c2 c3 oV ⊢;generalize Ja:a.eval x=SD at x1;cases x1 with
 | sr BZ =>
  obtain⟨arr,a1,a2,a3,a4⟩:=xj h hb;have oz:cs.length=arr.size:=by have:=a2.len;simpa using this
  have lM:b<s.H.az.length:=by simp only[Hp.get,zg] at hb;exact(dA.1 hb).1
  obtain⟨ad,cy,n_,lg⟩:=gv.form;obtain⟨news,dY,cL⟩:∃news,bQ g ((zK (ys.take m)).map bg) news/\(Builtin.copy_ #[t,t2] ty #[.slice (some ⟨g.bT b,off,none⟩) len cap,a.eval y]).run P w=.ok (goInt m) (w.setRow (g.bT b) (storeCells arr.toList off news).toArray):=by
   by_cases cK:ys=[]
   ·subst cK;have C3:m=0:=by rw[<- hm];simp
    subst C3;refine⟨[],⟨by simp[zK],λ_ _ e=>by simp[zK] at e,λ_ _ _ e=>by simp[zK] at e⟩,?_⟩
    rw[n_];have e1:(w.setRow (g.bT b) (storeCells arr.toList off []).toArray)=w:=by
     show w.setRow (g.bT b) arr.toList.toArray=w;rw[Array.toArray_toList];exact setRow_self w _ arr _ _ a1
    rw[e1];simp only[z4,mS] at hn;obtain⟨i,hi,uX⟩:=hn;cases ad<;>simp[Builtin.copy_,run_underlying ht,Builtin.lenOf,Builtin.firstCells,sizeOf,typeInfo,hi,Go.storeCells,loadCells,loadCellsFrom]
   ·obtain⟨a0,news,rfl,ec,gx⟩:=lg cK;have lp:news.length=ys.length:=by rw[<- ec.len,qM gv.sized];simp
    have Ca:m<=ys.length:=by omega
    have Gt:zK (ys.take m)=(zK ys).take m:=by
     have h1:zK ys=zK (ys.take m)++zK (ys.drop m):=by rw[<- xV,Ea]
     have h2:(zK (ys.take m)).length=m:=by rw[qM (sz:=1) λy hy=>gv.sized y (Bt hy)];simp;omega
     rw[h1,List.take_append_of_le_length (by omega)];exact(su (by omega)).symm
    refine⟨news.take m,by rw[Gt];exact(ec.take m).uU,?_⟩
    have Gu:=run_copy_row P w t t2 ty e (g.bT b) off len cap a0 ys.length cy arr tt (news.take m) ht AQ a1 (by rw[uQ,lp,<- hm];show min (min len ys.length) ys.length=min ys.length len;omega) (λj v hv=>gx j v (by
     rw[Ak] at hv;split at hv
     ·exact hv
     ·cases hv)) (by rw[uQ,lp];omega) (ec.take m).pN
    rw[n_,Gu];have e1:(news.take m).length=m:=by rw[uQ,lp];omega
    have nq:arr.toList.take off++news.take m++arr.toList.drop (off+(news.take m).length)=storeCells arr.toList off (news.take m):=by
     have oW:arr.toList=arr.toList.take off++(arr.toList.drop off).take m++arr.toList.drop (off+m):=by
      rw[bp,<- List.drop_drop,Ea,Ea]
     have hlen:(arr.toList.take off).length=off:=by rw[uQ,AG];omega
     have:=kS (news.take m) ((arr.toList.drop off).take m) (arr.toList.take off) (arr.toList.drop (off+m)) (by rw[uQ,List.length_drop,AG];omega)
     rw[hlen,<- oW] at this;rw[this,e1]
    rw[nq,e1]
  have lp:news.length=m:=dY.len.symm.trans c2;simp only[eX];generalize hL:(zK (ys.take m)).map bg=L at *;have VL:aL L<=s.H.az.length:=by
   rw[<- hL,eR];exact cZ yo (cZ (VI _ _) gv.aL)
  refine⟨_,g,_,_,rfl,cL,xY h hb a1 a2 a3 a4 dY (λq hq=>?_) VL (by omega) (by rw[c2];exact oV),.int _ _,λ_ _=>trivial,dP _⟩
  rw[<- hL] at hq;obtain⟨q',_,rfl⟩:=mU.1 hq;exact zlc q'
end
section
variable{P:aY}{B:dS}{g:Gh}{s:St}{a:Act}{w:aQ}
structure oZ(P:aY)(cx:Cx)(B:dS):Prop where
 prog:cx.P=P
 num:yE P
 VM:wY P
 gl:iu P cx.gl B.g
 calls:∃d,d<B.d/\xA P cx.gl cx.call d
theorem eW.ends{s':St}{o:Oper}{v:V}(hv:eW P B s' a w o v){r:OR}(hr:r=.val v){K:Act->aQ->Prop}{Q:Exit->Act->aQ->Prop}(hE:Ends P B o r s' K Q):o.wp P a w K Q :=
 zo1 hv λg' cv w' hk=>hE.val v hr g' cv a w' hk
theorem oY.ends{s':St}{o:Oper}(hv:oY P B s' a w o){r:OR}(hr:r=.skip){K:Act->aQ->Prop}{Q:Exit->Act->aQ->Prop}(hE:Ends P B o r s' K Q):o.wp P a w K Q :=
 wp_skip hv λg' w' hk=>hE.skip hr g' a w' hk
theorem VN(h:Rel B g s a w){xs:rT}{vs:aG}(hp:av s.env xs.toList=some vs):vs.length=(xs.map a.eval).size/\(∀(j:Nat)(x:V)(v:bC),vs[j]?=some x->(xs.map a.eval)[j]?=some v->aX g x v)/\aL vs<=s.H.az.length:=by
 obtain⟨h1,h2,h3,_⟩:=Sp h hp;refine⟨by simp[h1],λj x v hx hv=>h2 j x v hx ?_,h3⟩
 rw[<- F9] at hv;simpa using hv
theorem Hw{cx:Cx}(iY:oZ P cx B)(h:Rel B g s a w){takes:cw}{o:Oper}{r:OR}{s':St}(aE:cx.op takes o s.env s.H s.lk s.defers=some (r,s')){K:Act->aQ->Prop}{Q:Exit->Act->aQ->Prop}(hE:Ends P B o r s' K Q):o.wp P a w K Q:=by
 obtain⟨hP,fN,dQ,rG,d,hd,dz⟩:=iY;subst hP;have DI:iu cx.P cx.gl g:=rG.le h.fr.le;have read:∀v,jc cx.P cx.gl o s.env s.H=some v->r=.val v->s'=s->o.wp cx.P a w K Q:=by
  intro v hv hr hs;subst hs;exact eW.ends (Sr h DI hv) hr hE
 have uo:(match jc cx.P cx.gl o s.env s.H with|none=>none|some v=>some (OR.val v,(⟨s.env,s.H,s.lk,s.defers⟩:St)))=some (r,s')->o.wp cx.P a w K Q:=by
  intro hh;split at hh<;>simp only[bz,reduceCtorEq,cq] at hh;rename_i v hv;exact read v hv hh.1.symm hh.2.symm
 unfold Cx.op at aE;simp only at aE;split at aE
 ·rename_i x ho;split at aE
  ·split at aE<;>simp only[bz,reduceCtorEq,cq] at aE;rename_i v dh ht;obtain⟨rfl,rfl⟩:=aE;exact(zgp h ht (.inl ho)).ends rfl hE
  ·exact uo aE
 next x ho=>split at aE<;>simp only[bz,reduceCtorEq,cq] at aE;rename_i v dh ht;obtain⟨rfl,rfl⟩:=aE;exact(zgp h ht (.inr ho)).ends rfl hE
 ·rename_i t p ho;split at aE
  ·exact uo aE
  ·split at aE<;>try (cases aE;done)
   ·rename_i b off DE hp;split at aE<;>try (cases aE;done)
    rename_i cs ty hb;split at aE<;>try (cases aE;done)
    next sz xs e hc=>simp only[eP,ji,bz,cq] at aE;obtain⟨rfl,rfl⟩:=aE;rw[zg] at hc;have:=znm h DE hp hb hc ho;refine eW.ends (v:=.sl sz xs (.yes e)) ?_ rfl hE;simpa[Hp.bU,V.top] using this
    ·rename_i hc;simp only[bz,cq] at aE;obtain⟨rfl,rfl⟩:=aE;rw[zg] at hc;have hl:zk cx.P s.H cx.gl t (.ptr b off)=some .aH:=by
      simp[zk,hb,kV,DE,zg,hc]
     have Jc:jc cx.P cx.gl o s.env s.H=some .aH:=by
      obtain⟨dst,op,type,pos,after,guard⟩:=o;simp only at ho;subst ho;simp[jc,hp,hl,bg]
     exact eW.ends (Sr h DI Jc) rfl hE
    ·rename_i c9 u9 n9 hc;simp only[bz,cq] at aE;obtain⟨rfl,rfl⟩:=aE;rw[zg] at hc;have hl:zk cx.P s.H cx.gl t (.ptr b off)=some (.dF c9 u9 n9):=by
      simp[zk,hb,kV,DE,zg,hc]
     have Jc:jc cx.P cx.gl o s.env s.H=some (.dF c9 u9 n9):=by
      obtain⟨dst,op,type,pos,after,guard⟩:=o;simp only at ho;subst ho;simp[jc,hp,hl,bg]
     exact eW.ends (Sr h DI Jc) rfl hE
   ·rename_i cs DE hp;split at aE<;>try (cases aE;done)
    rename_i c9 o9 l9 k9 hc;simp only[bz,cq] at aE;obtain⟨rfl,rfl⟩:=aE;have hl:zk cx.P s.H cx.gl t (.vp cs)=some (.sr c9 o9 l9 k9):=by
     simp[zk,kV,DE,zg] at hc ⊢;simp[hc]
    have Jc:jc cx.P cx.gl o s.env s.H=some (.sr c9 o9 l9 k9):=by
     obtain⟨dst,op,type,pos,after,guard⟩:=o;simp only at ho;subst ho;simp[jc,hp,hl,bg]
    exact eW.ends (Sr h DI Jc) rfl hE
 ·rename_i t ho;split at aE<;>try (cases aE;done)
  rename_i z hz;split at aE<;>try (cases aE;done)
  rename_i ek;simp only[ql,qm,bz,cq] at aE;obtain⟨rfl,rfl⟩:=aE;exact(zk6 h hz (by simpa using ek) ho).ends rfl hE
 ·rename_i t x ho;split at aE<;>try (cases aE;done)
  rename_i v dh ht;split at aE<;>try (cases aE;done)
  rename_i ek;simp only[ql,dj,qm,bz,cq] at aE;obtain⟨rfl,rfl⟩:=aE;exact(zo0 h ht (by simpa using ek) ho).ends rfl hE
 ·rename_i t p x ho;split at aE<;>try (cases aE;done)
  ·rename_i b off hp;split at aE<;>try (cases aE;done)
   rename_i v dh n cs ty ht hn hb;simp only[ql,dj,eH,ji] at aE;split at aE<;>simp only[bz,reduceCtorEq,cq] at aE;rename_i hc;obtain⟨rfl,rfl⟩:=aE;simp only[eF] at hc;obtain⟨g',w',h1,h2⟩:=zk4 h hp ht hn hb hc.1.1.1 (fo hc.1.1.2) (rA hc.1.2) hc.2;exact oY.ends ⟨g',w',by simp[execOp,ho,h1],h2⟩ rfl hE
  ·rename_i b u k hp;split at aE<;>try (cases aE;done)
   rename_i xv dh n eK sz cs e hx hn hb;simp only[ql,eH,ji] at aE;split at aE<;>simp only[bz,reduceCtorEq,cq] at aE;rename_i hc;obtain⟨rfl,rfl⟩:=aE;simp only[eF] at hc;have hv:=fo hc.1.1.1;subst hv;obtain⟨g',w',h1,h2⟩:=zka h hp hx rfl hn hb hc.1.1.2 (fo hc.1.2) (rA hc.2);exact oY.ends ⟨g',w',by simp[execOp,ho,h1],h2⟩ rfl hE
 ·rename_i t rr ho;split at aE<;>try (cases aE;done)
  simp only[qm,bz,cq] at aE;obtain⟨rfl,rfl⟩:=aE;exact(zhP h ho).ends rfl hE
 ·rename_i t l c ho;split at aE<;>try (cases aE;done)
  rename_i e k lv k' cv ht hl hc;split at aE<;>try (cases aE;done)
  rename_i n i z hn hi hz;split at aE<;>try (cases aE;done)
  rename_i rM;have hm:=zfh h ht hl hc hn hi hz (Bool.eq_false_iff.2 rM) ho;split at aE
  ·simp only[dj,qw,qm,bz,cq] at aE;obtain⟨rfl,rfl⟩:=aE;exact hm.2.ends rfl hE
  split at aE
  next h0=>simp only[bz,cq] at aE;obtain⟨rfl,rfl⟩:=aE;exact(hm.1 h0).ends rfl hE
  ·split at aE<;>try (cases aE;done)
   simp only[dj,qm,bz,cq] at aE;obtain⟨rfl,rfl⟩:=aE;exact hm.2.ends rfl hE
 ·rename_i t m k x ho;split at aE<;>try (cases aE;done)
  rename_i b kv v hm hk hx;split at aE<;>try (cases aE;done)
  rename_i tj;simp only[ql,eH,ji] at aE;split at aE<;>try (cases aE;done)
  rename_i es hb;split at aE<;>simp only[bz,reduceCtorEq,cq] at aE;rename_i iF hs;obtain⟨rfl,rfl⟩:=aE;obtain⟨w',h1,h2⟩:=zbs h hm hk hx (by simpa using tj) hb hs
  exact oY.ends ⟨g,w',by simp[execOp,ho,h1],h2⟩ rfl hE
 ·rename_i t m k x ho;split at aE<;>try (cases aE;done)
  rename_i b kv v hm hk hx;split at aE<;>try (cases aE;done)
  rename_i tj;simp only[ql,eH,ji] at aE;split at aE<;>try (cases aE;done)
  rename_i es hb;split at aE<;>simp only[bz,reduceCtorEq,cq] at aE;rename_i iF hs;obtain⟨rfl,rfl⟩:=aE;obtain⟨w',h1,h2⟩:=zbs h hm hk hx (by simpa using tj) hb hs
  exact oY.ends ⟨g,w',by simp[execOp,ho,h1],h2⟩ rfl hE
 ·rename_i t x ho;split at aE<;>try (cases aE;done)
  rename_i l ht hx;simp only[qm,bz,cq] at aE;obtain⟨rfl,rfl⟩:=aE;exact(zk7 h ht hx ho).ends rfl hE
 ·rename_i it ho;split at aE<;>try (cases aE;done)
  rename_i b hi;split at aE<;>try (cases aE;done)
  rename_i l pos hb;have hn:=znk (P:=cx.P) h hi hb o.type;split at aE
  next bW=>rw[if_pos bW] at hn;obtain⟨cv,w',h1,h2,h3⟩:=hn;simp only[qw,ji,bz,cq] at aE;obtain⟨rfl,rfl⟩:=aE;exact eW.ends ⟨g,cv,w',by simp[execOp,ho,h1],h3,h2,λ_ _=>trivial,by simp[V.top,aL]⟩ rfl hE
  next bW=>rw[if_neg bW] at hn;obtain⟨cv,h1,h2⟩:=hn;simp only[bz,cq] at aE;obtain⟨rfl,rfl⟩:=aE;exact eW.ends ⟨g,cv,w,by simp[execOp,ho,h1],h,h2,λ_ _=>trivial,by simp[V.top,aL]⟩ rfl hE
 ·rename_i src dst x ho;split at aE
  next v dh hv=>simp only[bz,cq] at aE;obtain⟨rfl,rfl⟩:=aE;exact(znl (P:=cx.P) h hv ho).ends rfl hE
  ·split at aE
   ·split at aE<;>simp only[bz,reduceCtorEq,cq] at aE;rename_i v hv;obtain⟨rfl,rfl⟩:=aE;cases hx:ak s.env x with
    | none=>rw[hx] at hv;cases hv
    | some u =>
     rw[hx] at hv;obtain⟨u1,u2,_⟩:=zI h hx;simp only[Kv] at hv;split at hv<;>try (cases hv;done)
     rename_i u' nD
     by_cases SF:∃b o l c,u=.sr b o l c
     ·obtain⟨b,off,len,cap,rfl⟩:=SF;exact eW.ends (zk3 (P:=cx.P) h nD hv u1 u2 ho) rfl hE
     ·obtain rfl:u=u':=by
       have:=ziR (P:=cx.P) (H:=s.H) (a:=src) (v:=u) λb o l c e=>SF ⟨b,o,l,c,e⟩;rw[this] at nD;exact BQ nD
      refine uo ?_;rw[show jc cx.P cx.gl o s.env s.H=some v by simp[jc,ho,hx,hv]]
   ·exact uo aE
 ·rename_i t x lo hi ho;split at aE
  ·rename_i hf;split at aE<;>simp only[bz,reduceCtorEq,cq] at aE;rename_i v dh hv;obtain⟨rfl,rfl⟩:=aE;obtain rfl:hi=none:=by unfold xz at hf;split at hf<;>first|rfl|cases hf
   exact(zk9 (P:=cx.P) h hv ho).ends rfl hE
  ·split at aE
   ·obtain⟨v,e1,e2⟩:=zj8 rfl h aE ho;exact e2.ends e1 hE
   ·exact uo aE
 ·rename_i c ho;split at aE
  ·rename_i b gH;have plain:(match cx.builtin b c.argTypes c.args s.env s.H with|none=>none|some (r,env)=>some (r,(⟨env,s.H,s.lk,s.defers⟩:St)))=some (r,s')->o.wp cx.P a w K Q:=by
    intro aE;split at aE<;>simp only[bz,reduceCtorEq,cq] at aE;rename_i r' dh hb;obtain⟨rfl,rfl⟩:=aE;obtain⟨v,hv,ek⟩:=zhR rfl h hb ho gH rfl rfl;exact ek.ends hv hE
   split at aE
   ·rename_i x y t ts fS Cb;obtain⟨v,g',cv,w',e1,e2,e3,e4,e5,e6⟩:=zld (t2:=ts.headD 0) (ty:=o.type) rfl h aE;have ea:=rL fS;have cL:(execOp a.eval o).run cx.P w=.ok (.value cv) w':=by
     have:(Builtin.copy_ c.argTypes o.type #[a.eval x,a.eval y]).run cx.P w=.ok cv w':=by
      rw[<- e2];have:c.argTypes[0]?=some t:=by rw[<- F9,Cb];rfl
      simp[Builtin.copy_,this]
     simp[execOp,ho,resolve,gH,ea,invoke,builtin,this]
    exact eW.ends ⟨g',cv,w',cL,e3,e4,λ_ _=>e5 _ _,e6⟩ e1 hE
   ·rename_i x y t u fS Cb;split at aE
    ·split at aE<;>try (cases aE;done)
     rename_i KQ;have KQ:=fo KQ;subst KQ;obtain⟨v,g',cv,w',e1,e2,e3,e4,e5,e6⟩:=zhS (ty:=o.type) rfl h aE;have ea:=rL fS;have et:=zla Cb;have cL:(execOp a.eval o).run cx.P w=.ok (.value cv) w':=by
      simp[execOp,ho,resolve,gH,ea,et,invoke,builtin,e2]
     exact eW.ends ⟨g',cv,w',cL,e3,e4,λ_ _=>e5 _ _,e6⟩ e1 hE
    ·exact plain aE
   ·exact plain aE
  ·rename_i f gH;split at aE<;>try (cases aE;done)
   rename_i fv args hf ha;split at aE<;>simp only[bz,reduceCtorEq,cq] at aE;rename_i r' H' hc;obtain⟨rfl,rfl⟩:=aE;obtain⟨f1,f2,_⟩:=zI h hf;obtain⟨a1,a2,a3⟩:=VN h ha;have lg:∃fn fa fc,a.eval f=.func fn fa fc:=by
    unfold Cx.mB at hc;split at hc
    ·generalize a.eval f=c at f1;cases f1;exact⟨_,_,_,rfl⟩
    ·generalize a.eval f=c at f1;cases f1;exact⟨_,_,_,rfl⟩
    ·cases hc
   obtain⟨fn,fa,fc,SG⟩:=lg;rw[SG] at f1;refine zgs rfl fN dQ hd rG dz h hc f1 f2 a1 a2 a3 ?_ hE;simp[execOp,ho,resolve,gH,SG,Deferred.ofValue]
  ·rename_i rcv m gH;split at aE<;>try (cases aE;done)
   rename_i rv args hf ha;split at aE<;>simp only[bz,reduceCtorEq,cq] at aE;rename_i r' H' hc;obtain⟨rfl,rfl⟩:=aE;obtain⟨f1,f2,_⟩:=zI h hf;obtain⟨a1,a2,a3⟩:=VN h ha
   refine zgs (fn:=.method m) (fa:=#[]) (fc:=#[]) (bG:=#[a.eval rcv]++c.args.map a.eval) rfl fN dQ hd rG dz h hc (.fn rfl rfl (λ_ _ _ e=>by simp at e) (λ_ _ _ e=>by simp at e)) (by simp[V.top,aL]) (by simp at a1 ⊢;omega) ?_ (tw.2 ⟨f2,a3⟩) ?_ hE
   ·exact vF (l:=[rv]) (x:=#[a.eval rcv]) rfl (λj z v hz hv=>by
     cases j with
     | zero=>simp at hz hv;subst hz;subst hv;exact f1
     | succ j=>simp at hz) a2
   ·simp[execOp,ho,resolve,gH]
 ·rename_i c ho;split at aE<;>try (cases aE;done)
  rename_i f gH;split at aE<;>simp only[bz,reduceCtorEq,cq] at aE;rename_i f' first cap args hf ha
  obtain⟨rfl,rfl⟩:=aE;obtain⟨f1,f2,_⟩:=zI h hf;obtain⟨a1,a2,a3⟩:=VN h ha;generalize SG:a.eval f=cf at f1;cases f1 with
  | fn e1 e2 e3 e4 =>
   rename_i fa fc;have ht:=tw.1 (show max (aL first) (aL cap)<=s.H.az.length from f2)
   have cL:(execOp a.eval o).run cx.P w=.ok (.defer { target:=.fn (.func f') fc,args:=fa++c.args.map a.eval }) w:=by
    simp[execOp,ho,resolve,gH,SG,Deferred.ofValue]
   unfold Oper.wp;rw[cL,Oper.upon_defer];refine hE.skip rfl g { a with defers:={ target:=.fn (.func f') fc,args:=fa++c.args.map a.eval }::a.defers } w ?_
   refine { di:=h.di,len:=h.len,env:=h.env,dO:=h.dO,n0:=h.n0,bJ:=h.bJ,dZ:=h.dZ,fr:=h.fr,lK:=h.lK,oI:=h.oI,dg:=h.dg,eJ:=by simp[h.eJ],defers:=λj x q hx hq=>?_,marks:=λd hd D hD=>(by rcases dM.1 hd with e|Ap;{ subst e;cases hD };{ exact h.marks d Ap D hD }),nI:=.cons (λ_ _ D hD=>nomatch hD) h.nI }
   cases j with
   | zero =>
    simp only[List.getElem?_cons_zero,bz] at hx hq;subst hx;subst hq;exact .inl ⟨f',first,cap,fc,rfl,rfl,by rw[aZ,e1,Array.size_append,a1],e2,vF e1 e3 a2,e4,wx ht.1 a3,ht.2⟩
   | succ j=>exact h.defers j x q (by simpa using hx) (by simpa using hq)
 ·rename_i x ho;split at aE<;>simp only[bz,reduceCtorEq,cq] at aE;rename_i t v hx;obtain⟨rfl,rfl⟩:=aE;obtain⟨x1,x2,_⟩:=zI h hx;generalize Ja:a.eval x=SD at x1;cases x1 with
  | dX hv =>
   rename_i cv;unfold Oper.wp;have:(execOp a.eval o).run cx.P w=.halt (.panic (.iface t cv)) w:=by
    simp[execOp,ho,Ja,Instr.panic,goPanic]
   rw[this,Oper.upon_panic];exact hE.pX _ rfl g (.iface t cv) a w h (.dX hv) x2
 ·exact uo aE
end
section
variable{P:aY}{B:dS}{g:Gh}{s:St}{a:Act}{w:aQ}
def VO(g:Gh)(n:Nat):Ex->Exit->Prop
 | .normal,.normal=>True
 | .exit i,.exit j=>i=j
 | .goto i,.goto j=>i=j
 | .ret,.ret=>True
 | .pX v,.panic chain=>∃cv,chain=[{ v:=cv,recovered:=false }]/\aX g v cv/\v.top<=n
 | _,_=>False
def vX(B:dS)(ex:Ex)(s':St):Exit->Act->aQ->Prop:=λe a w=>∃g,Rel B g s' a w/\VO g s'.H.az.length ex e
theorem yq(h:Rel B g s a w){ops:Array Oper}{o:Oper}{b:Bool}(hw:zZ ops o s.env=some b):Region.wanted o (yielded ops a.tmps)=b:=by
 unfold zZ at hw;unfold Region.wanted;split at hw
 next hg=>simp only[bz] at hw;rw[hg,<- hw]
 ·rename_i j want hg;rw[hg];simp only;split at hw<;>try (cases hw;done)
  rename_i d hd;rw[zg] at hw;unfold yielded;rw[hd];simp only[aV];split at hw<;>simp only[bz,reduceCtorEq] at hw
  next c hc=>obtain⟨cv,iW,_⟩:=h.slot hc;have hr:=(h.env d _ cv hc iW).1;cases hr;rw[iW];simp only[<- hw];cases c<;>cases want<;>rfl
  next c hc=>obtain⟨cv,iW,_⟩:=h.slot hc;have hr:=(h.env d _ cv hc iW).1;cases hr;rw[iW,<- hw];rfl
theorem yF(h:Rel B g s a w)(o:Oper):DC B g s a w o.dst (.bx []) undef :=
 ⟨h,.bx rfl (λ_ _ _ e=>by simp at e),λ_ _=>trivial,dP _⟩
theorem zle{cx:Cx}(iY:oZ P cx B){all:Array Oper}{takes:cw}{ex:Ex}{s':St}{Q:Exit->Act->aQ->Prop}(hQ:∀e a w,vX B ex s' e a w->Q e a w):∀(l:List Oper)(s:St)(g:Gh)(a:Act)(w:aQ),Rel B g s a w->cx.ops all takes l s=some (ex,s')->wpList P all Q l a w
 | [],s,g,a,w,h,hc=>by
  simp only[Cx.ops,bz,cq] at hc;obtain⟨rfl,rfl⟩:=hc;exact hQ _ _ _ ⟨g,h,trivial⟩
 | o::os,⟨env,H,lk,df⟩,g,a,w,h,hc=>by
  have ih:=zle iY (all:=all) (takes:=takes) hQ os;simp only[Cx.ops] at hc;unfold wpList;split at hc<;>try (cases hc;done)
  ·rename_i hw;rw[if_neg (by rw[yq h hw];simp)]
   rw[jR] at hc;exact ih _ g _ w (wQ (yF h o)) hc
  ·rename_i hw;rw[if_pos (yq h hw)]
   left
   split at hc<;>try (cases hc;done)
   next v dh H' Hx Hy aE=>rw[jR] at hc;refine Hw iY h aE ⟨λv' hv g' cv a' w' hk=>?_,(λhv=>nomatch hv),(λv' hv=>nomatch hv)⟩;cases hv;exact ih _ g' _ w' (wQ hk) hc
   next dh H' Hx Hy aE=>rw[jR] at hc;refine Hw iY h aE ⟨(λv' hv=>nomatch hv),λ_ g' a' w' hk=>?_,(λv' hv=>nomatch hv)⟩;exact ih _ g' _ w' (wQ (yF hk o)) hc
   next v s1 aE=>simp only[bz,cq] at hc;obtain⟨rfl,rfl⟩:=hc;refine Hw iY h aE ⟨(λv' hv=>nomatch hv),(λhv=>nomatch hv),λv' hv g' cv a' w' hk h1 h2=>?_⟩;cases hv;exact hQ _ _ _ ⟨g',hk,cv,rfl,h1,h2⟩
theorem Rel.HE(h:Rel B g s a w):Rel B g { s with lk:=[] } a w :=
 {di:=h.di,len:=h.len,env:=h.env,dO:=h.dO,n0:=h.n0,bJ:=h.bJ,dZ:=h.dZ,fr:=h.fr,lK:=h.lK,oI:=λ_ hp=>by simp at hp,dg:=h.dg,eJ:=h.eJ,defers:=h.defers,marks:=h.marks,nI:=h.nI }
def Nf(P:aY)(cx:Cx)(B:dS):Prop:=oZ P cx B->∀(id:Nat)(ops:Array Oper)(s s':St)(ex:Ex)(g:Gh)(a:Act)(w:aQ),cx.draw ops s=some (ex,s')->Rel B g s a w->(Code.region id ops true).wp P (vX B ex s') a w
def Ng(P:aY)(cx:Cx)(B:dS):Prop:=oZ P cx B->∀(n:Nat)(f:a_)(ps:Array Tmp)(as bd:Code)(s s':St)(ex:Ex)(g:Gh)(a:Act)(w:aQ),cx.code n (.rangeFunc f ps as bd) s=some (ex,s')->Rel B g s a w->(Code.rangeFunc f ps as bd).wp P (vX B ex s') a w
theorem SH{B:dS}{ex:Ex}{s':St}{K:Act->aQ->Prop}{Q:Exit->Act->aQ->Prop}(hn:ex=.normal->∀g a w,Rel B g s' a w->K a w)(ho:ex≠.normal->∀e a w,vX B ex s' e a w->Q e a w):∀e a w,vX B ex s' e a w->Exit.then K Q e a w:=by
 rintro e a w ⟨g,h1,h2⟩;cases ex<;>cases e<;>first
  |(exact h2.elim)
  |(exact hn rfl g a w h1)
  | (exact ho (λe=>by cases e) _ _ _ ⟨g,h1,h2⟩)
theorem zi0{cx:Cx}(iY:oZ P cx B)(fm:Nf P cx B)(hrg:Ng P cx B)(n:Nat):∀(c:Code)(s s':St)(ex:Ex)(g:Gh)(a:Act)(w:aQ),cx.code n c s=some (ex,s')->Rel B g s a w->c.wp P (vX B ex s') a w:=by
 intro c
 induction c with
 | skip =>
  intro s s' ex g a w hc h;simp only[Cx.code,bz,cq] at hc;obtain⟨rfl,rfl⟩:=hc;exact Go.wp_skip ⟨g,h,trivial⟩
 | label l =>
  intro s s' ex g a w hc h;simp only[Cx.code,bz,cq] at hc;obtain⟨rfl,rfl⟩:=hc;exact wp_label ⟨g,h,trivial⟩
 | region id ops draw =>
  intro s s' ex g a w hc h;cases draw with
  | false =>
   obtain⟨env,H,lk,df⟩:=s;simp only[Cx.code] at hc;exact wp_region_list (zle iY (λ_ _ _ q=>q) _ _ g a w h.HE hc)
  | true =>
   simp only[Cx.code] at hc;exact fm iY id ops s s' ex g a w hc h
 | seq x y HF KX =>
  intro s s' ex g a w hc h;simp only[Cx.code] at hc;split at hc<;>try (cases hc;done)
  next s1 hx=>refine wp_seq (Code.wp_mono (SH (λ_ g' a' w' h'=>KX s1 s' ex g' a' w' hc h') (λe=>absurd rfl e)) (HF s s1 .normal g a w hx h))
  next e1 s1 cK hx=>simp only[bz,cq] at hc;obtain⟨rfl,rfl⟩:=hc;refine wp_seq (Code.wp_mono (SH (λe=>absurd e ?_) (λ_ _ _ _ q=>q)) (HF s _ _ g a w hx h));exact λe=>by simp_all
 | cond c x y HF KX =>
  intro s s' ex g a w hc h;simp only[Cx.code] at hc;split at hc<;>try (cases hc;done)
  next hp=>have c1:=(zI h hp).1;generalize BB:a.eval c=cc at c1;cases c1;exact wp_cond_true BB (HF s s' ex g a w hc h)
  next hp=>have c1:=(zI h hp).1;generalize BB:a.eval c=cc at c1;cases c1;exact wp_cond_false BB (KX s s' ex g a w hc h)
 | block id c ih =>
  intro s s' ex g a w hc h;simp only[Cx.code] at hc;split at hc<;>try (cases hc;done)
  ·rename_i i s1 hx;simp only[bz,cq] at hc;obtain⟨rfl,rfl⟩:=hc;refine wp_block (Code.wp_mono ?_ (ih s s1 (.exit i) g a w hx h));rintro e a' w' ⟨g',h1,h2⟩;cases e<;>first|(exact h2.elim)|skip
   rename_i j;have:i=j:=h2;subst this;simp only[Exit.inBlock];split
   next e=>subst e;exact⟨g',h1,by simp[VO]⟩
   ·rename_i e;refine⟨g',h1,?_⟩;have:Nat.beq i id=false:=by
     cases hb:Nat.beq i id with
     | false=>rfl
     | true=>exact absurd (fo hb) e
    simp[this,VO]
  ·rename_i e1 s1 cK hx;simp only[bz,cq] at hc;obtain⟨rfl,rfl⟩:=hc;refine wp_block (Code.wp_mono ?_ (ih s _ _ g a w hx h));rintro e a' w' ⟨g',h1,h2⟩;cases e with
   | exit j=>cases e1<;>first|(exact h2.elim)|(exact(cK _ rfl).elim)
   | _=>exact⟨g',h1,h2⟩
 | loop c ih =>
  intro s s' ex g a w hc h;simp only[Cx.code] at hc;refine wp_loop_rounds n ?_;have key:∀(m:Nat)(s:St)(g:Gh)(a:Act)(w:aQ),Kz (cx.code n c) m s=some (ex,s')->Rel B g s a w->Code.rounds P c (vX B ex s') m a w:=by
   intro m
   induction m with
   | zero=>intro s g a w hi;simp[Kz] at hi
   | succ m ihm =>
    intro s g a w hi h;simp only[Kz] at hi;rw[rounds_succ];split at hi<;>try (cases hi;done)
    next s1 hx=>exact Code.wp_mono (SH (λ_ g' a' w' h'=>ihm s1 g' a' w' hi h') (λe=>absurd rfl e)) (ih s s1 .normal g a w hx h)
    next e1 s1 cK hx=>simp only[bz,cq] at hi;obtain⟨rfl,rfl⟩:=hi;exact Code.wp_mono (SH (λe=>absurd e (λe=>by simp_all)) (λ_ _ _ _ q=>q)) (ih s _ _ g a w hx h)
  exact key n s g a w hc h
 | exit id =>
  intro s s' ex g a w hc h;simp only[Cx.code,bz,cq] at hc;obtain⟨rfl,rfl⟩:=hc;exact wp_exit ⟨g,h,rfl⟩
 | ret =>
  intro s s' ex g a w hc h;simp only[Cx.code,bz,cq] at hc;obtain⟨rfl,rfl⟩:=hc;exact wp_ret ⟨g,h,trivial⟩
 | scope c ih =>
  intro s s' ex g a w hc h;simp only[Cx.code] at hc;split at hc<;>try (cases hc;done)
  rename_i e1 s1 hng hx;simp only[bz,cq] at hc;obtain⟨rfl,rfl⟩:=hc;refine wp_scope_straight (Code.wp_mono ?_ (ih s _ _ g a w hx h));rintro e a' w' ⟨g',h1,h2⟩;cases e with
  | goto l=>cases e1<;>first|(exact h2.elim)|(exact(hng _ rfl).elim)|(exact(hng _ _ rfl).elim)|(simp_all;done)
  | _=>exact⟨g',h1,h2⟩
 | rangeFunc f ps as bd=>intro s s' ex g a w hc h;exact hrg iY n f ps as bd s s' ex g a w hc h
 | _=>intro s s' ex g a w hc;simp[Cx.code] at hc
end
section
variable{P:aY}{B:dS}{g:Gh}{s:St}{a:Act}{w:aQ}
theorem zel(n:Nat):aL (List.replicate n (V.bx []))=0:=by
 induction n with
 | zero=>rfl
 | succ n ih=>simp[G3,aL,V.top,ih]
theorem zgw{H:Hp}{args:aG}{bG:dR}(hw:p7 g H.az w)(ha:eS g H.az.length args bG)(d n:Nat) :
  Rel ⟨d,H.az,g,w,[]⟩ g ⟨args++List.replicate (n - args.length) (.bx []),⟨H.az,[]⟩,[],[]⟩ { tmps:=bG++Array.replicate (n - bG.size) undef,defers:=[] } w:=by
 have VP:aX g (.bx []) undef:=.bx rfl (λ_ _ _ e=>by simp at e)
 refine { di:=hw,len:=by simp[ha.len],env:=λt x v hx hv=>?_,dO:=λt x hx=>?_,n0:=dB _,bJ:=λb x hx=>.inr (.inr ⟨x,hx,dB _⟩),dZ:=λb h1 h2=>absurd h1 (Nat.not_le.2 h2),fr:=.refl _ _ _ _,lK:=λb off hl=>?_,oI:=λ_ hp=>by simp at hp,dg:=λ_ hp=>by simp at hp,eJ:=rfl,defers:=(λ_ _ _ hx=>by simp at hx),marks:=(λ_ hd=>by simp at hd),nI:=.nil }
 ·rcases eY t args.length with h|h
  ·have lV:bG[t]?=some v:=by rw[Array.getElem?_append_left (by rw[<- ha.len];exact h)] at hv;exact hv
   have pK:args[t]?=some x:=by
    have:(args++List.replicate (n - args.length) (V.bx []))[t]?=some x:=hx
    rwa [gF h] at this
   refine⟨ha.rel t x v pK lV,?_⟩;have:=ha.no x (zw pK);unfold cW;split
   ·exact absurd rfl (this _ _ _)
   ·trivial
  ·have pK:(List.replicate (n - args.length) (V.bx []))[t - args.length]?=some x:=by
    have:(args++List.replicate (n - args.length) (V.bx []))[t]?=some x:=hx
    rwa [fM h] at this
   have lV:(Array.replicate (n - bG.size) undef)[t - bG.size]?=some v:=by rw[Array.getElem?_append_right (by rw[<- ha.len];exact h)] at hv;exact hv
   rw[List.getElem?_replicate] at pK;rw[Array.getElem?_replicate] at lV;split at pK<;>simp only[bz,reduceCtorEq] at pK;split at lV<;>simp only[bz,reduceCtorEq] at lV;subst pK;subst lV;exact⟨VP,trivial⟩
 ·have pK:(args++List.replicate (n - args.length) (V.bx []))[t]?=some x:=hx;refine cZ (zn (zw pK)) (wx ha.top ?_);rw[zel];exact dP _
 ·rcases hl with hl|⟨q,hq,_⟩
  ·exact hl
  ·simp at hq
def zX(n0:Nat)(es:aP)(top:Nat)(H:Hp):Hp :=
 if Nat.ble top n0 && H.bJ.all (λe=>Nat.ble n0 e.1 || Nat.ble e.2 n0) then ⟨H.az.take n0,H.bJ.filter (λe=>Nat.blt e.1 n0)++es⟩ else ⟨H.az,H.bJ++es⟩
theorem kX{β:Type}(n0:Nat)(es:aP)(top:Nat)(H:Hp)(k:Hp->β):Oo n0 es top H k=k (zX n0 es top H):=by
 cases H;simp only[Oo,zX,eH];split<;>rfl
theorem cW.less{n n':Nat}(hn:n'<=n){l:Loc}{x:V}{cv:bC}(h:cW g n w l x cv):cW g n' w l x cv:=by
 unfold cW at *;split
 ·obtain⟨vs,h1,h2⟩:=h;exact⟨vs,h1,λc hc=>⟨(h2 c hc).1,(h2 c hc).2.1,λb hb=>(h2 c hc).2.2 b (uO hb hn)⟩⟩
 ·trivial
theorem fR.less{n n' b:Nat}(hn:n'<=n){x:bq}(h:fR g n w b x):fR g n' w b x:=by
 cases x with
 | cells cs t =>
  obtain⟨arr,h1,h2,h3⟩:=h;exact⟨arr,h1,h2,λj x v hx hv=>⟨(h3 j x v hx hv).1,(h3 j x v hx hv).2.1,(h3 j x v hx hv).2.2.1.less hn,(h3 j x v hx hv).2.2.2⟩⟩
 | map es=>exact h
 | iter l p=>exact h
 | ul eK sz cs e =>
  obtain⟨c,len,cap,vs,hu⟩:=h;exact⟨c,len,cap,vs,{ hu with others:=λb' dw=>hu.others b' (uO dw hn) }⟩
theorem VQ{d:Nat}{H0:Hp}{g0:Gh}{w0:aQ}(BD:p7 g0 H0.az w0)(h:Rel ⟨d,H0.az,g0,w0,[]⟩ g s a w){top:Nat}(ht:top<=s.H.az.length) :
  lW d H0 g0 w0 (zX H0.az.length H0.bJ top s.H) g w/\top<=(zX H0.az.length H0.bJ top s.H).az.length/\(zX H0.az.length H0.bJ top s.H).az.length<=s.H.az.length:=by
 have AM:H0.az.length<=s.H.az.length:=h.n0;have DB:∀b off,ju H0.az b off->ju s.H.az b off:=λb off hl=>h.lK b off (.inl hl);unfold zX;split
 ·rename_i hc;simp only[eF,Dr,tf] at hc;obtain⟨nB,sg⟩:=hc;have hlen:(s.H.az.take H0.az.length).length=H0.az.length:=by simp[AM]
  have dJ:∀b,b<H0.az.length->(s.H.az.take H0.az.length)[b]?=s.H.az[b]?:=λb hb=>by rw[Ak,if_pos hb]
  have AO:∀(b:Nat)(x:bq),(s.H.az.take H0.az.length)[b]?=some x->b<H0.az.length/\s.H.az[b]?=some x:=λb x hx=>by
   have hb:=(dA.1 hx).1;rw[hlen] at hb;exact⟨hb,(dJ b hb) ▸ hx⟩
  have gJ:∀(b:Nat)(x:bq),b<H0.az.length->s.H.az[b]?=some x->x.top<=b+1\/(∃m,(b,m)∈s.H.bJ/\m<=H0.az.length/\x.top<=m)\/∃y:bq,H0.az[b]?=some y/\x.top<=y.top:=λb x hb hx=>by
   rcases h.bJ b x hx with h1|⟨m,h1,h2⟩|h1
   ·exact .inl h1
   ·refine .inr (.inl ⟨m,h1,?_,h2⟩);rcases sg _ h1 with h3|h3
    ·have:=rA h3;simp only at this;omega
    ·exact rA h3
   ·exact .inr (.inr h1)
  refine⟨{ di:={ mem:=h.di.mem,lt:=λb hb=>h.di.lt b (by simp only at hb;omega),inj:=λb b' hb dw e=>h.di.inj b b' (by simp only at hb;omega) (by simp only at dw;omega) e,apart:=λb hb=>h.di.apart b (by simp only at hb;omega),eI:=h.di.eI,dN:=λb hb=>h.di.dN b (by simp only at hb;omega),ok:=λb x hx=>?_,aL:=λb x hx=>?_,laid:=λc hc=>⟨(h.di.laid c hc).1,(h.di.laid c hc).2.1,λb hb=>(h.di.laid c hc).2.2 b (by simp only at hb;omega)⟩ },fr:=h.fr,len:=by simp only;omega,dZ:=λb h1 h2=>by simp only at h2;omega,bJ:=λb x hx=>?_,DH:=λp hp=>CQ _ hp,lK:=λb off hl=>?_ },by simp only;rw[hlen];exact rA nB,by simp only;omega⟩
  ·obtain⟨_,pK⟩:=AO b x hx;simp only;exact(h.di.ok b x pK).less (by omega)
  ·obtain⟨hb,pK⟩:=AO b x hx;simp only;rw[hlen];rcases gJ b x hb pK with h1|⟨m,_,h1,h2⟩|⟨y,h1,h2⟩
   ·omega
   ·omega
   ·exact cZ h2 (BD.aL b y h1)
  ·obtain⟨hb,pK⟩:=AO b x hx;rcases gJ b x hb pK with h1|⟨m,h0,h1,h2⟩|h1
   ·exact .inl h1
   ·refine .inr (.inl ⟨m,Bu _ (List.mem_filter.2 ⟨h0,?_⟩),h2⟩);simpa[Nat.blt_eq] using hb
   ·exact .inr (.inr h1)
  ·obtain⟨cs,t,sz,xs,h1,h2⟩:=DB b off hl;obtain⟨_,_,_,_,k1,_⟩:=hl;exact⟨cs,t,sz,xs,by simp only;rw[dJ b (dA.1 k1).1];exact h1,h2⟩
 ·refine⟨{ di:=h.di,fr:=h.fr,len:=AM,dZ:=h.dZ,bJ:=λb x hx=>?_,DH:=λp hp=>CQ _ hp,lK:=DB },ht,dB _⟩;rcases h.bJ b x hx with h1|⟨m,h1,h2⟩|h1
  ·exact .inl h1
  ·exact .inr (.inl ⟨m,Bu _ h1,h2⟩)
  ·exact .inr (.inr h1)
end
section
variable{P:aY}{B:dS}{g:Gh}{s:St}{a:Act}{w:aQ}
theorem VR{tmps:dR}{t:Nat}{cv:bC}(h:tmps[t]?=some cv):tmps.getD t undef=cv:=by
 obtain⟨h1,h2⟩:=s_.1 h;simp[Array.getD,h1,h2]
theorem zgx{p:V}{cp:bC}(hr:aX g p cp){t:aD}{v:V}{H:Hp}(hl:zk P H (λ_ _=>none) t p=some v):(do loadVar t (<- asAddr cp):Sem bC).run P w=(Instr.loadAt t cp).run P w:=by
 unfold zk at hl;split at hl
 ·cases hr;simp[Instr.loadAt,Instr.sureAddr,asAddr]
 ·cases hr;simp[Instr.loadAt,Instr.sureAddr,asAddr]
 ·cases hr;simp[Instr.loadAt,Instr.sureAddr,asAddr]
 ·cases hr;simp[Instr.loadAt,Instr.sureAddr,asAddr]
 ·cases hl
def HG(tmps:dR):ResultVar->Sem bC
 | .tmp t=>pure (tmps.getD t undef)
 | .cell x t=>do loadVar t (<- asAddr (tmps.getD x undef))
def KY:ei->bC
 | [v]=>v
 | vs=>.tuple vs.toArray
theorem zhT(fn:Func)(tmps:dR):results fn tmps=(do let vs <- fn.results.toList.mapM (HG tmps);pure (KY vs)):=by
 have h1:results fn tmps=(do let vs <- fn.results.mapM (HG tmps);pure (if h:vs.size=1 then vs[0] else .tuple vs)):=by
  unfold results
  congr 1
  try (congr 1;try (funext x;cases x<;>rfl))
 rw[h1,Array.mapM_eq_mapM_toList];simp only[bind_map_left]
 congr 1
 funext vs
 match vs with
 | []=>rfl
 | [v]=>rfl
 | v::u::r=>simp[KY]
theorem zfn{H:Hp}{env:aG}:∀{rs:List ResultVar},zy P H env rs=some []->rs=[]
 | [],_=>rfl
 | .tmp t::rs,h=>by
  simp only[zy] at h;split at h<;>simp at h
 | .cell c t::rs,h=>by
  simp only[zy] at h;split at h<;>try (cases h;done)
  split at h<;>simp at h
theorem xZ(h:Rel B g s a w):∀{rs:List ResultVar}{vs:aG},zy P s.H s.env rs=some vs ->
  ∃DJ:ei,(rs.mapM (HG a.tmps)).run P w=.ok DJ w/\vs.length=DJ.length /\
   (∀(j:Nat)(x:V)(v:bC),vs[j]?=some x->DJ[j]?=some v->aX g x v)/\aL vs<=s.H.az.length
 | [],vs,hr=>by
  simp only[zy,bz] at hr;subst hr;exact⟨[],by simp,rfl,λ_ _ _ hx=>by simp at hx,dP _⟩
 | .tmp t::rs,vs,hr=>by
  simp only[zy] at hr;split at hr<;>simp only[bz,reduceCtorEq] at hr;rename_i v us hv BX;subst hr;rw[zg] at hv;obtain⟨DJ,h1,h2,h3,h4⟩:=xZ h BX;obtain⟨cv,iW,_⟩:=h.slot hv;refine⟨cv::DJ,?_,by simp[h2],λj x u hx hu=>?_,tw.2 ⟨h.dO t v hv,h4⟩⟩
  ·have hF:HG a.tmps (.tmp t)=pure cv:=by simp only[HG];rw[VR iW]
   simp[List.mapM_cons,hF,h1]
  ·cases j with
   | zero=>simp at hx hu;subst hx;subst hu;exact(h.env t _ _ hv iW).1
   | succ j=>exact h3 j x u (by simpa using hx) (by simpa using hu)
 | .cell c t::rs,vs,hr=>by
  simp only[zy] at hr;split at hr<;>try (cases hr;done)
  rename_i p hp;split at hr<;>simp only[bz,reduceCtorEq] at hr;rename_i v us hl BX;subst hr;rw[zg] at hp;obtain⟨DJ,h1,h2,h3,h4⟩:=xZ h BX;obtain⟨cp,hcp,_⟩:=h.slot hp;have hrp:=(h.env c _ _ hp hcp).1;obtain⟨cv,l1,l2,l3⟩:=zgh h (gl:=λ_ _=>none) ⟨λ_ _ _ e=>(nomatch e),λ_ _ _ e=>(nomatch e)⟩ hrp (h.dO c p hp) hl
  refine⟨cv::DJ,?_,by simp[h2],λj x u hx hu=>?_,tw.2 ⟨by rw[jq];exact l3,h4⟩⟩
  ·have hF:(HG a.tmps (.cell c t)).run P w=.ok cv w:=by
    simp only[HG];rw[VR hcp];exact(zgx (P:=P) (w:=w) hrp hl).trans l1
   simp[List.mapM_cons,hF,h1]
  ·cases j with
   | zero=>simp at hx hu;subst hx;subst hu;exact l2.bg
   | succ j=>exact h3 j x u (by simpa using hx) (by simpa using hu)
theorem zdh(h:Rel B g s a w){fn:Func}{vs:aG}(hr:zy P s.H s.env fn.results.toList=some vs)(l:Loc) :
  ∃g' s' cv,(results fn a.tmps).run P w=.ok cv w/\s'.H=s.H/\Rel B g' s' a w/\aX g' (j_ vs) cv/\cW g' s.H.az.length w l (j_ vs) cv/\(j_ vs).top<=s.H.az.length:=by
 obtain⟨DJ,h1,h2,h3,h4⟩:=xZ h hr;have cL:(results fn a.tmps).run P w=.ok (KY DJ) w:=by
  rw[zhT];simp[h1]
 match vs,h2,h3,h4,hr with
 | [v],h2,h3,h4,hr =>
  obtain⟨cv,rfl⟩:∃cv,DJ=[cv]:=by
   match DJ,h2 with
   | [cv],_=>exact⟨cv,rfl⟩
  have hv:aX g v cv:=h3 0 v cv rfl rfl;have ht:v.top<=s.H.az.length:=cZ (Ds _ _) h4;have plain:(∀k,cW g k w l v cv)->∃g' s' cv,(results fn a.tmps).run P w=.ok cv w/\s'.H=s.H/\Rel B g' s' a w/\aX g' (j_ [v]) cv/\cW g' s.H.az.length w l (j_ [v]) cv/\(j_ [v]).top<=s.H.az.length :=
   λho=>⟨g,s,cv,cL,rfl,h,hv,ho _,ht⟩
  by_cases iD:∃sz xs e,v=.sl sz xs (.yes e)
  ·obtain⟨sz,xs,e,rfl⟩:=iD;cases OM:fn.results.toList with
   | nil=>rw[OM] at hr;simp[zy] at hr
   | cons r rs =>
    rw[OM] at hr;cases r with
    | tmp t =>
     simp only[zy] at hr;split at hr<;>simp only[bz,reduceCtorEq,List.cons.injEq] at hr;rename_i y us hy BX;obtain⟨rfl,rfl⟩:=hr;rw[zg] at hy;have mq:take s.env (.tmp t)=some (.sl sz xs (.yes e),s.env.set t (.sl sz xs .no)):=by
      simp[take,zg,hy,eP]
     obtain⟨g',k1,k2,k3,k4,_⟩:=vJ h mq l;obtain⟨cv',VS,he⟩:=h.slot hy;have rF:a.eval (.tmp t)=cv:=by
      rw[he];have VT:=zfn BX;have hF:HG a.tmps (.tmp t)=pure cv':=by simp only[HG];rw[VR VS]
      rw[OM,VT] at h1;simp[List.mapM_cons,hF] at h1;exact h1
     rw[rF] at k2 k3;exact⟨g',{ s with env:=s.env.set t (.sl sz xs .no) },cv,cL,rfl,k1,k2,k3,ht⟩
    | cell c t =>
     exfalso;simp only[zy] at hr;split at hr<;>try (cases hr;done)
     split at hr<;>simp only[bz,reduceCtorEq,List.cons.injEq] at hr;exact vV _ _ _ _ hr.1
  ·refine plain λk=>?_;unfold cW;split
   next sz xs e=>exact absurd ⟨sz,xs,e,rfl⟩ iD
   ·trivial
 | [],h2,h3,h4,hr =>
  have:DJ=[]:=List.length_eq_zero_iff.1 h2.symm;subst this;exact⟨g,s,_,cL,rfl,h,.bx rfl (λ_ _ _ e=>by simp at e),trivial,dP _⟩
 | v::u::r,h2,h3,h4,hr =>
  match DJ,h2 with
  | cv::cu::cr,h2 =>
   refine⟨g,s,_,cL,rfl,h,?_,trivial,?_⟩
   ·refine .bx (by simpa using h2) λj x y hx hy=>?_
    simp only[mu,mS] at hx;obtain⟨z,hz,rfl⟩:=hx;exact(h3 j z y hz (by simpa using hy)).bg
   ·show aL ((v::u::r).map bg)<=_;rw[eR];exact h4
end
section
variable{P:aY}{B:dS}{g:Gh}{s:St}{a:Act}{w:aQ}
def ep:Option bC->Bool->FrameMode
 | none,_=>.returning
 | some cv,r=>.panicking [{ v:=cv,recovered:=r }]
def oM(g:Gh)(n:Nat):cj->Option bC->Prop
 | none,none=>True
 | some v,some cv=>aX g v cv/\v.top<=n
 | _,_=>False
theorem oM.le{n n':Nat}{g g':Gh}(hg:Gh.Le n g g')(hn:n<=n'){p:cj}{pc:Option bC}(h:oM g n p pc):oM g' n' p pc:=by
 cases p<;>cases pc<;>first|exact h|exact⟨h.1.le hg h.2,cZ h.2 hn⟩
def VU(B:dS)(ex:Ex)(s':St)(pc:Option bC)(r:Bool)(c0:Frame)(Cc:List Frame):Exit->Act->List Frame->aQ->Prop :=
 λe a cs w=>vX B ex s' e a w/\cs={ c0 with mode:=ep pc r }::Cc
theorem zi1{cx:Cx}(iY:oZ P cx B){all:Array Oper}{takes:cw}{ex:Ex}{r':Bool}{s':St}{iL:cj}{pc:Option bC}(hp:oM B.g B.bs.length iL pc)(c0:Frame)(Cc:List Frame){Q:Exit->Act->List Frame->aQ->Prop}(hQ:∀e a cs w,VU B ex s' pc r' c0 Cc e a cs w->Q e a cs w) :
  ∀(l:List Oper)(k:Nat)(s:St)(r:Bool)(g:Gh)(a:Act)(w:aQ),(∀j:Nat,l[j]?=all[k+j]?)->Rel B g s a w->cx.tE iL all takes l r s=some (ex,r',s')->wpOpsS P all Q (List.range' k l.length) a ({ c0 with mode:=ep pc r }::Cc) w
 | [],k,s,r,g,a,w,hl,h,hc=>by
  simp only[Cx.tE,bz,cq] at hc;obtain⟨rfl,rfl,rfl⟩:=hc;exact hQ _ _ _ _ ⟨⟨g,h,trivial⟩,rfl⟩
 | o::os,k,⟨env,H,lk,df⟩,r,g,a,w,hl,h,hc=>by
  have ih:=zi1 iY (all:=all) (takes:=takes) hp c0 Cc hQ os (k+1);have iM:∀j:Nat,os[j]?=all[k+1+j]?:=λj=>by have:=hl (j+1);simpa[p6,I4 1 j] using this
  have h0:all[k]?=some o:=by simpa using (hl 0).symm
  simp only[Cx.tE] at hc;simp only[bh,List.range'_succ,wpOpsS,h0];split at hc<;>try (cases hc;done)
  ·rename_i hw;rw[if_neg (by rw[yq h hw];simp)]
   rw[jR] at hc;exact ih _ r g _ w iM (wQ (yF h o)) hc
  ·rename_i hw;rw[if_pos (yq h hw)];split at hc
   ·rename_i AN;have cL:(execOp a.eval o).run P w=.ok .recover w:=by
     unfold zoE at AN;split at AN<;>try (cases AN;done)
     rename_i c ho;split at AN<;>try (cases AN;done)
     rename_i gH;simp[execOp,ho,resolve,gH,invoke,builtin]
    rw[cL];simp only;have nil:∀r1,cx.tE iL all takes os r1 ⟨aq env o.dst .bP,H,lk,df⟩=some (ex,r',s')->wpOpsS P all Q (List.range' (k+1) os.length) (a.put o.dst .nilIface) ({ c0 with mode:=ep pc r1 }::Cc) w:=λr1 nB =>
     ih _ r1 g _ w iM (wQ (s:=⟨env,H,lk,df⟩) (v:=.bP) (cv:=.nilIface) ⟨h,.bP,λ_ _=>trivial,dP _⟩) nB
    split at hc
    ·rename_i v;rw[jR] at hc;cases pc with
     | none=>exact hp.elim
     | some cv =>
      have hv:aX g v cv:=hp.1.le h.fr.le hp.2;have ht:v.top<=H.az.length:=cZ hp.2 h.n0;exact ih _ true g _ w iM (wQ (s:=⟨env,H,lk,df⟩) (v:=bg v) (cv:=cv) ⟨h,hv.bg,λ_ _=>vi _ _ _ _ _ _,by rw[jq];exact ht⟩) hc
    ·rename_i e_;rw[jR] at hc;have ON:recoverD ({ c0 with mode:=ep pc r }::Cc)=none:=by
      cases pc with
      | none=>rfl
      | some cv =>
       cases iL with
       | none=>exact hp.elim
       | some v =>
        cases r with
        | false=>exact(e_ v rfl rfl).elim
        | true=>rfl
     rw[ON];exact nil r hc
   ·have cK:∀{K:Act->aQ->Prop}{Q':Exit->Act->aQ->Prop},o.wp P a w K Q'->(match (execOp a.eval o).run P w with
      | .ok .recover w'=>False
      | rr=>o.upon P a K Q' rr):=by
     intro K Q' SI;unfold Oper.wp at SI;generalize (execOp a.eval o).run P w=rr at SI;split
     ·exact SI
     ·exact SI
    have fin:o.wp P a w (λa' w'=>wpOpsS P all Q (List.range' (k+1) os.length) a' ({ c0 with mode:=ep pc r }::Cc) w') (λe a' w'=>Q e a' ({ c0 with mode:=ep pc r }::Cc) w'):=by
     split at hc<;>try (cases hc;done)
     next v dh H' Hx Hy aE=>rw[jR] at hc;refine Hw iY h aE ⟨λv' hv g' cv a' w' hk=>?_,(λhv=>nomatch hv),(λv' hv=>nomatch hv)⟩;cases hv;exact ih _ r g' _ w' iM (wQ hk) hc
     next dh H' Hx Hy aE=>rw[jR] at hc;refine Hw iY h aE ⟨(λv' hv=>nomatch hv),λ_ g' a' w' hk=>?_,(λv' hv=>nomatch hv)⟩;exact ih _ r g' _ w' iM (wQ (yF hk o)) hc
     next v s1 aE=>simp only[bz,cq] at hc;obtain⟨rfl,rfl,rfl⟩:=hc;refine Hw iY h aE ⟨(λv' hv=>nomatch hv),(λhv=>nomatch hv),λv' hv g' cv a' w' hk h1 h2=>?_⟩;cases hv;exact hQ _ _ _ _ ⟨⟨g',hk,cv,rfl,h1,h2⟩,rfl⟩
    have:=cK fin;split
    next w1 Nh=>rw[Nh] at this;exact this.elim
    next rr VV=>unfold Oper.wp at fin;exact fin
theorem VW{c:Code}{Q Q':Exit->Act->List Frame->aQ->Prop}{cs:List Frame}(h:c.wpS P Q a cs w)(hq:∀e a cs w,Q e a cs w->Q' e a cs w):c.wpS P Q' a cs w :=
 λb k hb hr=>let ⟨e,a',cs',w',q,r⟩:=h b k hb hr;⟨e,a',cs',w',hq _ _ _ _ q,r⟩
theorem zlf{cx:Cx}(iY:oZ P cx B)(fm:Nf P cx B/\Ng P cx B)(n:Nat){iL:cj}{pc:Option bC}(hp:oM B.g B.bs.length iL pc)(c0:Frame)(Cc:List Frame):∀(c:Code)(s s':St)(ex:Ex)(r r':Bool)(g:Gh)(a:Act)(w:aQ),
  cx.m8 n iL c r s=some (ex,r',s')->Rel B g s a w->c.wpS P (VU B ex s' pc r' c0 Cc) a ({ c0 with mode:=ep pc r }::Cc) w:=by
 have plain:∀(c:Code)(s s':St)(ex:Ex)(r:Bool)(g:Gh)(a:Act)(w:aQ),cx.code n c s=some (ex,s')->Rel B g s a w->c.wpS P (VU B ex s' pc r c0 Cc) a ({ c0 with mode:=ep pc r }::Cc) w :=
  λc s s' ex r g a w hx h=>wpS_of_wp (Code.wp_mono (λ_ _ _ q=>⟨q,rfl⟩) (zi0 iY fm.1 fm.2 n c s s' ex g a w hx h))
 intro c
 induction c with
 | seq x y HF KX =>
  intro s s' ex r r' g a w hc h;simp only[Cx.m8] at hc;split at hc<;>try (cases hc;done)
  ·rename_i r1 s1 hx;refine wpS_seq (VW (HF s s1 .normal r r1 g a w hx h) ?_);rintro e a' cs' w' ⟨⟨g',h1,h2⟩,rfl⟩;cases e<;>first
    |(exact h2.elim)
    |(exact KX s1 s' ex r1 r' g' a' w' hc h1)
  ·rename_i x1 cK hx;simp only[bz] at hc;subst hc;refine wpS_seq (VW (HF s _ _ r _ g a w hx h) ?_);rintro e a' cs' w' ⟨⟨g',h1,h2⟩,rfl⟩;cases ex<;>cases e<;>first
    |(exact h2.elim)
    |(exact(cK _ _ rfl).elim)
    |(exact⟨⟨g',h1,h2⟩,rfl⟩)
 | cond c x y HF KX =>
  intro s s' ex r r' g a w hc h;simp only[Cx.m8] at hc;split at hc<;>try (cases hc;done)
  next KZ=>have c1:=(zI h KZ).1;generalize BB:a.eval c=cc at c1;cases c1;exact wpS_cond BB (by simpa using HF s s' ex r r' g a w hc h)
  next KZ=>have c1:=(zI h KZ).1;generalize BB:a.eval c=cc at c1;cases c1;exact wpS_cond BB (by simpa using KX s s' ex r r' g a w hc h)
 | region id ops draw =>
  intro s s' ex r r' g a w hc h;cases draw with
  | false =>
   obtain⟨env,H,lk,df⟩:=s;simp only[Cx.m8] at hc;refine wpS_region ?_;have:=zi1 iY hp c0 Cc (λ_ _ _ _ q=>q) ops.toList 0 _ r g a w (by simp) h.HE hc
   rw[List.range_eq_range',<- AG];exact this
  | true =>
   simp only[Cx.m8] at hc;split at hc<;>simp only[bz,reduceCtorEq,cq] at hc;rename_i e1 s1 hx;obtain⟨rfl,rfl,rfl⟩:=hc;exact plain _ s s1 e1 r g a w hx h
 | _ =>
   intro s s' ex r r' g a w hc h;simp only[Cx.m8] at hc;split at hc<;>simp only[bz,reduceCtorEq,cq] at hc;rename_i e1 s1 hx;obtain⟨rfl,rfl,rfl⟩:=hc;exact plain _ s s1 e1 r g a w hx h
end
section
variable{P:aY}{B:dS}{g:Gh}{s:St}{a:Act}{w:aQ}
theorem zlg{gl:Nat->Nat->cj}{uq:aD->Bool}{call:FuncId->aG->Hp->Option (Out×Hp)}{d n:Nat}(fN:yE P)(dQ:wY P)(dz:xA P gl call d)(fm:∀B,Nf P { P,gl,call,uq } B/\Ng P { P,gl,call,uq } B){iL:cj}{pc:Option bC}{f:FuncId}{args:aG}{H H':Hp}{r:Bool}{bG:dR}
  (hc:KA P gl uq call n iL f args H=some (r,H')) (rG:iu P gl g) (hw:p7 g H.az w) (ha:eS g H.az.length args bG) (hp:oM g H.az.length iL pc) :
  CallsD P f bG (ep pc false) w λe u' w'=>∃cv g',e=.returned cv/\u'=ep pc r/\lW (d+1) H g w H' g' w':=by
 obtain⟨bs,es⟩:=H;simp only[KA] at hc;split at hc<;>try (cases hc;done)
 rename_i fn hf;split at hc<;>try (cases hc;done)
 rename_i body hb;simp only[qw,eH] at hc;have iY:oZ P { P,gl,call,uq } ⟨d+1,bs,g,w,[]⟩:=⟨rfl,fN,dQ,rG,d,Ko d,dz⟩;have h0:=zgw (H:=⟨bs,es⟩) hw ha (d+1) fn.ntmps;have fin:∀(ex:Ex)(env:aG)(H1:Hp)(lk:aP),(ex=.normal\/ex=.ret)->Cx.m8 { P,gl,call,uq } n iL body false ⟨args++List.replicate (fn.ntmps - args.length) (.bx []),⟨bs,[]⟩,[],[]⟩=some (ex,r,⟨env,H1,lk,[]⟩) ->
   ∀us,zy P H1 env fn.results.toList=some us->H'=zX bs.length es 0 H1 ->
   CallsD P f bG (ep pc false) w λe u' w'=>∃cv g',e=.returned cv/\u'=ep pc r/\lW (d+1) ⟨bs,es⟩ g w H' g' w':=by
  intro ex env H1 lk hex hx us BX hH;refine callsD_of_wpS hf hb λc0 cs hm=>?_;have key:=zlf iY (fm _) n (iL:=iL) (pc:=pc) hp c0 cs body _ _ ex false r g _ w hx h0;have sJ:({ c0 with mode:=ep pc false }:Frame)=c0:=by rw[<- hm]
  rw[sJ] at key;refine VW key ?_;rintro e a' cs' w' ⟨⟨g',h1,h2⟩,rfl⟩;have DA:a'.defers=[]:=List.length_eq_zero_iff.1 (by rw[<- h1.eJ];rfl)
  obtain⟨g2,s2,cv,r1,r2,r3,_⟩:=zdh h1 BX .ret;have iG:=(VQ hw h1 (top:=0) (dP _)).1;have uY:a'.defers=[]/\∃u',({ c0 with mode:=ep pc r }:Frame)::cs={ c0 with mode:=u' }::cs/\∃v,(results fn a'.tmps).run P w'=.ok v w'/\∃cv g',Ending.returned v=.returned cv/\u'=ep pc r/\lW (d+1) ⟨bs,es⟩ g w H' g' w' :=
   ⟨DA,_,rfl,cv,r1,cv,g',rfl,rfl,by rw[hH];exact iG⟩
  rcases hex with rfl|rfl<;>cases e<;>first|(exact h2.elim)|(exact uY)
 split at hc
 ·rename_i r1 env H1 lk hx;split at hc<;>try (cases hc;done)
  rename_i us BX;rw[kX] at hc;simp only[bz,cq] at hc;obtain⟨rfl,rfl⟩:=hc;exact fin .normal env H1 lk (.inl rfl) hx us BX rfl
 ·rename_i r1 env H1 lk hx;split at hc<;>try (cases hc;done)
  rename_i us BX;rw[kX] at hc;simp only[bz,cq] at hc;obtain⟨rfl,rfl⟩:=hc;exact fin .ret env H1 lk (.inr rfl) hx us BX rfl
 ·cases hc
theorem zgy(pc:Option bC):settle (ep pc true)=.returning:=by
 cases pc<;>rfl
theorem zfo(pc:Option bC):settle (ep pc false)=ep pc false:=by
 cases pc<;>rfl
theorem SJ{gl:Nat->Nat->cj}{uq:aD->Bool}{call:FuncId->aG->Hp->Option (Out×Hp)}{d n:Nat}(fN:yE P)(dQ:wY P)(dz:xA P gl call d)(fm:∀B,Nf P { P,gl,call,uq } B/\Ng P { P,gl,call,uq } B)(hd:d+1<B.d)(rG:iu P gl B.g){fn:Func}{tmps:dR}{R:Ending->aQ->Prop}{H':Hp}{K0:cj} :
  ∀(df:bS)(iL:cj)(pc:Option bC)(env:aG)(H:Hp)(lk:aP)(g:Gh)(dc:List Deferred)(w:aQ),Rel B g ⟨env,H,lk,df⟩ ⟨tmps,dc⟩ w->oM g H.az.length iL pc->vh (KA P gl uq call n) iL df H=some (K0,H') ->
   (∀g' Ni w',Rel B g' ⟨env,H',lk,[]⟩ ⟨tmps,[]⟩ w'->oM g' H'.az.length K0 Ni->match Ni with
    | none=>∃v,(results fn tmps).run P w'=.ok v w'/\R (.returned v) w'
    | some cv=>R (.panicked [{ v:=cv,recovered:=false }]) w')->Leaves P fn tmps R dc (ep pc false) w
 | [],iL,pc,env,H,lk,g,dc,w,h,hp,hc,hR=>by
  have hdc:dc=[]:=List.length_eq_zero_iff.1 (h.eJ.symm);subst hdc;simp only[vh,bz,cq] at hc;obtain⟨rfl,rfl⟩:=hc;have:=hR g pc w h hp;cases pc with
  | none=>exact this
  | some cv=>exact this
 | (fv,args)::df,iL,pc,env,H,lk,g,dc,w,h,hp,hc,hR=>by
  cases dc with
  | nil=>have:=h.eJ;simp at this
  | cons dd dc =>
   rcases h.defers 0 (fv,args) dd rfl rfl with K1|⟨C4,_⟩
   rotate_left
   ·simp only[cq] at C4;obtain⟨e1,e2⟩:=C4;subst e1 e2;simp[vh] at hc
   obtain⟨f,as,cs,fc,e1,e2,e3,e4,e5,e6,e7,e8⟩:=K1;simp only at e1;subst e1;obtain⟨tg,da⟩:=dd;simp only at e2 e3 e5;subst e2;simp only[vh,eH] at hc;have VX:∃r H1,KA P gl uq call n iL f ((as++args++cs).map bg) H=some (r,H1)/\vh (KA P gl uq call n) (if r then none else iL) df H1=some (K0,H'):=by
    split at hc<;>try (cases hc;done)
    next H1 hx=>exact⟨true,H1,hx,hc⟩
    next H1 hx=>exact⟨false,H1,hx,hc⟩
   obtain⟨r,H1,hx,ur⟩:=VX;have fS:eS g H.az.length ((as++args++cs).map bg) (da++fc):=eS.EY (by simp only[aZ,Array.size_append] at e3 ⊢;omega) (vF e3 e5 e6) (wx e7 e8)
   have VY:iu P gl g:=rG.le h.fr.le;have hinv:(invoke (.fn (.func f) fc) da).run P w=.ok (.enter f (da++fc)) w:=by
    unfold KA at hx;simp only at hx;split at hx<;>try (cases hx;done)
    rename_i fn' EU;split at hx<;>try (cases hx;done)
    rename_i body dw;have cK:fn'.name≠ "runtime.NumGoroutine":=by simpa using fN f fn' EU
    simp[invoke,callFunc,EU,dw,cK]
   refine leaves_cons (by cases pc<;>simp[ep]) hinv (CallsD.mono (zlg fN dQ dz fm hx VY h.di fS hp) λe u' w' he=>?_)
   obtain⟨cv,g',rfl,rfl,hA⟩:=he;have hrel:=h.call hd hA;have Jd:Rel B g' ⟨env,H1,lk,df⟩ ⟨tmps,dc⟩ w' :=
    {di:=hrel.di,len:=hrel.len,env:=hrel.env,dO:=hrel.dO,n0:=hrel.n0,bJ:=hrel.bJ,dZ:=hrel.dZ,fr:=hrel.fr,lK:=hrel.lK,oI:=hrel.oI,dg:=hrel.dg,eJ:=by have:=hrel.eJ;simpa using this,defers:=λj x q hx hq=>hrel.defers (j+1) x q (by simpa using hx) (by simpa using hq),marks:=λd hd D hD=>hrel.marks d (eo _ hd) D hD,nI:=(List.pairwise_cons.1 hrel.nI).2 }
   have Gs:oM g' H1.az.length iL pc:=hp.le hA.fr.le hA.len;cases r with
   | true =>
    simp only[zgy];exact SJ fN dQ dz fm hd rG df none none env H1 lk g' dc w' Jd trivial ur hR
   | false =>
    simp only[zfo];exact SJ fN dQ dz fm hd rG df iL pc env H1 lk g' dc w' Jd Gs ur hR
end
section
variable{P:aY}{g:Gh}{w:aQ}
def VZ(_P:aY)(uq:aD->Bool):Prop:=∀gf back (ty:Nat),ty<1048576->uq (Ge gf back ty)=true->False
structure nt(P:aY)(gl:Gl):Prop where
 pure:∀f args v,gl.hk f args=some v->∀d H g w bG l,iu P gl g->p7 g H.az w->eS g H.az.length args bG->Calls P f bG w (fA d H g w l (.ret v) H)
 heap:∀n f args H out H',gl.fq n f args H=some (out,H')->∀d,2 * (n+1)<=d->∀g w bG l,iu P gl g->p7 g H.az w->eS g H.az.length args bG->Calls P f bG w (fA d H g w l out H')
 it:VZ P gl.uq
theorem zgz{gl:Gl}(fN:yE P)(dQ:wY P)(DK:nt P gl)(fm:∀n B,Nf P { P,gl,call:=zj P gl n,uq:=gl.uq } B/\Ng P { P,gl,call:=zj P gl n,uq:=gl.uq } B):∀n,xA P gl (zj P gl n) (2 * n)
 | 0=>λf args H out H' hc=>by simp[zj] at hc
 | n+1=>by
  have ih:=zgz fN dQ DK fm n;intro f args H out H' hc g w bG l rG hw ha;obtain⟨bs,es⟩:=H;simp only[zj] at hc;split at hc
  next v hv=>simp only[bz,cq] at hc;obtain⟨rfl,rfl⟩:=hc;exact DK.pure f args v hv _ _ g w bG l rG hw ha
  split at hc
  next r hv=>simp only[bz] at hc;subst hc;exact DK.heap n f args _ out H' hv _ (dB _) g w bG l rG hw ha
  split at hc<;>try (cases hc;done)
  rename_i fn hf;split at hc<;>try (cases hc;done)
  rename_i body hb;simp only[qw,eH] at hc;split at hc<;>try (cases hc;done)
  rename_i ex env H1 lk df hx;split at hc<;>try (cases hc;done)
  rename_i iL AR;have K2:2 * n<2 * (n+1):=by omega
  have Ap:2 * n+1<2 * (n+1):=by omega
  have iY:oZ P { P,gl,call:=zj P gl n,uq:=gl.uq } ⟨2 * (n+1),bs,g,w,[]⟩:=⟨rfl,fN,dQ,rG,2 * n,K2,ih⟩;have h0:=zgw (H:=⟨bs,es⟩) hw ha (2 * (n+1)) fn.ntmps;refine calls_of_wp_defers hf hb (Code.wp_mono ?_ (zi0 iY (fm n _).1 (fm n _).2 n body _ _ ex g _ w hx h0));rintro e a' w' ⟨g',h1,h2⟩
  have OO:∃pc,oM g' H1.az.length iL pc/\∀R,Leaves P fn a'.tmps R a'.defers (ep pc false) w'->bodyPostD P fn R e a' w':=by
   cases ex<;>cases e<;>simp only[AK,bz,reduceCtorEq] at AR<;>try (exact h2.elim)
   ·subst AR;exact⟨none,trivial,λR h=>h⟩
   ·subst AR;exact⟨none,trivial,λR h=>h⟩
   ·subst AR;obtain⟨cv,rfl,h3,h4⟩:=h2;exact⟨some cv,⟨h3,h4⟩,λR h=>h⟩
  obtain⟨pc,hp,OP⟩:=OO;refine OP _ ?_;split at hc<;>try (cases hc;done)
  ·rename_i v H2 V0;rw[kX] at hc;simp only[bz,cq] at hc;obtain⟨rfl,rfl⟩:=hc;refine SJ (B:=⟨2 * (n+1),bs,g,w,[]⟩) fN dQ ih (fm n) Ap rG df iL pc env H1 lk g' a'.defers w' h1 hp V0 λg2 Ni w2 h3 h4=>?_;cases Ni with
   | none=>exact h4.elim
   | some cv =>
    obtain⟨f1,f2,f3⟩:=VQ hw h3 h4.2;exact⟨v,cv,g2,rfl,rfl,f1,h4.1,f2⟩
  ·rename_i H2 V0;split at hc<;>try (cases hc;done)
   rename_i vs OQ;rw[ql,kX] at hc;simp only[bz,cq] at hc;obtain⟨rfl,rfl⟩:=hc;refine SJ (B:=⟨2 * (n+1),bs,g,w,[]⟩) fN dQ ih (fm n) Ap rG df iL pc env H1 lk g' a'.defers w' h1 hp V0 λg2 Ni w2 h3 h4=>?_;cases Ni with
   | some cv=>exact h4.elim
   | none =>
    obtain⟨g3,s3,cv,r1,r2,r3,r4,r5,r6⟩:=zdh h3 OQ l;have r5':=r5;obtain⟨f1,f2,f3⟩:=VQ (s:=s3) hw r3 (top:=(j_ vs).top) (by rw[r2];exact r6)
    rw[r2] at f1 f2 f3;exact⟨cv,r1,j_ vs,g3,rfl,f1,r4,r5.less f3,f2⟩
end
section
variable{P:aY}
def fZ(env bM:aG)(xs:List a_):Prop:=∀t,Operand.tmp t∈xs->env[t]?=bM[t]?
theorem fZ.mono{env bM:aG}{xs ys:List a_}(h:fZ env bM xs)(hs:∀x∈ys,x∈xs):fZ env bM ys:=λt ht=>h t (hs _ ht)
theorem fZ.ak{env bM:aG}{xs:List a_}(h:fZ env bM xs):∀x∈xs,Vm.ak env x=Vm.ak bM x:=λx hx=>by
 cases x with
 | tmp t=>simp only[Vm.ak,zg,h t hx]
 | _=>rfl
theorem fZ.av{env bM:aG}{xs:List a_}(h:fZ env bM xs):∀{ys:List a_},(∀y∈ys,y∈xs)->Vm.av env ys=Vm.av bM ys
 | [],_=>rfl
 | y::ys,hy=>by
  simp only[Vm.av,h.ak y (hy y (fy ..)),h.av (ys:=ys) λz hz=>hy z (eo _ hz)]
theorem fZ.de{env bM:aG}{xs:List a_}(h:fZ env bM xs){x:Option a_}(hx:∀y,x=some y->y∈xs):Vm.de env x=Vm.de bM x:=by
 cases x with
 | none=>rfl
 | some y=>simp only[Vm.de,h.ak y (hx y rfl)]
theorem zcu{env bM:aG}{xs:List a_}(h:fZ env bM xs){place:Nat->Option (Nat×Nat)}:∀{ps:List (Nat×a_)}{cs:aG},(∀p∈ps,p.2∈xs)->xM cs place env ps=xM cs place bM ps
 | [],_,_=>rfl
 | (i,x)::ps,cs,hp=>by
  simp only[xM,h.ak x (hp (i,x) (fy ..))];have ih:=λcs=>zcu h (place:=place) (ps:=ps) (cs:=cs) λp hq=>hp p (eo _ hq);simp only[ih]
theorem zdj{env bM:aG}{xs:List a_}(h:fZ env bM xs){n len:Nat}:∀{ps:List (Nat×a_)}{cs:aG},(∀p∈ps,p.2∈xs)->CR n len env cs ps=CR n len bM cs ps
 | [],_,_=>rfl
 | (i,x)::ps,cs,hp=>by
  simp only[CR,h.ak x (hp (i,x) (fy ..))];have ih:=λcs=>zdj h (n:=n) (len:=len) (ps:=ps) (cs:=cs) λp hq=>hp p (eo _ hq);simp only[ih]
theorem zbu{env bM:aG}{xs:List a_}(h:fZ env bM xs){t:aD}{ps:Array (Nat×a_)}(hp:∀p∈ps.toList,p.2∈xs):kw P t ps env=kw P t ps bM:=by
 unfold kw;simp only[zcu h hp]
theorem zgA{env bM:aG}{gl:Nat->Nat->cj}{o:Oper}{H:Hp}(h:fZ env bM o.op.operands.toList):jc P gl o env H=jc P gl o bM H:=by
 obtain⟨dst,op,type,pos,after,guard⟩:=o;have hp:=h.ak;cases op<;>simp only[Op.operands] at h hp
 case build t ps=>simp only[jc,zbu h (ps:=ps) λp hq=>by simpa using List.mem_map_of_mem (f:=(·.2)) hq]
 case buildSlice t n ps=>simp only[jc,λa b c=>zdj h (n:=a) (len:=b) (cs:=c) (ps:=ps.toList) λp hq=>by simpa using List.mem_map_of_mem (f:=(·.2)) hq]
 case makeFunc fn first cap =>
  simp only[jc,h.av (ys:=first.toList) λy hy=>by simp at hy ⊢;exact .inl hy,h.av (ys:=cap.toList) λy hy=>by simp at hy ⊢;exact .inr hy]
 case slice t x lo hi mx =>
  simp only[jc,hp x (by simp),h.de (x:=lo) λy hy=>by subst hy;simp,h.de (x:=hi) λy hy=>by subst hy;simp]
  cases mx with
  | none=>rfl
  | some m=>simp only[hp m (by simp)]
 all_goals first
  |rfl
  |(simp[jc,hp];done)
end
section
variable{P:aY}
def kl(env:aG):a_->aG
 | .tmp t=>match env[t]? with
  | some (.sl sz xs (.yes _))=>env.set t (.sl sz xs .no)
  | _=>env
 | _=>env
def oB(env:aG):Option a_->aG
 | some x=>kl env x
 | none=>env
theorem zez{env:aG}{t sz:Nat}{xs:aG}{e:aD}(h:env[t]?=some (.sl sz xs (.yes e))):kl env (.tmp t)=env.set t (.sl sz xs .no):=by
 simp only[kl,h]
theorem x5{env:aG}{t:Nat}{v:V}(h:env[t]?=some v)(hn:∀sz xs e,v≠.sl sz xs (.yes e)):kl env (.tmp t)=env:=by
 simp only[kl,h];split
 next h1=>cases h1;exact(hn _ _ _ rfl).elim
 ·rfl
theorem zgB{env:aG}{t sz:Nat}{xs:aG}{e:aD}(h:env[t]?=some (.sl sz xs (.yes e))):take env (.tmp t)=some (.sl sz xs (.yes e),env.set t (.sl sz xs .no)):=by
 simp only[take,zg,h,eP]
theorem zi2{env:aG}{t:Nat}{v:V}(h:env[t]?=some v)(hn:∀sz xs e,v≠.sl sz xs (.yes e)):take env (.tmp t)=some (bg v,env):=by
 cases v with
 | sl sz xs o=>cases o with
  | yes e=>exact(hn _ _ _ rfl).elim
  | _=>simp only[take,zg,h]
 | _=>simp only[take,zg,h]
theorem wy{env bM:aG}{x:a_}(h:fZ env bM [x]){v:V}{e:aG}(ht:take env x=some (v,e)):e=kl env x/\take bM x=some (v,kl bM x):=by
 cases x with
 | tmp t =>
  have ha:=h t (by simp)
  cases hv:env[t]? with
  | none=>simp[take,zg,hv] at ht
  | some v0 =>
   have Gi:bM[t]?=some v0:=by rw[<- ha,hv]
   by_cases hy:∃sz xs e,v0=.sl sz xs (.yes e)
   ·obtain⟨sz,xs,e',rfl⟩:=hy;rw[zgB hv] at ht;cases ht;exact⟨(zez hv).symm,by rw[zgB Gi,zez Gi]⟩
   ·have hn:∀sz xs e,v0≠.sl sz xs (.yes e):=λsz xs e h=>hy ⟨sz,xs,e,h⟩;rw[zi2 hv hn] at ht;cases ht;exact⟨(x5 hv hn).symm,by rw[zi2 Gi hn,x5 Gi hn]⟩
 | const c =>
  simp only[take,ak,mS,cq] at ht;obtain⟨u,hu,rfl,rfl⟩:=ht;exact⟨rfl,by simp[take,ak,hu,kl]⟩
 | global k =>
  simp only[take,ak,aW,bz,cq] at ht;obtain⟨rfl,rfl⟩:=ht;exact⟨rfl,by simp[take,ak,kl]⟩
 | func f =>
  simp only[take,ak,aW,bz,cq] at ht;obtain⟨rfl,rfl⟩:=ht;exact⟨rfl,by simp[take,ak,kl]⟩
end
section
variable{P:aY}
theorem zem{cx:Cx}{b:Builtin}{ts:Array aD}{args:rT}{env bM:aG}{H:Hp}{xs:List a_}{r:OR}{e:aG}{k:Option a_}(h:fZ env bM xs)(hx:∀x∈args.toList,x∈xs)
  (hb:cx.builtin b ts args env H=some (r,e)) (hk:k=match b with|.append=>args.toList.head?|_=>none):e=oB env k/\cx.builtin b ts args bM H=some (r,oB bM k):=by
 have hp:=h.ak;unfold Cx.builtin at hb ⊢;split at hb
 ·rename_i x t ha ht hb;have e1:=hp x (hx x (by simp[ha]))
  simp only[<- e1] at hk ⊢;subst hk;simp only[Option.bind_eq_bind,eM,bz,cq] at hb;obtain⟨u,h1,v,h2,h3,rfl⟩:=hb;refine⟨rfl,?_⟩;simp[h1,h2,h3,oB]
 ·rename_i x y t u ha ht hb;have e1:=hp y (hx y (by simp[ha]))
  simp only[ha,<- e1] at hk ⊢;subst hk;split at hb<;>try (cases hb;done)
  rename_i hg;rw[if_neg hg];simp only[Option.bind_eq_bind,eM,bz,cq] at hb;obtain⟨y',h1,⟨v,e'⟩,h2,w,h3,h4,rfl⟩:=hb;obtain⟨t1,t2⟩:=wy (h.mono (xs:=xs) (ys:=[x]) (by simpa using hx x (by simp[ha]))) h2
  refine⟨t1,?_⟩;simp[h1,t2,h3,h4,oB]
 ·rename_i x y ha hb;have e1:=hp x (hx x (by simp[ha]))
  have e2:=hp y (hx y (by simp[ha]))
  simp only[<- e1,<- e2] at hk ⊢;subst hk;simp only[Option.bind_eq_bind,eM] at hb;obtain⟨u,h1,v,h2,h3⟩:=hb;simp only[Option.bind_eq_bind,h1,h2,aV];split at h3<;>simp only[bz,reduceCtorEq,cq] at h3;obtain⟨rfl,rfl⟩:=h3;exact⟨rfl,rfl⟩
 ·rename_i x y ha hb;have e1:=hp x (hx x (by simp[ha]))
  have e2:=hp y (hx y (by simp[ha]))
  simp only[<- e1,<- e2] at hk ⊢;subst hk;simp only[Option.bind_eq_bind,eM] at hb;obtain⟨u,h1,v,h2,h3⟩:=hb;simp only[Option.bind_eq_bind,h1,h2,aV];split at h3<;>simp only[bz,reduceCtorEq,cq] at h3;obtain⟨rfl,rfl⟩:=h3;exact⟨rfl,rfl⟩
 ·cases hb
theorem zdk{env:aG}{x:a_}{v:V}(h:ak env x=some v)(hn:∀sz xs o,v≠.sl sz xs o):kl env x=env:=by
 cases x with
 | tmp t =>
  simp only[ak,zg] at h;split at h<;>simp only[bz,reduceCtorEq] at h;rename_i v0 h0;refine x5 h0 λsz xs e e0=>?_;subst e0;exact hn sz xs .no h.symm
 | _=>rfl
theorem zen{cx:Cx}{t:aD}{x y:a_}{env bM:aG}{H:Hp}{lk:aP}{df:bS}{r:OR}{s':St}(hx:ak env x=ak bM x)(hy:ak env y=ak bM y)(aE:cx.mV t x y env H lk df=some (r,s')) :
  s'.env=kl env x/\cx.mV t x y bM H lk df=some (r,{ s' with env:=kl bM x }):=by
 unfold Cx.mV at aE ⊢;rw[<- hx,<- hy];simp only[Option.bind_eq_bind,eM] at aE;obtain⟨td,ht,aE⟩:=aE;simp only[Option.bind_eq_bind,ht,aV];split at aE<;>try (cases aE;done)
 simp only[eM] at aE;obtain⟨n,hn,i,hi,z,hz,yv,h1,ys,th,aE⟩:=aE;simp only[hn,hi,hz,h1,th,aV];split at aE<;>try (cases aE;done)
 rename_i hc;rw[if_neg hc];simp only[eM] at aE;obtain⟨xv,h2,aE⟩:=aE;simp only[h2,aV];have key:(∀sz xs o,xv≠.sl sz xs o)->kl env x=env/\kl bM x=bM:=λhn=>⟨zdk h2 hn,zdk (hx ▸ h2) hn⟩;split at aE
 ·obtain⟨k1,k2⟩:=key (λ_ _ _ e=>by cases e)
  rw[k1,k2];split at aE
  ·simp only[bz,cq] at aE;obtain⟨rfl,rfl⟩:=aE;exact⟨rfl,rfl⟩
  ·split at aE<;>try (cases aE;done)
   rename_i DG;simp only[dj,qw,qm,bz,cq] at aE;obtain⟨rfl,rfl⟩:=aE;refine⟨rfl,?_⟩;simp only[DG,aI,dj,qw,qm]
 ·obtain⟨k1,k2⟩:=key (λ_ _ _ e=>by cases e)
  rw[k1,k2];split at aE<;>try (cases aE;done)
  rename_i h3
  try simp only[h3]
  split at aE<;>try (cases aE;done)
  rename_i h4;rw[if_pos h4];simp only[dj,qw,ji,bz,cq] at aE ⊢;obtain⟨rfl,rfl⟩:=aE;exact⟨rfl,rfl,rfl⟩
 ·obtain⟨k1,k2⟩:=key (λ_ _ _ e=>by cases e)
  rw[k1,k2];split at aE<;>try (cases aE;done)
  rename_i h3
  try simp only[h3]
  split at aE
  next h4=>rw[if_pos h4];simp only[dj,qw,ji,bz,cq] at aE ⊢;obtain⟨rfl,rfl⟩:=aE;exact⟨rfl,rfl,rfl⟩
  ·rename_i h4;rw[if_neg h4];split at aE<;>try (cases aE;done)
   rename_i h5
   try simp only[h5]
   split at aE<;>try (cases aE;done)
   rename_i h6;rw[if_pos h6];simp only[dj,qw,qm,bz,cq] at aE ⊢;obtain⟨rfl,rfl⟩:=aE;exact⟨rfl,rfl,rfl⟩
 ·cases aE
theorem zgC{cx:Cx}{t:aD}{x y:a_}{env bM:aG}{H:Hp}{lk:aP}{df:bS}{r:OR}{s':St}(hx:ak env x=ak bM x)(hy:ak env y=ak bM y)(aE:cx.sx t x y env H lk df=some (r,s')) :
  s'.env=env/\cx.sx t x y bM H lk df=some (r,{ s' with env:=bM }):=by
 unfold Cx.sx at aE ⊢;rw[<- hx,<- hy];simp only[Option.bind_eq_bind,eM] at aE;obtain⟨td,ht,aE⟩:=aE;simp only[Option.bind_eq_bind,ht,aV];split at aE<;>try (cases aE;done)
 simp only[eM] at aE;obtain⟨n,hn,yv,h1,ys,th,xv,h2,aE⟩:=aE;simp only[hn,h1,th,h2,aV];split at aE<;>try (cases aE;done)
 split at aE<;>try (cases aE;done)
 rename_i h3
 try simp only[h3]
 split at aE<;>try (cases aE;done)
 rename_i h4;rw[if_pos h4];simp only[dj,ji,bz,cq] at aE ⊢;obtain⟨rfl,rfl⟩:=aE;exact⟨rfl,rfl,rfl⟩
theorem zfp{cx:Cx}{t:aD}{x:a_}{lo hi:Option a_}{env bM:aG}{H:Hp}{lk:aP}{df:bS}{r:OR}{s':St}(hx:ak env x=ak bM x)(hl:de env lo=de bM lo)(hh:de env hi=de bM hi)(aE:cx.oT t x lo hi env H lk df=some (r,s')) :
  s'.env=env/\cx.oT t x lo hi bM H lk df=some (r,{ s' with env:=bM }):=by
 unfold Cx.oT at aE ⊢;rw[<- hx,<- hl,<- hh];split at aE<;>try (cases aE;done)
 ·rename_i h1 h2 h3 h4
  try simp only[h1,h2,h3,h4]
  split at aE<;>try (cases aE;done)
  rename_i h5 h6
  try simp only[h5,h6]
  split at aE<;>try (cases aE;done)
  rename_i h7;rw[if_pos h7];simp only[eH,qw,ji,bz,cq] at aE ⊢;obtain⟨rfl,rfl⟩:=aE;exact⟨rfl,rfl,rfl⟩
 ·rename_i h1 h2 h3
  try simp only[h1,h2,h3]
  split at aE<;>simp only[bz,reduceCtorEq,cq] at aE;rename_i h5
  try simp only[h5]
  obtain⟨rfl,rfl⟩:=aE;exact⟨rfl,rfl⟩
theorem zfq{P:aY}{t:aD}{x:a_}{lo:Option a_}{env bM e:aG}{v:V}(h:fZ env bM [x])(hl:de env lo=de bM lo)(hm:Kw P t x lo env=some (v,e)):e=kl env x/\Kw P t x lo bM=some (v,kl bM x):=by
 unfold Kw at hm ⊢;rw[<- hl];split at hm<;>try (cases hm;done)
 rename_i h1 h2 h3
 try simp only[h1,h3]
 split at hm<;>try (cases hm;done)
 rename_i h4
 try simp only[h4]
 split at hm<;>simp only[bz,reduceCtorEq,cq] at hm;rename_i h5;obtain⟨rfl,rfl⟩:=hm;obtain⟨k1,k2⟩:=wy h h2;simp only[k2,h4,h5];exact⟨k1,trivial⟩
theorem zlh{P:aY}{a b:aD}{x:a_}{env:aG}{r:V×aG}(h:ye P a b x env=some r):Nat.beq a b=true:=by
 unfold ye at h;split at h
 next e _=>exact e
 ·cases h
theorem zcv{P:aY}{a b:aD}{x:a_}{env bM e:aG}{v:V}(h:fZ env bM [x])(hm:ye P a b x env=some (v,e)):e=kl env x/\ye P a b x bM=some (v,kl bM x):=by
 unfold ye at hm ⊢;split at hm<;>try (cases hm;done)
 rename_i h1 h2
 try simp only[h1,h2]
 split at hm<;>simp only[bz,reduceCtorEq,cq] at hm;rename_i h3 h4;obtain⟨rfl,rfl⟩:=hm;obtain⟨k1,k2⟩:=wy h h4;simp only[k2,h3];exact⟨k1,trivial⟩
theorem zhV{P:aY}{a b:aD}{x:a_}{env bM:aG}(h:fZ env bM [x])(hm:ye P a b x env=none):ye P a b x bM=none:=by
 cases h2:ye P a b x bM with
 | none=>rfl
 | some r =>
  obtain⟨v,e⟩:=r;have h':fZ bM env [x]:=λt ht=>(h t ht).symm;rw[(zcv h' h2).2] at hm;cases hm
theorem zeA{P:aY}{a b:aD}{sz:Nat}{xs:aG}{o:uj}(h:Nat.beq a b=true):vz P a b (.sl sz xs o)=none:=by
 have h':=fo h;subst h';simp only[vz,Option.bind_eq_bind];cases P.underlying a with
 | none=>rfl
 | some d =>
  simp only[aV]
theorem x6{cx : Cx}{takes : cw}{o : Oper}{env bM : aG}{H : Hp}{lk : aP}{df : bS}{r : OR}{s' : St}(h : fZ env bM o.op.operands.toList)(aE : cx.op takes o env H lk df = some (r, s')) :
    s'.env = oB env (kj takes o) /\ cx.op takes o bM H lk df = some (r, { s' with env := oB bM (kj takes o) }) := by
  have Jc := zgA (P := cx.P) (gl := cx.gl) (H := H) h;obtain⟨dst, op, type, pos, after, guard⟩ := o;have hp := h.ak;have read : kj takes ⟨dst, op, type, pos, after, guard⟩ = none -> (match jc cx.P cx.gl ⟨dst, op, type, pos, after, guard⟩ env H with | none => none | some v => some (OR.val v, (⟨env, H, lk, df⟩ : St))) = some (r, s') ->
      s'.env = oB env (kj takes ⟨dst, op, type, pos, after, guard⟩) /\ (match jc cx.P cx.gl ⟨dst, op, type, pos, after, guard⟩ bM H with | none => none | some v => some (OR.val v, (⟨bM, H, lk, df⟩ : St))) = some (r, { s' with env := oB bM (kj takes ⟨dst, op, type, pos, after, guard⟩) }) := by
    intro mq hh;rw[<- Jc, mq];split at hh <;> simp only[bz, reduceCtorEq, cq] at hh;rename_i v hv;obtain⟨rfl, rfl⟩ := hh;exact⟨rfl, rfl⟩
  have OS : (match jc cx.P cx.gl ⟨dst, op, type, pos, after, guard⟩ env H with | none => none | some v => some (OR.val v, (⟨env, H, lk, df⟩ : St))) = some (r, s') ->
      s'.env = env /\ (match jc cx.P cx.gl ⟨dst, op, type, pos, after, guard⟩ bM H with | none => none | some v => some (OR.val v, (⟨bM, H, lk, df⟩ : St))) = some (r, { s' with env := bM }) := by
    intro hh;rw[<- Jc];split at hh <;> simp only[bz, reduceCtorEq, cq] at hh;obtain⟨rfl, rfl⟩ := hh;exact⟨rfl, rfl⟩
  cases op
  case pick => exact read rfl aE
  case build => exact read rfl aE
  case buildSlice => exact read rfl aE
  case nilCheck => exact read rfl aE
  case binOp => exact read rfl aE
  case unOp => exact read rfl aE
  case convert c d x =>
    simp only[Cx.op] at aE ⊢;cases hm : ye cx.P c d x env with
    | some ve =>
      obtain⟨v, e⟩ := ve;simp only[hm, bz, cq] at aE;obtain⟨rfl, rfl⟩ := aE;obtain⟨h1, h2⟩ := zcv (h.mono (by simp[Op.operands])) hm
      have tn := zlh hm;simp only[h2, kj, tn, aI];exact⟨h1, rfl⟩
    | none =>
      simp only[hm] at aE;have C5 := zhV (h.mono (by simp[Op.operands])) hm
      simp only[C5];cases B9 : cx.uq (w8 c) with
      | true =>
        simp only[B9] at aE ⊢;rw[<- hp x (by simp[Op.operands])]
        split at aE <;> simp only[bz, reduceCtorEq, cq] at aE;rename_i v hv;obtain⟨rfl, rfl⟩ := aE;cases tn : Nat.beq c d with
        | false => simp[kj, tn, oB]
        | true =>
          have hq : ∀e2 : aG, (∀t, x = .tmp t -> e2[t]? = env[t]?) -> kl e2 x = e2 := λe2 HH => by
            cases x with
            | tmp t =>
              cases hn : env[t]? with
              | none => simp[kl, HH t rfl, hn]
              | some v0 =>
                refine x5 ((HH t rfl).trans hn) λsz xs e e0 => ?_;subst e0;have : ak env (.tmp t) = some (.sl sz xs .no) := by simp[ak, zg, hn, bg]
                simp only[Kv, this, zni, zeA tn, reduceCtorEq] at hv
            | _ => rfl
          have e1 : kl env x = env := hq env λ_ _ => rfl;have e2 : kl bM x = bM := hq bM λt e => (h t (by simp[e, Op.operands])).symm
          simp only[kj, tn, aI, oB, e1, e2];exact⟨trivial, trivial⟩
      | false =>
      simp only[B9] at aE ⊢;cases tn : Nat.beq c d with
      | false => exact read (by simp only[kj, tn]; rfl) aE
      | true =>
        have hq : ∀e2, (∀t, x = .tmp t -> e2[t]? = env[t]?) -> kl e2 x = e2 := λe2 HH => by
          cases x with
          | tmp t =>
            cases hn : env[t]? with
            | none => simp[kl, HH t rfl, hn]
            | some v0 =>
              refine x5 ((HH t rfl).trans hn) λsz xs e e0 => ?_;subst e0;have : ak env (.tmp t) = some (.sl sz xs .no) := by simp[ak, zg, hn, bg]
              simp only[jc, this, Option.bind_eq_bind, aV, zeA tn] at aE;cases aE
          | _ => rfl
        have := OS aE;obtain⟨h1, h2⟩ := this;have e1 : kl env x = env := hq env λ_ _ => rfl;have e2 : kl bM x = bM := hq bM λt e => (h t (by simp[e, Op.operands])).symm
        simp only[kj, tn, aI, oB, e1, e2];exact⟨h1, h2⟩
  case makeInterface => exact read rfl aE
  case makeFunc => exact read rfl aE
  case slice t x lo hi mx =>
    cases mx with
    | some m => exact read rfl aE
    | none =>
      simp only[Cx.op] at aE ⊢;cases hf : xz takes x lo hi with
      | true =>
        simp only[hf] at aE ⊢;split at aE <;> simp only[bz, reduceCtorEq, cq] at aE;rename_i v e hv;obtain⟨rfl, rfl⟩ := aE
        obtain⟨k1, k2⟩ := zfq (h.mono (by simp[Op.operands])) (by
          cases lo with
          | none => rfl
          | some z => simp only[de]; rw[hp z (by simp[Op.operands])]) hv
        simp only[k2, kj, hf, aI];exact⟨k1, rfl⟩
      | false =>
      simp only[hf] at aE ⊢;have hnt : kj takes ⟨dst, .slice t x lo hi none, type, pos, after, guard⟩ = none := by simp[kj, hf]
      cases hu : rC cx.P cx.uq t with
      | false =>
        simp only[hu] at aE;exact read hnt aE
      | true =>
        simp only[hu] at aE;rw[hnt];have ho : ∀y : Option a_, (∀z, y = some z -> z ∈ (Op.slice t x lo hi none).operands.toList) -> de env y = de bM y := λy hy => by
          cases y with
          | none => rfl
          | some z => simp only[de]; rw[hp z (hy z rfl)]
        obtain⟨e1, e2⟩ := zfp (hp x (by simp[Op.operands])) (ho lo λz e => by subst e; simp[Op.operands]) (ho hi λz e => by subst e; simp[Op.operands]) aE
        exact⟨e1, e2⟩
  case fieldAddr => exact read rfl aE
  case field => exact read rfl aE
  case indexAddr => exact read rfl aE
  case index => exact read rfl aE
  case lookup => exact read rfl aE
  case typeAssert => exact read rfl aE
  case extract => exact read rfl aE
  case ready => exact read rfl aE
  case waits => exact read rfl aE
  case sliceToArrayPointer => exact read rfl aE
  case makeChan => exact read rfl aE
  case mapEntry => exact read rfl aE
  case entryStore => exact read rfl aE
  case entry => exact read rfl aE
  case go => exact read rfl aE
  case send => exact read rfl aE
  case recv => exact read rfl aE
  case select => exact read rfl aE
  case assign x =>
    simp only[Cx.op] at aE ⊢;split at aE <;> simp only[bz, reduceCtorEq, cq] at aE;rename_i v e ht;obtain⟨rfl, rfl⟩ := aE;obtain⟨t1, t2⟩ := wy (h.mono (by simp[Op.operands])) ht
    simp only[t2];exact⟨t1, rfl⟩
  case box t x =>
    simp only[Cx.op] at aE ⊢;split at aE <;> try (cases aE; done)
    rename_i v e ht;split at aE <;> try (cases aE; done)
    rename_i hk;simp only[ql, dj, qm, bz, cq] at aE;obtain⟨rfl, rfl⟩ := aE;obtain⟨t1, t2⟩ := wy (h.mono (by simp[Op.operands])) ht
    simp only[t2, hk, ql, dj, qm];exact⟨t1, rfl⟩
  case move x =>
    have yes : kj takes ⟨dst, .move x, type, pos, after, guard⟩ = some x -> (match take env x with | none => none | some (v, env) => some (OR.val v, (⟨env, H, lk, df⟩ : St))) = some (r, s') ->
        s'.env = oB env (kj takes ⟨dst, .move x, type, pos, after, guard⟩) /\ (match take bM x with | none => none | some (v, env) => some (OR.val v, (⟨env, H, lk, df⟩ : St))) = some (r, { s' with env := oB bM (kj takes ⟨dst, .move x, type, pos, after, guard⟩) }) := by
      intro mq aE;split at aE <;> simp only[bz, reduceCtorEq, cq] at aE;rename_i v e ht;obtain⟨rfl, rfl⟩ := aE;obtain⟨t1, t2⟩ := wy (h.mono (by simp[Op.operands])) ht
      simp only[t2, mq];exact⟨t1, rfl⟩
    cases dst with
    | none => exact read rfl aE
    | some d =>
      cases hb : takes.any (Nat.beq d) with
      | true =>
        simp only[Cx.op, hb] at aE ⊢;exact yes (by simp only[kj, hb, aI]) aE
      | false =>
        simp only[Cx.op, hb] at aE ⊢;exact read (by simp only[kj, hb]; rfl) aE
  case alloc t =>
    simp only[Cx.op] at aE ⊢;split at aE <;> try (cases aE; done)
    rename_i z hz;split at aE <;> try (cases aE; done)
    rename_i hk;simp only[ql, qm, bz, cq] at aE;obtain⟨rfl, rfl⟩ := aE;simp only[hk, ql, qm];exact⟨rfl, rfl⟩
  case makeMap t rr =>
    simp only[Cx.op] at aE ⊢;split at aE <;> try (cases aE; done)
    simp only[qm, bz, cq] at aE;obtain⟨rfl, rfl⟩ := aE;simp only[qm];exact⟨rfl, rfl⟩
  case range t x =>
    simp only[Op.operands] at hp;simp only[Cx.op] at aE ⊢;rw[<- hp x (by simp)]
    split at aE <;> try (cases aE; done)
    rename_i l h1 h2;simp only[qm, bz, cq] at aE;obtain⟨rfl, rfl⟩ := aE;simp only[qm];exact⟨rfl, rfl⟩
  case panic x =>
    simp only[Op.operands] at hp;simp only[Cx.op] at aE ⊢;rw[<- hp x (by simp)]
    split at aE <;> simp only[bz, reduceCtorEq, cq] at aE;rename_i t v h1;obtain⟨rfl, rfl⟩ := aE;simp only[];exact⟨rfl, rfl⟩
  case mapUpdate t m k x =>
    simp only[Op.operands] at hp;simp only[Cx.op] at aE ⊢;rw[<- hp m (by simp), <- hp k (by simp), <- hp x (by simp)]
    split at aE <;> try (cases aE; done)
    rename_i b kv v h1 h2 h3
    try simp only[h1, h2, h3]
    split at aE <;> try (cases aE; done)
    rename_i hk;rw[if_neg hk];simp only[ql, eH, ji] at aE ⊢;split at aE <;> try (cases aE; done)
    rename_i es h4
    try simp only[h4]
    split at aE <;> simp only[bz, reduceCtorEq, cq] at aE;rename_i iF h5;obtain⟨rfl, rfl⟩ := aE
    try simp only[]
    exact⟨rfl, rfl⟩
  case insert t m k x =>
    simp only[Op.operands] at hp;simp only[Cx.op] at aE ⊢;rw[<- hp m (by simp), <- hp k (by simp), <- hp x (by simp)]
    split at aE <;> try (cases aE; done)
    rename_i b kv v h1 h2 h3
    try simp only[h1, h2, h3]
    split at aE <;> try (cases aE; done)
    rename_i hk;rw[if_neg hk];simp only[ql, eH, ji] at aE ⊢;split at aE <;> try (cases aE; done)
    rename_i es h4
    try simp only[h4]
    split at aE <;> simp only[bz, reduceCtorEq, cq] at aE;rename_i iF h5;obtain⟨rfl, rfl⟩ := aE
    try simp only[]
    exact⟨rfl, rfl⟩
  case defer c =>
    simp only[Op.operands] at hp h;simp only[Cx.op] at aE ⊢;split at aE <;> try (cases aE; done)
    rename_i f gH;simp only[Call.operands, gH] at hp h;rw[<- hp f (by simp), <- h.av (ys := c.args.toList) (λy hy => by simp at hy ⊢; exact .inr hy)]
    split at aE <;> simp only[bz, reduceCtorEq, cq] at aE;rename_i f' first cap args h1 h2
    obtain⟨rfl, rfl⟩ := aE;simp only[];exact⟨rfl, rfl⟩
  case makeSlice t l c =>
    simp only[Op.operands] at hp;simp only[Cx.op] at aE ⊢;rw[<- hp l (by simp), <- hp c (by simp)]
    split at aE <;> try (cases aE; done)
    rename_i e k1 l' k2 c' h1 h2 h3
    try simp only[h1, h2, h3]
    split at aE <;> try (cases aE; done)
    rename_i n i z g1 g2 g3
    try simp only[g1, g2, g3]
    split at aE <;> try (cases aE; done)
    rename_i g4;rw[if_neg g4];split at aE
    · rename_i g5
      try simp only[g5]
      simp only[dj, qw, qm, bz, cq] at aE ⊢;obtain⟨rfl, rfl⟩ := aE;exact⟨rfl, rfl, rfl⟩
    rename_i g5'
    try simp only[g5']
    split at aE
    · rename_i g5
      rw[if_pos g5];simp only[bz, cq] at aE;obtain⟨rfl, rfl⟩ := aE;exact⟨rfl, rfl⟩
    · rename_i g5
      rw[if_neg g5];split at aE <;> try (cases aE; done)
      rename_i g6;rw[if_pos g6];simp only[dj, qm, bz, cq] at aE ⊢;obtain⟨rfl, rfl⟩ := aE;exact⟨rfl, rfl, rfl⟩
  case next it b =>
    cases b with
    | false => exact read rfl aE
    | true =>
      simp only[Op.operands] at hp;simp only[Cx.op] at aE ⊢;rw[<- hp it (by simp)]
      split at aE <;> try (cases aE; done)
      rename_i bb h1
      try simp only[h1]
      split at aE <;> try (cases aE; done)
      rename_i l pos h2
      try simp only[h2]
      split at aE
      · rename_i g5
        rw[if_pos g5];simp only[qw, ji, bz, cq] at aE ⊢;obtain⟨rfl, rfl⟩ := aE;exact⟨rfl, rfl, rfl⟩
      · rename_i g5
        rw[if_neg g5];simp only[bz, cq] at aE ⊢;obtain⟨rfl, rfl⟩ := aE;exact⟨rfl, rfl, rfl⟩
  case store t a x =>
    simp only[Op.operands] at hp h;simp only[Cx.op] at aE ⊢;rw[<- hp a (by simp)]
    split at aE <;> try (cases aE; done)
    · rename_i b off h1
      try simp only[h1]
      split at aE <;> try (cases aE; done)
      rename_i v e n cs ty h2 h3 h4;obtain⟨t1, t2⟩ := wy (h.mono (by simp)) h2
      try simp only[t2, h3, h4]
      simp only[ql, dj, eH, ji] at aE ⊢;split at aE <;> try (cases aE; done)
      rename_i g5;rw[if_pos g5];simp only[bz, cq] at aE ⊢;obtain⟨rfl, rfl⟩ := aE;exact⟨t1, rfl, rfl⟩
    · rename_i b u k h1
      try simp only[h1]
      split at aE <;> try (cases aE; done)
      rename_i v e n eK sz cs ty h2 h3 h4;obtain⟨t1, t2⟩ := wy (h.mono (by simp)) h2
      try simp only[t2, h3, h4]
      simp only[ql, eH, ji] at aE ⊢;split at aE <;> try (cases aE; done)
      rename_i g5;rw[if_pos g5];simp only[bz, cq] at aE ⊢;obtain⟨rfl, rfl⟩ := aE;exact⟨t1, rfl, rfl⟩
  case load t a =>
    have yes : kj takes ⟨dst, .load t a, type, pos, after, guard⟩ = none := rfl;have hpa : ak env a = ak bM a := hp a (by simp[Op.operands])
    cases dst with
    | none => exact read yes aE
    | some d =>
      cases hb : takes.any (Nat.beq d) with
      | false =>
        simp only[Cx.op, hb] at aE ⊢;exact read yes aE
      | true =>
        simp only[Cx.op, hb] at aE ⊢;rw[<- hpa];split at aE <;> try (cases aE; done)
        · rename_i b off h1 h2
          try simp only[h1, h2]
          split at aE <;> try (cases aE; done)
          rename_i cs ty h3
          try simp only[h3]
          split at aE <;> try (cases aE; done)
          · rename_i sz xs e h4
            try simp only[h4]
            simp only[eP, ji, bz, cq] at aE ⊢;obtain⟨rfl, rfl⟩ := aE;exact⟨rfl, rfl, rfl⟩
          · rename_i h4
            try simp only[h4]
            simp only[bz, cq] at aE ⊢;obtain⟨rfl, rfl⟩ := aE;exact⟨rfl, rfl, rfl⟩
          · rename_i h4
            try simp only[h4]
            simp only[bz, cq] at aE ⊢;obtain⟨rfl, rfl⟩ := aE;exact⟨rfl, rfl, rfl⟩
        · rename_i cs h1 h2
          try simp only[h1, h2]
          split at aE <;> try (cases aE; done)
          rename_i h3
          try simp only[h3]
          simp only[bz, cq] at aE ⊢;obtain⟨rfl, rfl⟩ := aE;exact⟨rfl, rfl, rfl⟩
  case call c =>
    simp only[Op.operands] at hp h;simp only[Cx.op] at aE ⊢;cases gH : c.callee with
    | value f =>
      simp only[gH] at aE ⊢;simp only[Call.operands, gH] at hp h;rw[<- hp f (by simp), <- h.av (ys := c.args.toList) (λy hy => by simp at hy ⊢; exact .inr hy)]
      split at aE <;> try (cases aE; done)
      rename_i f' args h1 h2
      try simp only[h1, h2]
      split at aE <;> simp only[bz, reduceCtorEq, cq] at aE;rename_i r' H' h3;obtain⟨rfl, rfl⟩ := aE
      try simp only[]
      refine⟨?_, ?_⟩ <;> simp[kj, gH, oB]
    | invoke rc m =>
      simp only[gH] at aE ⊢;simp only[Call.operands, gH] at hp h;rw[<- hp rc (by simp), <- h.av (ys := c.args.toList) (λy hy => by simp at hy ⊢; exact .inr hy)]
      split at aE <;> try (cases aE; done)
      rename_i f' args h1 h2
      try simp only[h1, h2]
      split at aE <;> simp only[bz, reduceCtorEq, cq] at aE;rename_i r' H' h3;obtain⟨rfl, rfl⟩ := aE
      try simp only[]
      refine⟨?_, ?_⟩ <;> simp[kj, gH, oB]
    | builtin b =>
      simp only[gH] at aE ⊢;simp only[Call.operands, gH] at hp h;have plain : (match cx.builtin b c.argTypes c.args env H with | none => none | some (r, env) => some (r, (⟨env, H, lk, df⟩ : St))) = some (r, s') ->
          s'.env = oB env (kj takes ⟨dst, .call c, type, pos, after, guard⟩) /\ (match cx.builtin b c.argTypes c.args bM H with | none => none | some (r, env) => some (r, (⟨env, H, lk, df⟩ : St))) = some (r, { s' with env := oB bM (kj takes ⟨dst, .call c, type, pos, after, guard⟩) }) := by
        intro aE;split at aE <;> simp only[bz, reduceCtorEq, cq] at aE;rename_i r' e h1;obtain⟨rfl, rfl⟩ := aE;have hg : e = oB env (kj takes ⟨dst, .call c, type, pos, after, guard⟩) /\ cx.builtin b c.argTypes c.args bM H = some (r', oB bM (kj takes ⟨dst, .call c, type, pos, after, guard⟩)) := by
          exact zem (xs := c.args.toList) (h.mono λy hy => by simpa using hy) (λy hy => hy) h1 (by cases b <;> simp[kj, gH])
        obtain⟨rfl, hg⟩ := hg;refine⟨rfl, ?_⟩;simp only[hg]
      split at aE
      · rename_i x y t ts fS Cb
        obtain⟨e1, e2⟩ := zgC (hp x (by have : x ∈ c.args.toList := by rw[fS]; simp
                                        simpa using this)) (hp y (by have : y ∈ c.args.toList := by rw[fS]; simp
                                                                     simpa using this)) aE
        have : kj takes ⟨dst, .call c, type, pos, after, guard⟩ = none := by simp[kj, gH]
        rw[this];exact⟨e1, e2⟩
      · rename_i x y t u fS Cb
        have : kj takes ⟨dst, .call c, type, pos, after, guard⟩ = some x := by simp[kj, gH, fS]
        split at aE
        · rename_i hu
          split at aE <;> try (cases aE; done)
          rename_i KQ
          obtain⟨e1, e2⟩ := zen (hp x (by have : x ∈ c.args.toList := by rw[fS]; simp
                                          simpa using this)) (hp y (by have : y ∈ c.args.toList := by rw[fS]; simp
                                                                       simpa using this)) aE
          simp only[KQ, aI, this, oB];exact⟨e1, e2⟩
        · exact plain aE
      · exact plain aE
end
section
variable{P:aY}
theorem Cd:∀{a b:bO},ot a b=true->a=b
 | [],[],_=>rfl
 | [],_::_,h=>by simp[ot] at h
 | _::_,[],h=>by simp[ot] at h
 | x::xs,y::ys,h=>by
  simp only[ot,eF] at h;rw[fo h.1,Cd h.2]
mutual
theorem V.iQ:∀{a b:V},V.same a b=true->a=b
 | .bool a,b,h=>by cases b<;>simp[V.same] at h<;>simp[h]
 | .int k n,b,h=>by cases b<;>simp[V.same] at h;simp[h]
 | .str a,b,h=>by cases b<;>simp[V.same] at h;simp[Cd h]
 | .fQ,b,h=>by cases b<;>simp[V.same] at h;rfl
 | .ptr x y,b,h=>by cases b<;>simp[V.same] at h;simp[h]
 | .eV x y,b,h=>by cases b<;>simp[V.same] at h;simp[h]
 | .obj x,b,h=>by cases b<;>simp[V.same] at h;simp[h]
 | .vp xs,b,h=>by cases b<;>simp[V.same] at h;rw[fT h]
 | .aH,b,h=>by cases b<;>simp[V.same] at h;rfl
 | .sl z xs o,b,h=>by cases b<;>simp[V.same] at h;rw[h.1,fT h.2.2,h.2.1]
 | .sr x y z u,b,h=>by cases b<;>simp[V.same] at h;simp[h]
 | .mz,b,h=>by cases b<;>simp[V.same] at h;rfl
 | .map x,b,h=>by cases b<;>simp[V.same] at h;simp[h]
 | .pH,b,h=>by cases b<;>simp[V.same] at h;rfl
 | .fn f as cs,b,h=>by
  cases b<;>try (simp[V.same] at h;done)
  rename_i f' as' cs';simp only[V.same,eF] at h;obtain⟨⟨h1,h2⟩,h3⟩:=h;split at h1
  next e=>rw[e,fT h2,fT h3]
  ·cases h1
 | .bP,b,h=>by cases b<;>simp[V.same] at h;rfl
 | .dX t v,b,h=>by cases b<;>simp[V.same] at h;rw[h.1,V.iQ h.2]
 | .agg xs,b,h=>by cases b<;>simp[V.same] at h;rw[fT h]
 | .bx xs,b,h=>by cases b<;>simp[V.same] at h;rw[fT h]
 | .eC,b,h=>by cases b<;>simp[V.same] at h;rfl
 | .dF x y z,b,h=>by cases b<;>simp[V.same] at h;simp[h]
 | .gk x y z,b,h=>by cases b<;>simp[V.same] at h;simp[h]
theorem fT:∀{a b:aG},eG a b=true->a=b
 | [],[],_=>rfl
 | [],_::_,h=>by simp[eG] at h
 | _::_,[],h=>by simp[eG] at h
 | x::xs,y::ys,h=>by
  simp only[eG,eF] at h;rw[V.iQ h.1,fT h.2]
end
theorem AS:∀(a:bO),ot a a=true
 | []=>rfl
 | x::xs=>by simp[ot,AS xs]
mutual
theorem V.dx:∀(a:V),V.same a a=true
 | .bool a=>by simp[V.same]
 | .int k n=>by simp[V.same]
 | .str a=>by simp[V.same,AS]
 | .fQ=>rfl
 | .ptr x y=>by simp[V.same]
 | .eV x y=>by simp[V.same]
 | .obj x=>by simp[V.same]
 | .vp xs=>by simp[V.same,dK xs]
 | .aH=>rfl
 | .sl z xs o=>by simp[V.same,dK xs]
 | .sr x y z u=>by simp[V.same]
 | .mz=>rfl
 | .map x=>by simp[V.same]
 | .pH=>rfl
 | .fn f as cs=>by simp[V.same,dK as,dK cs]
 | .bP=>rfl
 | .dX t v=>by simp[V.same,V.dx v]
 | .agg xs=>by simp[V.same,dK xs]
 | .bx xs=>by simp[V.same,dK xs]
 | .eC=>rfl
 | .dF x y z=>by simp[V.same]
 | .gk x y z=>by simp[V.same]
theorem dK:∀(a:aG),eG a a=true
 | []=>rfl
 | x::xs=>by simp[eG,V.dx x,dK xs]
end
theorem K3(m i:Nat):bit m i=m.testBit i:=by
 unfold bit;rw[Nat.testBit_eq_decide_div_mod_eq];show Nat.beq ((m >>> i) % 2) 1=_;rw[Nat.shiftRight_eq_div_pow];cases h:Nat.beq (m / 2 ^ i % 2) 1 with
 | true=>simp[fo h]
 | false=>have:=Nat.ne_of_beq_eq_false h;simp;omega
theorem wZ(a b i:Nat):bit (Nat.lor a b) i=(bit a i || bit b i):=by
 simp only[K3];exact BR a b i
theorem yj(k i:Nat):bit (Nat.pow 2 k) i=decide (k=i):=by
 rw[K3];exact Ga
theorem zgD{a b i:Nat}(h:Nat.beq (Nat.land a b) 0=true)(ha:bit a i=true)(hb:bit b i=true):False:=by
 have h1:a &&& b=0:=fo h;have h2:(a &&& b).testBit i=(a.testBit i && b.testBit i):=Nat.testBit_and a b i;rw[K3] at ha hb;rw[h1,ha,hb] at h2;simp at h2
theorem yG(i:Nat):bit 0 i=false:=by rw[K3];simp
theorem vb{t:Nat}:∀{xs:List a_},Operand.tmp t∈xs->bit (gp xs) t=true
 | .tmp u::xs,h=>by
  simp only[gp,wZ,yj,tf,decide_eq_true_eq];rcases dM.1 h with h|h
  ·cases h;exact .inl rfl
  ·exact .inr (vb h)
 | .const _::xs,h=>by
  simp only[gp];rcases dM.1 h with h|h
  ·cases h
  ·exact vb h
 | .global _::xs,h=>by
  simp only[gp];rcases dM.1 h with h|h
  ·cases h
  ·exact vb h
 | .func _::xs,h=>by
  simp only[gp];rcases dM.1 h with h|h
  ·cases h
  ·exact vb h
theorem zcw{j m:Nat}:∀{rs:List Rec},maskAt rs j=some m->∃q∈rs,q.idx=j/\q.m=m
 | [],h=>by simp[maskAt] at h
 | r::rs,h=>by
  simp only[maskAt] at h;split at h
  next hb=>cases h;exact⟨r,fy ..,fo hb,rfl⟩
  ·obtain⟨q,h1,h2⟩:=zcw h;exact⟨q,eo _ h1,h2⟩
theorem x7{rs:List Rec}:∀{es:List Edge}{m:Nat},wv rs es=some m->(∀e∈es,Region.binds .any e=true->∃q∈rs,q.idx=e.on) /\
  ∀i,bit m i=true->∃e∈es,Region.binds .any e=true/\(e.on=i\/∃q∈rs,q.idx=e.on/\bit q.m i=true)
 | [],m,h=>by
  simp only[wv,bz] at h;subst h;exact⟨λe he=>by simp at he,λi hi=>by rw[yG] at hi;cases hi⟩
 | e::es,m,h=>by
  simp only[wv] at h;split at h
  ·rename_i hb;obtain⟨h1,h2⟩:=x7 h;refine⟨λe' he dw=>?_,λi hi=>?_⟩
   ·rcases dM.1 he with rfl|he
    ·rw[hb] at dw;cases dw
    ·exact h1 e' he dw
   ·obtain⟨e',he,r⟩:=h2 i hi;exact⟨e',eo _ he,r⟩
  ·rename_i hb;split at h<;>try (cases h;done)
   rename_i m1 uu;split at h<;>try (cases h;done)
   rename_i k hk;cases h;obtain⟨q,hq,HI,hqm⟩:=zcw uu;obtain⟨h1,h2⟩:=x7 hk;refine⟨λe' he dw=>?_,λi hi=>?_⟩
   ·rcases dM.1 he with rfl|he
    ·exact⟨q,hq,HI⟩
    ·exact h1 e' he dw
   ·simp only[wZ,yj,tf,decide_eq_true_eq] at hi;rcases hi with hi|hi|hi
    ·obtain⟨e',he,r⟩:=h2 i hi;exact⟨e',eo _ he,r⟩
    ·exact⟨e,fy ..,hb,.inr ⟨q,hq,HI,by rw[hqm];exact hi⟩⟩
    ·exact⟨e,fy ..,hb,.inl hi⟩
theorem yk{cx:Cx}{takes:cw}{o:Oper}{env:aG}{H:Hp}{lk:aP}{df:bS}{r:OR}{s':St}(hn:jg cx.P cx.uq takes o=false)(aE:cx.op takes o env H lk df=some (r,s')) :
  ∃v,r=.val v/\s'=⟨oB env (kj takes o),H,lk,df⟩/\∀Aq Ar,cx.op takes o env H Aq Ar=some (.val v,⟨oB env (kj takes o),H,Aq,Ar⟩):=by
 have k_:=(x6 (bM:=env) (λt _=>rfl) aE).1
 suffices h:∃v e,r=.val v/\s'=⟨e,H,lk,df⟩/\∀Aq Ar,cx.op takes o env H Aq Ar=some (.val v,⟨e,H,Aq,Ar⟩) by
  obtain⟨v,e,h1,h2,h3⟩:=h;rw[h2] at k_;simp only at k_;subst k_;exact⟨v,h1,h2,h3⟩
 have read:(match jc cx.P cx.gl o env H with|none=>none|some v=>some (OR.val v,(⟨env,H,lk,df⟩:St)))=some (r,s')->∃v e,r=.val v/\s'=⟨e,H,lk,df⟩/\∀Aq Ar,(match jc cx.P cx.gl o env H with|none=>none|some v=>some (OR.val v,(⟨env,H,Aq,Ar⟩:St)))=some (.val v,⟨e,H,Aq,Ar⟩):=by
  intro hh;split at hh<;>simp only[bz,reduceCtorEq,cq] at hh;rename_i v hv;obtain⟨rfl,rfl⟩:=hh;exact⟨v,env,rfl,rfl,λ_ _=>rfl⟩
 have mv:∀x,(match take env x with|none=>none|some (v,env)=>some (OR.val v,(⟨env,H,lk,df⟩:St)))=some (r,s')->∃v e,r=.val v/\s'=⟨e,H,lk,df⟩/\∀Aq Ar,(match take env x with|none=>none|some (v,env)=>some (OR.val v,(⟨env,H,Aq,Ar⟩:St)))=some (.val v,⟨e,H,Aq,Ar⟩):=by
  intro x hh;split at hh<;>simp only[bz,reduceCtorEq,cq] at hh;rename_i v e hv;obtain⟨rfl,rfl⟩:=hh;exact⟨v,e,rfl,rfl,λ_ _=>rfl⟩
 obtain⟨dst,op,type,pos,after,guard⟩:=o;cases op<;>simp only[jg,Oj] at hn
 case load t a =>
  cases dst with
  | none=>exact read aE
  | some d =>
   simp only at hn;simp only[Cx.op,hn] at aE ⊢;exact read aE
 case move x =>
  cases dst with
  | none=>exact read aE
  | some d =>
   cases hb:takes.any (Nat.beq d) with
   | true =>
    simp only[Cx.op,hb] at aE ⊢;exact mv x aE
   | false =>
    simp only[Cx.op,hb] at aE ⊢;exact read aE
 case assign x =>
  simp only[Cx.op] at aE ⊢;exact mv x aE
 case slice t x lo hi mx =>
  cases mx with
  | some m=>exact read aE
  | none =>
   simp only at hn;simp only[Cx.op,hn] at aE ⊢;cases hf:xz takes x lo hi with
   | false =>
    simp only[hf] at aE ⊢;exact read aE
   | true =>
    simp only[hf] at aE ⊢;split at aE<;>simp only[bz,reduceCtorEq,cq] at aE;rename_i v e hv;obtain⟨rfl,rfl⟩:=aE;exact⟨v,e,rfl,rfl,λ_ _=>rfl⟩
 case call c =>
  cases gH:c.callee<;>simp only[gH,Oj] at hn;rename_i bi;have E1:∀lk df,cx.op takes ⟨dst,.call c,type,pos,after,guard⟩ env H lk df=(match cx.builtin bi c.argTypes c.args env H with|none=>none|some (r,env)=>some (r,(⟨env,H,lk,df⟩:St))):=by
   intro lk df;simp only[Cx.op,gH];split
   ·simp at hn
   next x y t u fS Cb=>simp only[Cb] at hn;simp only[hn];cases cx.builtin .append c.argTypes c.args env H<;>rfl
   ·rfl
  simp only[E1] at aE ⊢;clear E1;split at aE<;>simp only[bz,reduceCtorEq,cq] at aE;rename_i r' e h1;obtain⟨rfl,rfl⟩:=aE;have:∃v,r'=.val v:=by
   unfold Cx.builtin at h1;split at h1<;>try (cases h1;done)
   ·simp only[Option.bind_eq_bind,eM,bz,cq] at h1;obtain⟨u,_,v,_,h3,rfl⟩:=h1;exact⟨_,h3.symm⟩
   ·split at h1<;>try (cases h1;done)
    simp only[Option.bind_eq_bind,eM,bz,cq] at h1;obtain⟨y',_,⟨v,e'⟩,_,w,_,h4,rfl⟩:=h1;exact⟨_,h4.symm⟩
   all_goals
    simp only[Option.bind_eq_bind,eM] at h1;obtain⟨u,_,v,_,h3⟩:=h1;split at h3<;>simp only[bz,reduceCtorEq,cq] at h3;exact⟨_,h3.1.symm⟩
  obtain⟨v,rfl⟩:=this
  try simp only[h1]
  exact⟨v,e,rfl,rfl,λ_ _=>rfl⟩
 case convert c d x =>
  simp only[Cx.op] at aE ⊢;split at aE
  next v e hv=>simp only[bz,cq] at aE;obtain⟨rfl,rfl⟩:=aE;exact⟨v,e,rfl,rfl,λ_ _=>rfl⟩
  ·split at aE
   ·split at aE<;>simp only[bz,reduceCtorEq,cq] at aE;rename_i v hv;obtain⟨rfl,rfl⟩:=aE;exact⟨v,env,rfl,rfl,λ_ _=>rfl⟩
   ·exact read aE
 all_goals exact read aE
theorem zno{cx:Cx}{takes:cw}{o:Oper}{env:aG}{H H2:Hp}{lk:aP}{df:bS}{v:V}{s':St}(hn:jg cx.P cx.uq takes o=false)(hf:kW cx.P cx.uq o=false)(aE:cx.op takes o env H lk df=some (.val v,s')) :
  ∀Aq Ar,∃s2,cx.op takes o env H2 Aq Ar=some (.val v,s2):=by
 intro Aq Ar;have read:jc cx.P cx.gl o env H2=jc cx.P cx.gl o env H->(match jc cx.P cx.gl o env H with|none=>none|some v=>some (OR.val v,(⟨env,H,lk,df⟩:St)))=some (.val v,s')->∃s2,(match jc cx.P cx.gl o env H2 with|none=>none|some v=>some (OR.val v,(⟨env,H2,Aq,Ar⟩:St)))=some (.val v,s2):=by
  intro e hh;rw[e];split at hh<;>simp only[bz,reduceCtorEq,cq] at hh;rename_i u hv;obtain⟨h1,rfl⟩:=hh;cases h1;exact⟨_,rfl⟩
 have mv:∀x,(match take env x with|none=>none|some (v,env)=>some (OR.val v,(⟨env,H,lk,df⟩:St)))=some (.val v,s')->∃s2,(match take env x with|none=>none|some (v,env)=>some (OR.val v,(⟨env,H2,Aq,Ar⟩:St)))=some (.val v,s2):=by
  intro x hh;split at hh<;>simp only[bz,reduceCtorEq,cq] at hh;rename_i u e hv;obtain⟨h1,rfl⟩:=hh;cases h1;exact⟨_,rfl⟩
 obtain⟨dst,op,type,pos,after,guard⟩:=o;cases op<;>simp only[jg,kW,Oj] at hn hf
 case move x =>
  cases dst with
  | none=>exact read rfl aE
  | some d =>
   cases hb:takes.any (Nat.beq d) with
   | true =>
    simp only[Cx.op,hb] at aE ⊢;exact mv x aE
   | false =>
    simp only[Cx.op,hb] at aE ⊢;exact read rfl aE
 case assign x =>
  simp only[Cx.op] at aE ⊢;exact mv x aE
 case slice t x lo hi mx =>
  cases mx with
  | some m=>exact read rfl aE
  | none =>
   simp only at hn;simp only[Cx.op,hn] at aE ⊢;cases OT:xz takes x lo hi with
   | false =>
    simp only[OT] at aE ⊢;exact read rfl aE
   | true =>
    simp only[OT] at aE ⊢;split at aE<;>simp only[bz,reduceCtorEq,cq] at aE;obtain⟨h1,rfl⟩:=aE;cases h1;exact⟨_,rfl⟩
 case convert c d x =>
  simp only[Cx.op] at aE ⊢;split at aE
  next v' e hv=>simp only[bz,cq] at aE;obtain⟨h1,rfl⟩:=aE;cases h1;exact⟨_,rfl⟩
  ·simp only[hf] at aE ⊢;exact read rfl aE
 all_goals exact read rfl aE
end
section
variable{cx:Cx}{all:Array Oper}{takes:cw}
def Gv(all:Array Oper)(takes:cw)(r:Rec):aG :=
 if zZ all r.o r.env=some true then aq (oB r.env (kj takes r.o)) r.o.dst r.v else aq r.env r.o.dst r.v
def yV(rs:List Rec)(q:Rec)(D:Nat):Prop:=∀d∈rs,d.hp=true->bit q.m d.idx=true->bit D d.idx=true
structure RI(cx:Cx)(all:Array Oper)(takes:cw)(s0:St)(Ev:Nat->aG)(i:Nat)(rs:List Rec)(cs:List ez)(s:St):Prop where
 ex:∀j,j<i->∃r∈rs,r.idx=j
 lt:∀r∈rs,r.idx<i
 uniq:∀r∈rs,∀q∈rs,r.idx=q.idx->r=q
 get:∀r∈rs,all[r.idx]?=some r.o
 tm:∀r∈rs,∀t,(r.o.dst=some t\/kj takes r.o=some (.tmp t))->bit r.tm t=true
 lm:∀r∈rs,∀t,(bit r.tm t=true\/t∈r.o.looksAt all)->bit r.lm t=true
 bU:∀r∈rs,∀e∈r.o.after,Region.binds .any e=true->e.on<r.idx
 mlt:∀r∈rs,∀b,bit r.m b=true->b<r.idx
 mask:∀r∈rs,∀b,bit r.m b=true->∃e∈r.o.after,Region.binds .any e=true/\(e.on=b\/∃q∈rs,q.idx=e.on/\bit q.m b=true)
 slots:∀r∈rs,∀q∈rs,q.idx<r.idx->kq r q=true
 ev:∀r∈rs,Ev r.idx=r.env
 SK:Ev 0=s0.env
 SL:Ev i=s.env
 OU:∀r∈rs,Ev (r.idx+1)=Gv all takes r
 off:∀r∈rs,zZ all r.o r.env≠some true->zZ all r.o r.env=some false/\r.hp=false/\r.v=.bx []
 calm:∀r∈rs,zZ all r.o r.env=some true->r.hp=jg cx.P cx.uq takes r.o/\(jg cx.P cx.uq takes r.o=false->∃H lk df s1,cx.op takes r.o r.env H lk df=some (.val r.v,s1))
 free:∀r∈rs,zZ all r.o r.env=some true->r.free=true->kW cx.P cx.uq r.o=false
 c0:∃c∈cs,c.D=0/\c.H=s0.H/\c.lk=s0.lk/\c.df=s0.defers
 top:∃c cs',cs=c::cs'/\c.D=eL rs/\c.H=s.H/\c.lk=s.lk/\c.df=s.defers
 cD:∀c∈cs,∀b,bit c.D b=true->∃q∈rs,q.hp=true/\q.idx=b
 uw:∀c∈cs,∀d∈cs,c.D=d.D->c=d
 g1:∀c∈cs,∀q∈rs,q.hp=true->bit c.D q.idx=false->yV rs q c.D->∃c3∈cs,c3.D=Nat.lor c.D (Nat.pow 2 q.idx)/\cx.d_ takes q.o q.env c c3.D=some (q.v,c3)
 g2:∀c∈cs,∀q∈rs,q.hp=false->q.free=false->yV rs q c.D->(∀d∈rs,d.hp=true->bit c.D d.idx=true->bit d.m q.idx=false)->∃c2,cx.d_ takes q.o q.env c 0=some (q.v,c2)
theorem AT:∀{a b:List (V×V)},rE a b=true->a=b
 | [],[],_=>rfl
 | [],_::_,h=>by simp[rE] at h
 | _::_,[],h=>by simp[rE] at h
 | (x,y)::xs,(z,u)::ys,h=>by
  simp only[rE,eF] at h;rw[V.iQ h.1.1,V.iQ h.1.2,AT h.2]
theorem q_:∀{a b:aP},mg a b=true->a=b
 | [],[],_=>rfl
 | [],_::_,h=>by simp[mg] at h
 | _::_,[],h=>by simp[mg] at h
 | (x,y)::xs,(z,u)::ys,h=>by
  simp only[mg,eF] at h;rw[fo h.1.1,fo h.1.2,q_ h.2]
theorem ux:∀{a b:bS},nH a b=true->a=b
 | [],[],_=>rfl
 | [],_::_,h=>by simp[nH] at h
 | _::_,[],h=>by simp[nH] at h
 | (x,y)::xs,(z,u)::ys,h=>by
  simp only[nH,eF] at h;rw[V.iQ h.1.1,fT h.1.2,ux h.2]
theorem Ce:∀{a b:bq},gq a b=true->a=b
 | .cells a t,b,h=>by
  cases b<;>simp only[gq,eF,gh] at h;rw[fo h.1,fT h.2]
 | .map a,b,h=>by
  cases b<;>simp only[gq,gh] at h;rw[AT h]
 | .iter a i,b,h=>by
  cases b<;>simp only[gq,eF,gh] at h;rw[fo h.1,Cd h.2]
 | .ul v z a e,b,h=>by
  cases b<;>simp only[gq,eF,gh] at h;rw[fo h.1.1.1,fo h.1.1.2,fo h.1.2,fT h.2]
theorem uy:∀{a b:List bq},mW a b=true->a=b
 | [],[],_=>rfl
 | [],_::_,h=>by simp[mW] at h
 | _::_,[],h=>by simp[mW] at h
 | x::xs,z::ys,h=>by
  simp only[mW,eF] at h;rw[Ce h.1,uy h.2]
theorem zhW{a b:ez}(h:yg a b=true):a.H=b.H/\a.lk=b.lk/\a.df=b.df:=by
 obtain⟨D,⟨bs,es⟩,lk,df⟩:=a;obtain⟨D',⟨An,iF⟩,Hx,Hy⟩:=b;simp only[yg,eF] at h;exact⟨by rw[uy h.2,q_ h.1.2],q_ h.1.1.1,ux h.1.1.2⟩
theorem zbv{D:Nat}{c:ez}:∀{cs:List ez},yh D cs=some c->c∈cs/\c.D=D
 | [],h=>by simp[yh] at h
 | d::cs,h=>by
  simp only[yh] at h;split at h
  next hb=>cases h;exact⟨fy ..,fo hb⟩
  ·obtain⟨h1,h2⟩:=zbv h;exact⟨eo _ h1,h2⟩
theorem yu{α:Type}{f:α->Bool}:∀{l:List α},kA f l=true->∀x∈l,f x=true
 | [],_,x,hx=>by simp at hx
 | y::l,h,x,hx=>by
  simp only[kA] at h;split at h
  ·rename_i hy;rcases dM.1 hx with rfl|hx
   ·exact hy
   ·exact yu h x hx
  ·cases h
theorem lu{b:Nat}:∀{rs:List Rec},bit (eL rs) b=true ↔ ∃q∈rs,q.hp=true/\q.idx=b
 | []=>by simp[eL,yG]
 | r::rs=>by
  have ih:=lu (b:=b) (rs:=rs);simp only[eL];split
  ·rename_i h;simp only[wZ,yj,tf,decide_eq_true_eq,ih,dM];constructor
   ·rintro(h1|⟨q,h1,h2⟩)
    ·exact⟨r,.inl rfl,h,h1⟩
    ·exact⟨q,.inr h1,h2⟩
   ·rintro⟨q,rfl|h1,h2⟩
    ·exact .inl h2.2
    ·exact .inr ⟨q,h1,h2⟩
  ·rename_i h;rw[ih];simp only[dM];constructor
   ·rintro⟨q,h1,h2⟩;exact⟨q,.inr h1,h2⟩
   ·rintro⟨q,rfl|h1,h2⟩
    ·rw[h] at h2;cases h2.1
    ·exact⟨q,h1,h2⟩
theorem xB{a b:Nat}(h:∀i,bit a i=bit b i):a=b:=by
 apply Nat.eq_of_testBit_eq;intro i;rw[<- K3,<- K3];exact h i
theorem Nj(a b i:Nat):bit (Nat.land a b) i=(bit a i && bit b i):=by
 simp only[K3];exact Nat.testBit_and a b i
theorem ri{a b:Nat}:vU a b=true ↔ ∀i,bit a i=true->bit b i=true:=by
 unfold vU;constructor
 ·intro h i hi;have h1:=fo h;rw[<- h1,Nj,eF] at hi;exact hi.2
 ·intro h;have:Nat.land a b=a:=by
   apply xB;intro i;rw[Nj];cases hi:bit a i with
   | false=>rfl
   | true=>simp[h i hi]
  rw[this];exact iV a
theorem mD{rs:List Rec}{q:Rec}{D:Nat}:vU (Nat.land q.m (eL rs)) D=true ↔ yV rs q D:=by
 rw[ri];constructor
 ·intro h d hd hh hb;exact h d.idx (by rw[Nj,hb,sw];exact lu.2 ⟨d,hd,hh,rfl⟩)
 ·intro h i hi;rw[Nj,eF] at hi;obtain⟨d,h1,h2,rfl⟩:=lu.1 hi.2;exact h d h1 h2 hi.1
theorem zcx{D:Nat}{q:Rec}:∀{rs:List Rec},(∀d∈rs,d.hp=true->bit D d.idx=true->bit d.m q.idx=false)->Kx D q rs=false
 | [],_=>rfl
 | c::cs,h=>by
  simp only[Kx,zcx λd hd=>h d (eo _ hd),Bool.or_false];cases h1:c.hp with
  | false=>rfl
  | true=>cases h2:bit D c.idx with
   | false=>rfl
   | true=>simp[h c (fy ..) h1 h2]
theorem zli{o:Oper}{env:aG}{c:ez}{D:Nat}{v:V}{c2:ez}(h:cx.d_ takes o env c D=some (v,c2))(D':Nat):c2.D=D/\cx.d_ takes o env c D'=some (v,{ c2 with D:=D' }):=by
 unfold Cx.d_ at h ⊢;split at h<;>simp only[bz,reduceCtorEq,cq] at h
 ·obtain⟨rfl,rfl⟩:=h;exact⟨rfl,by simp only[*]⟩
 ·obtain⟨rfl,rfl⟩:=h;exact⟨rfl,by simp only[*]⟩
theorem x8{o:Oper}{env:aG}{v:V}{m b:Nat}:∀{cs l:List ez},cx.iC takes o env v m b cs=some l ->
  (∀c∈cs,vU m c.D=true->∃c2∈l,c2.D=Nat.lor c.D b/\cx.d_ takes o env c c2.D=some (v,c2))/\(∀c2∈l,∃c∈cs,vU m c.D=true/\c2.D=Nat.lor c.D b/\cx.d_ takes o env c c2.D=some (v,c2))
 | [],l,h=>by
  simp only[Cx.iC,bz] at h;subst h;exact⟨λc hc=>by simp at hc,λc hc=>by simp at hc⟩
 | c::cs,l,h=>by
  simp only[Cx.iC] at h;split at h
  ·rename_i hs;obtain⟨h1,h2⟩:=x8 h;refine⟨λc' hc hb=>?_,λc2 hc=>?_⟩
   ·rcases dM.1 hc with rfl|hc
    ·rw[hs] at hb;cases hb
    ·exact h1 c' hc hb
   ·obtain⟨c',h3,h4⟩:=h2 c2 hc;exact⟨c',eo _ h3,h4⟩
  ·rename_i hs;split at h<;>try (cases h;done)
   rename_i u c2 hr;split at h<;>try (cases h;done)
   rename_i iN;have:=V.iQ iN;subst this;split at h<;>try (cases h;done)
   rename_i l' hl;simp only[bz] at h;subst h;obtain⟨h1,h2⟩:=x8 hl;have hD:=(zli hr 0).1;refine⟨λc' hc hb=>?_,λc3 hc=>?_⟩
   ·rcases dM.1 hc with rfl|hc
    ·exact⟨c2,fy ..,hD,by rw[hD];exact hr⟩
    ·obtain⟨c3,h3,h4⟩:=h1 c' hc hb;exact⟨c3,eo _ h3,h4⟩
   ·rcases dM.1 hc with rfl|hc
    ·exact⟨c,fy ..,hs,hD,by rw[hD];exact hr⟩
    ·obtain⟨c',h3,h4⟩:=h2 c3 hc;exact⟨c',eo _ h3,h4⟩
end
end Go.Vm
