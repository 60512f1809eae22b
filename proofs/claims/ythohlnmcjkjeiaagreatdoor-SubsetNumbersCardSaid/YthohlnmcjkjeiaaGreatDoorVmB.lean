/- Vm: maps, texts gone through, rows of zeros. Conditions: none but those named. -/
import Derived.Laws.MakeOwn
import Derived.Scope
import Derived.LoopN
import Derived.Recover
import Derived.Test.YthohlnmcjkjeiaaGreatDoorVmA
namespace Go.Vm
open Go
section
variable{P:aQ}{B:dY}{g:Gh}{s:St}{a:Act}{w:aP}
theorem zgw{_kd:TypeDesc}{k x:V}{ck cx:bw}(h:JK k x=some true)(h1:aR g k ck)(h2:aR g x cx)(n:Nat):Instr.sameBits n cx ck=true:=by
 unfold JK at h;split at h
 ·split at h<;>simp only[bu,reduceCtorEq] at h;rename_i e;subst e;cases h1;cases h2;have:=beq_iff_eq.1 h;subst this;simp[Instr.sameBits]
 ·simp only[bu] at h;cases h1 with
  | str b1=>cases h2 with
   | str b2 =>
    have:=pM _ _ b1 b2;rw[h] at this;simp only[Instr.sameBits,beq_toListBytes,vn];rw[beq_iff_eq] at this ⊢;exact this.symm
 ·simp only[bu] at h;cases h1;cases h2;have:=beq_iff_eq.1 h;subst this;simp[Instr.sameBits]
 ·cases h
theorem zi1{kd:TypeDesc}{k x:V}{ck cx:bw}(hk:ya kd k=true)(h1:aR g k ck)(h2:aR g x cx):∀{es iL:List (V×V)}{en:List MapEntry}(i:Nat),nP g es en->HV k x es=some iL ->
  (Instr.findNow kd ck en i=some none/\iL=es++[(k,x)]) \/
  ∃j e cv,Instr.findNow kd ck en i=some (some (i+j,cv))/\en[j]?=some e/\Instr.sameBits 10000 e.key ck=true/\iL=es.set j (k,x)/\j<es.length
 | [],_,[],i,_,h=>by simp only[HV,bu] at h;subst h;exact .inl ⟨rfl,rfl⟩
 | [],_,_::_,i,hr,h=>by have:=hr.len;simp at this
 | _::_,_,[],i,hr,h=>by have:=hr.len;simp at this
 | (y,v)::es,iL,e::en,i,hr,h=>by
  obtain⟨ht,hy,hv⟩:=hr.tail;simp only[HV] at h;split at h
  next od=>simp only[bu] at h;subst h;exact .inr ⟨0,e,e.val,by simp[Instr.findNow,yz hk od h1 hy],rfl,zgw (_kd:=kd) od h1 hy _,rfl,by simp⟩
  ·rename_i od;simp only[mA] at h;obtain⟨r,Dr,rfl⟩:=h;rcases zi1 hk h1 h2 (i+1) ht Dr with⟨h3,h4⟩|⟨j,e',cv,h3,h4,h5,h6,h7⟩
   ·exact .inl ⟨by simp[Instr.findNow,yz hk od h1 hy,h3],by simp[h4]⟩
   ·refine .inr ⟨j+1,e',cv,?_,by simpa using h4,h5,by simp[h6],by simp;omega⟩
    simp only[Instr.findNow,yz hk od h1 hy,h3];rw[show i+1+j=i+(j+1) by omega]
  ·cases h
theorem zcE{w:aP}{r:Nat}{o:Obj}{c:Nat}(h:c≠r):({ w with heap:=w.heap.setIfInBounds r o }:aP).heap[c]?=w.heap[c]?:=by
 simp[Ne.symm h]
theorem xh{w:aP}{r:Nat}{o o':Obj}(h:w.heap[r]?=some o'):({ w with heap:=w.heap.setIfInBounds r o }:aP).heap[r]?=some o:=by
 have:=(sH.1 h).1;simp[this]
theorem nP.push{es:List (V×V)}{en:List MapEntry}(h:nP g es en){x:V×V}{e:MapEntry}(h1:aR g x.1 e.key)(h2:aR g x.2 e.val):nP g (es++[x]) (en++[e]):=by
 refine⟨by simp[h.len],λj y f hy hf=>?_⟩
 rcases eI j es.length with hj|hj
 ·rw[fI hj] at hy;rw[fI (by rw[<- h.len];exact hj)] at hf
  exact h.rel j y f hy hf
 ·rw[eM hj] at hy;rw[eM (by rw[<- h.len];exact hj),<- h.len] at hf
  cases hk:j - es.length with
  | zero=>rw[hk] at hy hf;simp at hy hf;subst hy;subst hf;exact⟨h1,h2⟩
  | succ k=>rw[hk] at hy;simp at hy
theorem zbv(h:Rel B g s a w){t:aB}{m k x:aX}{b:Nat}{kv v:V}{es iL:List (V×V)}(hm:ak s.env m=some (.map b))(hk:ak s.env k=some kv)(hx:ak s.env x=some v)(tJ:NQ P t kv=true)
  (hb:s.H.get b=some (.map es)) (hs:HV kv v es=some iL) :
  ∃w',(Instr.mapUpdate t (a.eval m) (a.eval k) (a.eval x)).run P w=.ok () w'/\Rel B g { s with H:=(s.H.set b (.map iL)).bQ b (.br [kv,v]) } a w':=by
 have m1:=(zI h hm).1;obtain⟨k1,k2,_⟩:=zI h hk;obtain⟨v1,v2,_⟩:=zI h hx;generalize Lq:a.eval m=cm at m1;cases m1;obtain⟨en,ck,e1,e2,e3,e4⟩:=xW h hb;unfold NQ at tJ;split at tJ<;>try (cases tJ;done)
 rename_i kt et ht;split at tJ<;>try (cases tJ;done)
 rename_i kd G0;have oq:s.H.au[b]?=some (.map es):=by simpa[Hp.get,zg] using hb
 have ri:∀off,¬D9 B b off:=λoff hl=>by
  obtain⟨cs,t2,sz,xs,c1,_⟩:=h.lV b off hl;rw[oq] at c1;cases c1
 have dy:∀ot:List (V×V),(∀p∈ot,p∈es\/p=(kv,v))->(aT.map ot).top<=max (aT.map es).top (V.br [kv,v]).top:=λot hp=>by
  refine ua.2 ⟨qq λy hy=>?_,qq λy hy=>?_⟩
  ·obtain⟨p,Wb,rfl⟩:=iH.1 hy;rcases hp p Wb with h1|h1
   ·exact cU (zn (HP (f:=(·.1)) h1)) (cU (D4 _ _) (D4 _ _))
   ·subst h1;exact cU (D4 _ _) (HS _ _)
  ·obtain⟨p,Wb,rfl⟩:=iH.1 hy;rcases hp p Wb with h1|h1
   ·exact cU (zn (HP (f:=(·.2)) h1)) (cU (HS _ _) (D4 _ _))
   ·subst h1;simp only[V.top,aI];omega
 have lI:max (aT.map es).top (V.br [kv,v]).top<=s.H.au.length:=ua.2 ⟨ua.2 ⟨e3,e4⟩,by simp only[V.top,aI];omega⟩
 have fin:∀(ot:List (V×V))(Pv:Array MapEntry)(clock:Nat),(∀p∈ot,p∈es\/p=(kv,v))->nP g ot Pv.toList ->
   Rel B g { s with H:=(s.H.set b (.map ot)).bQ b (.br [kv,v]) } a { w with heap:=w.heap.setIfInBounds (g.bO b) (.map Pv clock) }:=λot Pv clock hp Tr=>by
  have:=h.write (l:=s.lk) (b:=b) (x0:=.map es) (x:=.map ot) (v:=.br [kv,v]) (w':={ w with heap:=w.heap.setIfInBounds (g.bO b) (.map Pv clock) }) rfl hb (λc hc=>zcE hc) (by simp) rfl rfl rfl
   ⟨Pv,clock,xh e1,by simpa using Tr.len,λj y e hy he=>Tr.rel j y e hy (by simpa using he)⟩ (cU (dy ot hp) lI) (.inr (.inr (.inr (dy ot hp)))) (λoff hl=>absurd hl (ri off)) h.oB
  exact this
 have hg:(getObj (g.bO b)).run P w=.ok (.map en ck) w:=by simp[getObj,Sem.run,e1]
 have sg:∀o,(setObj (g.bO b) o).run P w=.ok () { w with heap:=w.heap.setIfInBounds (g.bO b) o }:=λo=>by simp[setObj,Sem.run,e1]
 have tP:=zcD (P:=P) G0 tJ k1 false w;rcases zi1 tJ k1 v1 0 e2 hs with⟨h3,h4⟩|⟨j,e,cv,h3,h4,h5,h6,h7⟩
 ·subst h4;refine⟨{ w with heap:=w.heap.setIfInBounds (g.bO b) (.map (en.push { key:=a.eval k,val:=a.eval x,born:=ck }) (ck+1)) },?_,fin _ _ _ (λp hp=>?_) (by simpa using e2.push (x:=(kv,v)) (e:={ key:=a.eval k,val:=a.eval x,born:=ck }) k1 v1)⟩
  ·unfold Instr.mapUpdate;simp[run_underlying ht,hg,tP,Instr.findKey,run_underlying G0,h3,sg]
  ·rcases oM.1 hp with hp|hp
   ·exact .inl hp
   ·exact .inr (by simpa using hp)
 ·subst h6;rw[nI] at h3;have Wc:en[j]?=some e:=by simpa using h4
  have aiU:j<en.size:=(sH.1 Wc).1;refine⟨{ w with heap:=w.heap.setIfInBounds (g.bO b) (.map (en.modify j λe=>{ e with key:=a.eval k,val:=a.eval x }) ck) },?_,fin _ _ _ (λp hp=>List.mem_or_eq_of_mem_set hp) ?_⟩
  ·have uL:(Instr.keyThatStays e.key (a.eval k)).run P w=.ok (a.eval k) w:=by unfold Instr.keyThatStays;simp[h5]
   unfold Instr.mapUpdate;simp[run_underlying ht,hg,tP,Instr.findKey,run_underlying G0,h3,sg,Wc,uL]
  ·refine⟨by simp[e2.len],λi y f hy hf=>?_⟩
   have Fp:(en.modify j λe=>{ e with key:=a.eval k,val:=a.eval x })[i]?=some f:=by rw[<- E9];exact hf
   rw[Array.getElem?_modify] at Fp
   by_cases NZ:j=i
   ·subst NZ;rw[Ct h7] at hy;cases hy;rw[if_pos rfl,Wc] at Fp;simp only[aS,bu] at Fp;subst Fp;exact⟨k1,v1⟩
   ·rw[su NZ] at hy;rw[if_neg NZ] at Fp;exact e2.rel i y f hy (by simpa using Fp)
theorem zj7{l:bL}{pos:Nat}(hl:∀b:Nat,b∈l->b<256)(hp:pos<l.length):Utf8.decode (bytes l) pos=HW (l.drop pos):=by
 have N0:∀k,((bytes l).get! (pos+k)).toNat=(l.drop pos).getD k 0:=by
  intro k;have e1:(bytes l).get! (pos+k)=(bytes l).data[pos+k]!:=by cases l<;>rfl
  rw[e1]
  by_cases hk:pos+k<l.length
  ·have hb:=hl _ (List.getElem_mem hk);simp[bytes,List.getD,hk,UInt8.toNat_ofNat',Fb hb]
  ·simp[bytes,List.getD,uF (by omega:l.length<=pos+k)]
   rfl
 have Pw:∀k,(decide (pos+k<(bytes l).size) && ((bytes l).get! (pos+k)).toNat / 64 == 2)=(Nat.blt k (l.drop pos).length && Nat.beq ((l.drop pos).getD k 0 / 64) 2):=by
  intro k;rw[N0]
  congr 1
  ·rw[kK,List.length_drop,Fc,decide_eq_true_iff,Nat.blt_eq];omega
  ·rw[Fc,beq_iff_eq,Nat.beq_eq]
 have Px:=N0 0;rw[nC] at Px;have Ly:∀k,(decide (pos+k<(bytes l).size) && (l.drop pos).getD k 0 / 64 == 2)=(Nat.blt k (l.drop pos).length && Nat.beq ((l.drop pos).getD k 0 / 64) 2):=λk=>by
  have:=Pw k;rw[N0] at this;exact this
 unfold Utf8.decode HW;simp only[nC,N0,Px,Ly]
theorem zno(h:Rel B g s a w){it:aX}{b pos:Nat}{l:bL}(hi:ak s.env it=some (.ptr b 0))(hb:s.H.get b=some (.iter l pos))(ty:aB) :
  if Nat.blt pos l.length=true then
   ∃cv w',(Instr.next (a.eval it) true ty).run P w=.ok cv w'/\aR g (.br [.bool true,.int .i64 pos,.int .i32 (HW (l.drop pos)).1]) cv/\Rel B g { s with H:=(s.H.set b (.iter l (pos+(HW (l.drop pos)).2))).bQ b .fE } a w'
  else ∃cv,(Instr.next (a.eval it) true ty).run P w=.ok cv w/\aR g (.br [.bool false]) cv:=by
 have i1:=(zI h hi).1;generalize hie:a.eval it=ci at i1;cases i1;have oq:s.H.au[b]?=some (.iter l pos):=by simpa[Hp.get,zg] using hb
 obtain⟨e1,e2⟩:=h.de.ok b _ oq;have hg:(getObj (g.bO b)).run P w=.ok (.stringIter (bytes l) pos) w:=by simp[getObj,Sem.run,e1]
 have sg:∀o,(setObj (g.bO b) o).run P w=.ok () { w with heap:=w.heap.setIfInBounds (g.bO b) o }:=λo=>by simp[setObj,Sem.run,e1]
 have ri:∀off,¬D9 B b off:=λoff hl=>by
  obtain⟨cs,t2,sz,xs,c1,_⟩:=h.lV b off hl;rw[oq] at c1;cases c1
 split
 ·rename_i bR;rw[Nat.blt_eq] at bR;refine⟨.tuple #[.bool true,goInt pos,.int .i32 (HW (l.drop pos)).1],{ w with heap:=w.heap.setIfInBounds (g.bO b) (.stringIter (bytes l) (pos+(HW (l.drop pos)).2)) },?_,?_,?_⟩
  ·unfold Instr.next
   simp[hg,kK,bR,zj7 e2 bR,sg]
  ·refine .br rfl λj x u hx hu=>?_;rcases j with _|_|_|j
   ·simp at hx hu;subst hx;subst hu;exact .bool true
   ·simp at hx hu;subst hx;subst hu;exact .int _ _
   ·simp at hx hu;subst hx;subst hu;exact .int _ _
   ·simp at hx
  ·exact h.write (l:=s.lk) (b:=b) (x0:=.iter l pos) (x:=.iter l (pos+(HW (l.drop pos)).2)) (v:=.fE) (w':={ w with heap:=w.heap.setIfInBounds (g.bO b) (.stringIter (bytes l) (pos+(HW (l.drop pos)).2)) }) rfl hb (λc hc=>zcE hc) (by simp) rfl rfl rfl
    ⟨xh e1,e2⟩ (dU _) (.inl (dU _)) (λoff hl=>absurd hl (ri off)) h.oB
 ·rename_i bR;rw[Nat.blt_eq] at bR;refine⟨.tuple #[.bool false],?_,?_⟩
  ·unfold Instr.next
   simp[hg,kK,bR]
  ·refine .br rfl λj x u hx hu=>?_;rcases j with _|j
   ·simp at hx hu;subst hx;subst hu;exact .bool false
   ·simp at hx
end
section
variable{P:aQ}{B:dY}{g:Gh}{s:St}{a:Act}{w:aP}
theorem w5{t ty e:aB}{n:Nat}(ht:P.underlying t=some (.slice e))(hn:z8 P e=some n)(v:bw)(base:Option Addr)(oV sO:Nat)(hv:v=.slice base oV sO)(hle:oV<=sO)(ad:Option Addr)(c:Nat)(w:aP) :
  (Builtin.append_ #[t,t] ty #[v,.slice ad 0 c]).run P w=.ok v w:=by
 subst hv;simp only[z8,mA] at hn;obtain⟨i,hi,rfl⟩:=hn;cases ad<;>cases base<;>simp[Builtin.append_,run_underlying ht,sizeOf,typeInfo,hi,Builtin.lenOf,Builtin.firstCells,hle,loadCells,loadCellsFrom,Go.storeCells]
def Gh.grown(g:Gh)(c:Nat)(vs:dA)(l:Option Loc):Gh :=
 {g with M:=λc' o=>if c'=c then vs[o]? else g.M c' o,own:=λc'=>if c'=c then l else g.own c' }
theorem Rel.Ij(h:Rel B g s a w){c:Nat}{t0:Nat}(N1:s.env.length<=t0)(Py:t0<=s.env.length)(iK:g.own c=some (.slot B.d t0))(hc:c<w.heap.size)(vs:dA)(l:Option Loc){w':aP}
  (hold:∀c',c'≠c->w'.heap[c']?=w.heap[c']?) (fK:w'.heap.size=w.heap.size) (dL:∀o v,vs[o]?=some v->w'.cell? ⟨c,o,none⟩=some v) (Ik:∀o v,g.M c o=some v->vs[o]?=some v)
  (pP:w'.os=w.os) (ht:w'.tape=w.tape) (nQ:w'.output=w.output):Rel B (g.grown c vs l) s a w':=by
 have b_:∀c',(∀l',some (Loc.slot B.d t0)=some l'->g.own c'≠some l')->c'≠c:=λc' h' e=>h' _ rfl (e ▸ iK);have aiX:∀b,b<s.H.au.length->g.bO b≠c:=λb hb e=>by
  have:=h.de.dj b hb;rw[e,iK] at this;cases this
 refine h.lE (b0:=none) (l0:=some (.slot B.d t0)) ?_ (dB _) (λ_ _ _=>rfl) (λb x hb hx=>?_) (λb h1 h2=>?_) (λb b' h1 h2=>?_) (λc' o v hv=>?_) (λc' l' ey=>?_) (λb j e=>by cases e) rfl rfl
  (λt x hx=>⟨x,hx,.inl ⟨rfl,λe=>?_⟩⟩) h.bC h.lV h.oB (λt e=>by cases e;exact Py)
 ·refine⟨⟨λc' o v hv=>?_,λ_ _=>rfl,rfl,λ_ _ _ _ e=>e⟩,λc' _ _ h2=>hold c' (b_ c' h2),λc' _ h2=>?_,λc' _ h2 o=>?_,by omega,λ_ _ _=>rfl,λl' mU=>?_,λb hb=>(by cases hb),λ_ _ _ _=>rfl,pP,ht,nQ⟩
  ·simp only[Gh.grown];split
   next e=>subst e;exact Ik o v hv
   ·exact hv
  ·simp only[Gh.grown];rw[if_neg (b_ c' h2)]
  ·simp only[Gh.grown];rw[if_neg (b_ c' h2)]
  ·cases mU;exact .inl ⟨t0,rfl⟩
 ·rcases hb with hb|hb
  ·cases hb
  ·have:=(cP.1 hx).1;omega
 ·omega
 ·omega
 ·simp only[Gh.grown] at hv;split at hv
  next e=>subst e;exact dL o v hv
  next e=>rw[yA (hold c' e)];exact h.de.mem c' o v hv
 ·simp only[Gh.grown] at ey;split at ey
  next e=>omega
  ·have:=h.de.eo c' l' ey;omega
 ·cases e;have:=(cP.1 hx).1;omega
end
section
variable{P:aQ}{B:dY}{g:Gh}{s:St}{a:Act}{w:aP}
theorem zeG(h:Rel B g s a w){e sz:Nat}{xs:aC}{ow:tG}{cv:bw}{vs:dA}(hr:aR g (.sl sz xs ow) cv)(ho:rowAt w e sz cv xs.length vs):bN g (zw xs) vs:=by
 cases hr with
 | sl f h1 h2 h3 h4 h5 h6 =>
  rename_i ad cap c o;refine⟨by rw[qK h1,ho.1],h4,λj x v hx hv=>?_⟩
  have b_:xs≠[]:=by rintro rfl;simp[zw] at hx
  have e1:=h3 b_;subst e1;have:=ho.cells j v hv;rw[h.de.mem _ _ _ (h5 j x hx)] at this;cases this;exact h6 j x hx
theorem Gh.Lz(n:Nat){g:Gh}{w:aP}(hm:∀c o v,g.M c o=some v->w.cell? ⟨c,o,none⟩=some v)(vs:dA)(l:Option Loc):Gh.Le n g (g.row w.heap.size vs l):=by
 refine⟨λc o v hv=>?_,λ_ _=>rfl,rfl,λ_ _ _ _ e=>e⟩;have:=vo (hm c o v hv);simp only[Gh.row];rw[if_neg (by omega)]
 exact hv
theorem zgx(h:Rel B g s a w){e sz:Nat}{z:bw}{zs:aC}{vs:dA}(EO:∀y:V,y∈zs->y.cells.length=sz)(ek:bN g (zw zs) vs)(ht:aI zs<=s.H.au.length)(hz:z.cells.size=sz)(LA:zs.length<=maxLen)(old:Nat)(l:Loc){arr:dF}(ny:arr.toList=vs) :
  ∃g',Rel B g' s a (w.drew.alloc (.cells (arr++Builtin.zeroCells z.cells (grownCap w zs.length old e - zs.length)) e))/\aR g' (.sl sz zs (.yes e)) (.slice (some ⟨w.heap.size,0,none⟩) zs.length (grownCap w zs.length old e)) /\
   fT g' s.H.au.length (w.drew.alloc (.cells (arr++Builtin.zeroCells z.cells (grownCap w zs.length old e - zs.length)) e)) l e sz zs.length (.slice (some ⟨w.heap.size,0,none⟩) zs.length (grownCap w zs.length old e)):=by
 have hlen:vs.length=zs.length * sz:=by rw[<- ek.len,qK EO]
 have oo:arr.size=zs.length * sz:=by rw[<- hlen,<- ny];simp
 have Aa:=grownCap_ge w zs.length old e;generalize nw:grownCap w zs.length old e=cap at Aa ⊢;have pH:cap<=maxLen:=by rw[<- nw];exact grownCap_le_maxLen w _ old e LA
 generalize lI:arr++Builtin.zeroCells z.cells (cap - zs.length)=cur;have eu:(w.drew.alloc (.cells cur e)).heap[w.heap.size]?=some (.cells cur e (0,0)):=heap_alloc_new w.drew _;have dL:∀o v,vs[o]?=some v->(w.drew.alloc (.cells cur e)).cell? ⟨w.heap.size,o,none⟩=some v:=λo v hv=>by
  rw[cell_of_row _ _ _ cur _ _ eu,<- lI];have ho:o<arr.size:=by rw[oo,<- hlen];exact(cP.1 hv).1
  rw[Array.getElem?_append_left ho,<- E9,ny];exact hv
 have hR:=h.settle vs (some l) (w':=w.drew.alloc (.cells cur e)) (by simp) (λc hc=>Go.heap_alloc_old w.drew _ hc) dL rfl rfl rfl
 refine⟨_,hR,aR.settled (n:=s.H.au.length) EO Aa ek (cU yl ht) (Gh.Lz _ h.de.mem _ _),vs,⟨hlen,.inr ⟨w.heap.size,0,cap,cur,rfl,eu,Aa,pH,.inr ?_,?_⟩⟩,λc hc=>?_⟩
 ·rw[<- lI,Array.size_append,oo,size_zeroCells,hz,<- t_,nI];congr 1;omega
 ·rw[iW,<- lI,Array.toList_append,List.take_append_of_le_length (by simp;omega),ny]
  exact rM (by omega)
 ·simp only[Value.ownBlock,bu] at hc;subst hc;refine⟨by simp[Gh.row],λo ho _=>?_,λb hb e=>?_⟩
  ·simp only[Gh.row,aF];simp only at ho;exact uF (by omega)
  ·have:=h.de.lt b hb;simp only[Gh.row] at e;omega
theorem bN.append{xs ys:aC}{vs news:dA}(hold:bN g (zw xs) vs)(ek:bN g (zw ys) news):bN g (zw (xs++ys)) (vs++news):=by
 simp only[zw,List.flatMap_append] at *;refine⟨by simp only[aV,hold.len,ek.len],λj x hx=>?_,λj x v hx lX=>?_⟩
 ·rcases eI j (xs.flatMap V.cells).length with h1|h1
  ·rw[fI h1] at hx;exact hold.one j x hx
  ·rw[eM h1] at hx;exact ek.one _ x hx
 ·rcases eI j (xs.flatMap V.cells).length with h1|h1
  ·rw[fI h1] at hx;rw[fI (by rw[<- hold.len];exact h1)] at lX
   exact hold.rel j x v hx lX
  ·rw[eM h1] at hx;rw[eM (by rw[<- hold.len];exact h1),<- hold.len] at lX
   exact ek.rel _ x v hx lX
theorem zhW(h:Rel B g s a w){e sz:Nat}{xs ys:aC}{news:dA}{cv:bw}(hv:aR g (.sl sz xs (.yes e)) cv){t0:Nat}(N1:s.env.length<=t0)(Py:t0<=s.env.length)(ho:fT g s.H.au.length w (.slot B.d t0) e sz xs.length cv)
  (EO:∀y:V,y∈xs++ys->y.cells.length=sz) (ek:bN g (zw ys) news) (ht:aI (xs++ys)<=s.H.au.length) (l:Loc) {c o cap:Nat} {cur:dF} (lf:cv=.slice (some ⟨c,o,none⟩) xs.length cap)
  (lI:w.heap[c]?=some (.cells cur e (0,0))) (fW:xs.length+ys.length<=cap) (b_:ys≠[]) :
  ∃g',Rel B g' s a (w.setRow c (cur.toList.take (o+xs.length * sz)++news++cur.toList.drop (o+xs.length * sz+news.length)).toArray)/\aR g' (.sl sz (xs++ys) (.yes e)) (.slice (some ⟨c,o,none⟩) (xs.length+ys.length) cap) /\
   fT g' s.H.au.length (w.setRow c (cur.toList.take (o+xs.length * sz)++news++cur.toList.drop (o+xs.length * sz+news.length)).toArray) l e sz (xs.length+ys.length) (.slice (some ⟨c,o,none⟩) (xs.length+ys.length) cap):=by
 subst lf;obtain⟨vs,Ts,N2⟩:=ho;have hold:=zeG h hv Ts;obtain⟨Ch,ho3⟩:=Ts;rcases ho3 with⟨e2,_⟩|⟨c',o',oR,ai0,e2,sx,hn,pH,fK,Pz⟩
 ·cases e2
 cases e2;rw[lI] at sx;cases sx;obtain⟨Wd,We,Wg⟩:=N2 c rfl;have hyl:0<ys.length:=K_.2 b_;have fK:cur.size=o+cap * sz:=by rcases fK with h|h;omega;exact h
 have lH:news.length=ys.length * sz:=by rw[<- ek.len,qK λy hy=>EO y (Ba _ hy)]
 have Il:xs.length * sz+ys.length * sz<=cap * sz:=by rw[<- t_];exact K9 _ fW
 have gE:cur.toList.length=cur.size:=AM;have Ie:(cur.toList.take (o+xs.length * sz)).length=o+xs.length * sz:=by rw[uJ];omega
 have gH:cur.toList.take (o+xs.length * sz)=cur.toList.take o++vs:=by rw[<- Pz,List.take_add]
 generalize CH:cur.toList.take (o+xs.length * sz)++news++cur.toList.drop (o+xs.length * sz+news.length)=L;have bR:c<w.heap.size:=(sH.1 lI).1;have eu:(w.setRow c L.toArray).heap[c]?=some (.cells L.toArray e (0,0)):=setRow_heap w c _ _ _ _ lI;have sP:∀c',c'≠c->(w.setRow c L.toArray).heap[c']?=w.heap[c']?:=λc' b_=>setRow_other w c c' _ b_
 have oD:(w.setRow c L.toArray).heap.size=w.heap.size:=setRow_size w c _;generalize hF:cur.toList.take (o+xs.length * sz)++news=F at CH;have dL:∀k v,F[k]?=some v->(w.setRow c L.toArray).cell? ⟨c,k,none⟩=some v:=λk v lX=>by
  rw[cell_of_row _ _ _ _ _ _ eu,List.getElem?_toArray,<- CH,fI (cP.1 lX).1];exact lX
 have Ik:∀k v,g.M c k=some v->F[k]?=some v:=λk v hm=>by
  have:=h.de.mem _ _ _ hm;rw[cell_of_row w _ _ _ _ _ lI] at this;have hk:k<cur.size:=(sH.1 this).1;have bR:k<o+xs.length * sz:=by
   rcases eI k (o+xs.length * sz) with h1|h1
   ·exact h1
   ·rw[We k h1 (by simp only;omega)] at hm;cases hm
  rw[<- hF,fI (by rw[Ie];exact bR),AN,if_pos bR]
  simpa using this
 have hR:=h.Ij N1 Py Wd bR F (some l) sP oD dL Ik rfl rfl rfl
 have hle:Gh.Le s.H.au.length g (g.grown c F (some l)):=⟨λc' o v hm=>by
  simp only[Gh.grown];split
  next e=>subst e;exact Ik o v hm
  ·exact hm,λ_ _=>rfl,rfl,λ_ _ _ _ e=>e⟩
 have dH:bN g (zw (xs++ys)) (vs++news):=hold.append ek;have hFl:F.length=o+xs.length * sz+news.length:=by rw[<- hF,aV,Ie]
 have Eg:(cur.toList.take o).length=o:=by rw[uJ];omega
 have hFo:∀j,F[o+j]?=(vs++news)[j]?:=λj=>by
  rw[<- hF,gH,aY,eM (by omega),Eg,E8]
 refine⟨_,hR,?_,vs++news,⟨by rw[aV,Ch,lH,t_],.inr ⟨c,o,cap,L.toArray,rfl,eu,fW,pH,.inr ?_,?_⟩⟩,λc' ey=>?_⟩
 ·rw[show xs.length+ys.length=(xs++ys).length by simp]
  refine .sl (c:=c) (o:=o) (λj=>(vs++news).getD j .nilFunc) EO (by simpa using fW) (λ_=>rfl) dH.one (λj x hj=>?_) (λj x hj=>?_)
  ·obtain⟨v,lX,_⟩:=dH.get hj;simp[Gh.grown,hFo,lX,List.getD]
  ·obtain⟨v,lX,hr⟩:=dH.get hj;have:=hr.le hle (cU (zn (zv hj)) (cU yl ht));simpa[List.getD,lX] using this
 ·rw[<- fK];simp only[List.size_toArray,<- CH,aV,hFl,List.length_drop,AM];omega
 ·rw[t_,<- lH,<- Ch];simp only[<- CH,<- hF,gH];rw[aY,aY,List.drop_append_of_le_length (by omega),List.drop_of_length_le (by omega),bg,<- aY,List.take_append_of_le_length (by simp)]
  exact rM (by simp)
 ·simp only[Value.ownBlock,bu] at ey;subst ey;refine⟨by simp[Gh.grown],λj ho _=>?_,λb hb e=>Wg b hb e⟩
  simp only[Gh.grown,aF];simp only[t_] at ho;exact uF (by rw[hFl,lH];omega)
end
section
variable{P:aQ}{B:dY}{g:Gh}{s:St}{a:Act}{w:aP}
theorem Wh{e:aB}{n:Nat}{i:TypeInfo}(hn:z8 P e=some n)(hi:P.info? e=some i):i.size=n:=by
 simpa[z8,hi] using hn
theorem aR.Fq{sz:Nat}{xs:aC}{ow:tG}{cv:bw}(h:aR g (.sl sz xs ow) cv):∃base cap,cv=.slice base xs.length cap/\xs.length<=cap:=by
 cases h;exact⟨_,_,rfl,by assumption⟩
theorem aR.pR{cv:bw}(h:aR g .aG cv):cv=.slice none 0 0:=by
 cases h;rfl
theorem zce{w:aP}(t ty e:aB)(i:TypeInfo)(ht:P.underlying t=some (.slice e))(hi:P.info? e=some i)
  (g o oV sO:Nat) (cur:dF) (hg:w.heap[g]?=some (.cells cur e (0,0)))
  (a:Addr) (m c:Nat) (news:dA) (hl:news.length=m * i.size) (PA:∀j u,news[j]?=some u->w.cell? (a.add j)=some u) (h1:∀u∈news,u.oneCell'=true)
  (fW:oV+m<=sO) (Im:o+oV * i.size+news.length<=cur.size) :
  (Builtin.append_ #[t,t] ty #[.slice (some ⟨g,o,none⟩) oV sO,.slice (some a) m c]).run P w =
   .ok (.slice (some ⟨g,o,none⟩) (oV+m) sO) (w.setRow g (cur.toList.take (o+oV * i.size)++news++cur.toList.drop (o+oV * i.size+news.length)).toArray):=by
 have hf:=run_firstCells_some (P:=P) w i.size m a m c news hl PA;have fe:=run_storeCells_at P g (o+oV * i.size) e news 0 cur w hg (by simpa using Im) h1
 simp only[nC] at fe;simp[Builtin.append_,run_underlying ht,sizeOf,typeInfo,hi,Builtin.lenOf,fW,hf,Addr.add_lit,fe]
theorem zj8(h:Rel B g s a w){t ty:aB}{x y:aX}{yv v r:V}{cZ:aC}
  (hy:ak s.env y=some yv) (hx:take s.env x=some (v,cZ)) (hr:kf P s.H t v yv=some r) (l0:Nat) :
  ∃g' cv w',(Builtin.append_ #[t,t] ty #[a.eval x,a.eval y]).run P w=.ok cv w'/\Rel B g' { s with env:=cZ } a w'/\aR g' r cv/\cN g' s.H.au.length w' (.slot B.d l0) r cv/\r.top<=s.H.au.length:=by
 obtain⟨y1,y3,_⟩:=zI h hy;unfold kf at hr;simp only[Option.bind_eq_bind,eL] at hr;obtain⟨td,ht,hr⟩:=hr;split at hr<;>try (cases hr;done)
 rename_i e;simp only[eL] at hr;obtain⟨n,hn,i,hi,z,hz,hr⟩:=hr;have ug:=Wh hn hi;split at hr<;>try (cases hr;done)
 rename_i Wi;have EO:z.cells.size=n:=eR (by simpa using Wi)
 simp only[eL] at hr;obtain⟨ys,tH,hr⟩:=hr;have PC:=ym h hn tH y1 y3
 by_cases b_:ys=[]
 ·subst b_;obtain⟨ad,cap,oe,_⟩:=PC.form;obtain⟨g1,h1,v1,v2,v3,sM⟩:=vH h hx (.slot B.d l0);have hzero:∃base oV sO,a.eval x=.slice base oV sO/\oV<=sO/\aR g1 r (a.eval x)/\cN g1 s.H.au.length w (.slot B.d l0) r (a.eval x)/\r.top<=s.H.au.length:=by
   split at hr
   ·simp only[bu] at hr;subst hr;have e:=v1.pR;exact⟨_,_,_,e,dB _,v1,trivial,dU _⟩
   ·split at hr<;>simp only[bu,reduceCtorEq] at hr;rename_i hc;simp only[ei] at hc;have e1:=eR hc.1.1.1;have e2:=eR hc.1.1.2;subst e1;subst e2;subst hr;simp only[mT];obtain⟨base,cap,f1,f2⟩:=v1.Fq;exact⟨_,_,_,f1,f2,v1,v2,v3⟩
   ·cases hr
  obtain⟨base,oV,sO,e1,e2,r1,r2,r3⟩:=hzero;refine⟨g1,a.eval x,w,?_,h1,r1,r2,r3⟩;rw[oe];have:=w5 (P:=P) (ty:=ty) ht hn (a.eval x) base oV sO e1 e2 ad cap w;exact this
 ·obtain⟨g1,h1,v1,v2,v3,sM⟩:=vH h hx (.slot B.d s.env.length);have gG:=ym h1 (s:={ s with env:=cZ }) hn tH (sM.rel y1) y3;obtain⟨ad,cy,oe,lG⟩:=gG.form;obtain⟨a0,news,rfl,ek,gI⟩:=lG b_;have si:0<ys.length:=K_.2 b_;have lH:news.length=ys.length * i.size:=by rw[<- ek.len,qK gG.sized,ug]
  have pQ:∀u∈news,u.oneCell'=true:=λu hu=>by
   obtain⟨j,hj⟩:=List.getElem?_of_mem hu;have pN:j<(zw ys).length:=by rw[ek.len];exact(cP.1 hj).1
   have hx:=fQ pN;exact(ek.rel j _ u hx hj).n_ (ek.one j _ hx)
  have ry:∀m,kA m i.bytes=true->m<=maxLen/\m * i.bytes<=140737488355328:=λm hm=>by
   simp only[kA,ei] at hm;exact⟨by have:=r8 hm.1;simp only[maxLen];omega,r8 hm.2⟩
  have lC:({ s with env:=cZ }:St).env.length<=s.env.length:=by
   rw[h1.len,h.len];exact dB _
  have PD:s.env.length<=({ s with env:=cZ }:St).env.length:=by
   rw[h1.len,h.len];exact dB _
  have fresh:∀(zs:aC),zs=ys->a.eval x=.slice none 0 0->kA ys.length i.bytes=true->r=.sl n ys (.yes e) ->
    ∃g' cv w',(Builtin.append_ #[t,t] ty #[a.eval x,a.eval y]).run P w=.ok cv w'/\Rel B g' { s with env:=cZ } a w'/\aR g' r cv/\cN g' s.H.au.length w' (.slot B.d l0) r cv/\r.top<=s.H.au.length:=by
   intro _ _ JN Eh er;obtain⟨m1,m2⟩:=ry _ Eh;obtain⟨g2,k1,k2,k3⟩:=zgx h1 (e:=e) (sz:=n) (z:=z) gG.sized ek gG.aI EO m1 0 (.slot B.d l0) (arr:=news.toArray) (by simp)
   refine⟨g2,_,_,?_,k1,by rw[er];exact k2,by rw[er];exact k3,by rw[er];exact gG.aI⟩
   rw[JN,oe];exact run_append_nil (P:=P) w t ty e i z ht hi hz a0 ys.length cy news lH gI si (by simp only[maxLen] at m1;omega) (by omega)
  split at hr
  ·split at hr
   ·exact absurd rfl b_
   ·split at hr<;>simp only[bu,reduceCtorEq] at hr;rename_i hc;simp only[ei] at hc;have JN:a.eval x=.slice none 0 0:=v1.pR;exact fresh ys rfl JN hc.1 hr.symm
  ·split at hr<;>simp only[bu,reduceCtorEq] at hr;rename_i sz xs e' hc;simp only[ei] at hc;have e1:=eR hc.1.1.1;have e2:=eR hc.1.1.2;subst e1;subst e2;obtain⟨m1,m2⟩:=ry _ hc.2;have iK:fT g1 s.H.au.length w (.slot B.d s.env.length) e n xs.length (a.eval x):=v2;obtain⟨vs,ho,_⟩:=id iK;have hold:=zeG h1 v1 ho;have pG:∀y:V,y∈xs->y.cells.length=n:=by
    generalize a.eval x=c at v1;cases v1;assumption
   have dH:∀y:V,y∈xs++ys->y.cells.length=n:=λy hy=>(oM.1 hy).elim (pG y) (gG.sized y);have uK:aI (xs++ys)<=s.H.au.length:=qq λy hy=>(oM.1 hy).elim (λh=>cU (zn h) v3) (λh=>cU (zn h) gG.aI);rcases id ho with⟨Ch,⟨e3,e4⟩|⟨c,o,cap,cur,e3,lI,hle,pH,rz,mH⟩⟩
   ·have G1:xs=[]:=K6.1 e4;subst G1;exact fresh ys rfl e3 (by simpa using hc.2) (by simpa using hr.symm)
   ·by_cases Fs:xs.length+ys.length<=cap
    ·obtain⟨g2,k1,k2,k3⟩:=zhW h1 v1 lC PD iK dH ek uK (.slot B.d l0) e3 lI Fs b_;refine⟨g2,_,_,?_,k1,by rw[<- hr];exact k2,by rw[<- hr];simpa[cN] using k3,by rw[<- hr];exact uK⟩
     rw[e3,oe];have rz:cur.size=o+cap * n:=by rcases rz with h|h;omega;exact h
     have:=zce (P:=P) (w:=w) t ty e i ht hi c o xs.length cap cur lI a0 ys.length cy news lH gI pQ Fs (by rw[lH,ug,rz,oO,<- t_];exact Nat.add_le_add_left (K9 _ Fs) _)
     rw[ug] at this;exact this
    ·have PF:bN g1 (zw (xs++ys)) (vs++news):=hold.append ek;obtain⟨g2,k1,k2,k3⟩:=zgx h1 (e:=e) (sz:=n) (z:=z) dH PF uK EO (by simpa using m1) cap (.slot B.d l0) (arr:=vs.toArray++news.toArray) (by simp)
     simp only[aV] at k1 k2 k3;refine⟨g2,_,_,?_,k1,by rw[<- hr];exact k2,by rw[<- hr];simpa[cN] using k3,by rw[<- hr];exact uK⟩
     rw[e3,oe];exact run_append_grow (P:=P) w t ty e i z ht hi hz ⟨c,o,none⟩ xs.length cap vs (by rw[Ch,ug]) (λj u hu=>by rw[Addr.add_lit];exact(show rowAt w e n (.slice (some ⟨c,o,none⟩) xs.length cap) xs.length vs from e3 ▸ ho).cells j u hu) a0 ys.length cy news lH gI (by omega) (by simp only[maxLen] at m1;omega) (growslice_fits (by omega) m2)
  ·cases hr
end
section
variable{P:aQ}{B:dY}{g:Gh}{s:St}{a:Act}{w:aP}
def ff(P:aQ)(B:dY)(s':St)(a:Act)(w:aP)(o:Oper)(v:V):Prop :=
 ∃g' cv w',(execOp a.eval o).run P w=.ok (.value cv) w'/\Ed B g' s' a w' o.dst v cv
theorem zhX{w:aP}{c:Nat}{cs:dF}{t:aB}(h:w.heap[c]?=some (.cells cs t (0,0)))(k:Nat):(w.freeze { block:=c,off:=cs.size } 1).heap[k]?=if k=c then some (.cells cs t (cs.size,cs.size+1)) else w.heap[k]?:=by
 unfold World.freeze;simp only[Nat.one_ne_zero,bz,Array.getElem?_modify]
 by_cases hk:k=c
 ·subst hk;simp[h]
 ·simp[hk,Ne.symm hk]
theorem zev{P:aQ}{t e:aB}{w:aP}{c o len cap:Nat}{cs:dF}{et:aB}(hs:P.underlying t=some (.slice e))(h8:P.underlying e=some (.int .u8))(h:w.heap[c]?=some (.cells cs et (0,0))) :
  (convert t t (.slice (some ⟨c,o,none⟩) len cap)).run P w=.ok (.slice (some ⟨c,o,none⟩) len cap) (w.freeze { block:=c,off:=cs.size } 1):=by
 have hsh:w.shape? c=some (et,cs.size):=by simp[World.shape?,h]
 simp[convert,run_underlying hs,run_underlying h8,markStringish,shape,freeze,Sem.run,hsh]
theorem znp(h:Rel B g s a w){src dst:aB}{x:aX}{o:Oper}{v:V}{cZ:aC}(hm:yb P src dst x s.env=some (v,cZ))(ho:o.op=.convert src dst x):ff P B { s with env:=cZ } a w o v:=by
 unfold yb at hm;split at hm<;>try (cases hm;done)
 rename_i e Tt hs;have Wj:=eR Tt;subst Wj;split at hm<;>simp only[bu,reduceCtorEq,cw] at hm;rename_i sz y ys e' cM h8 ht;obtain⟨rfl,rfl⟩:=hm;obtain⟨g',k1,k2,k3,k4,_⟩:=vH h ht (.slot B.d s.env.length);have hlen:cM.length=s.env.length:=by
  have:=k1.len.trans h.len.symm;simpa using this
 have Wk:fT g' s.H.au.length w (.slot B.d s.env.length) e' sz (y::ys).length (a.eval x):=k3;obtain⟨vs,⟨_,bZ⟩,iK⟩:=Wk;rcases bZ with⟨_,h0⟩|⟨c,ro,cap,cur,lf,hc,_⟩
 ·simp at h0
 obtain⟨o1,o2,o3⟩:=iK c (by rw[lf];rfl)
 rw[lf] at k2;have cQ:=zhX hc;have dL:∀ad,(w.freeze { block:=c,off:=cur.size } 1).cell? ad=w.cell? ad:=λad=>by
  simp only[World.cell?,cQ]
  by_cases e0:ad.block=c
  ·rw[if_pos e0,e0,hc]
  ·rw[if_neg e0]
 have oD:(w.freeze { block:=c,off:=cur.size } 1).heap.size=w.heap.size:=by simp[World.freeze]
 have hle:Gh.Le s.H.au.length g' { g' with own:=λk=>if k=c then none else g'.own k }:=⟨λ_ _ _ h=>h,λ_ _=>rfl,rfl,λ_ _ _ _ h=>h⟩
 have iR:gV B.d none (some (.slot B.d s.env.length)) s.H.au.length g' w { g' with own:=λk=>if k=c then none else g'.own k } (w.freeze { block:=c,off:=cur.size } 1):=by
  refine⟨hle,λk _ _ hk=>?_,λk _ hk=>?_,λ_ _ _ _=>rfl,by rw[oD];exact dB _,λ_ _ _=>rfl,λl hl=>.inl ⟨_,(D5 hl).symm⟩,λb hb=>(by cases hb),λ_ _ _ _=>rfl,rfl,rfl,rfl⟩
  ·have b_:¬k=c:=λe0=>hk _ rfl (by rw[e0];exact o1)
   rw[cQ,if_neg b_]
  ·have b_:¬k=c:=λe0=>hk _ rfl (by rw[e0];exact o1)
   simp only;rw[if_neg b_]
 refine⟨{ g' with own:=λk=>if k=c then none else g'.own k },.slice (some ⟨c,ro,none⟩) (y::ys).length cap,w.freeze { block:=c,off:=cur.size } 1,?_,?_,?_,λ_ _=>trivial,k4⟩
 ·simp only[execOp,ho,lf,Sem.run_bind,zev hs h8 hc,Result.andThen_ok,Sem.run_pure]
 ·refine k1.lE (b0:=none) (l0:=some (.slot B.d s.env.length)) iR (dB _) (λ_ _ _=>rfl) (λb x hb hx=>?_) (λb h1 h2=>?_) (λb b' h1 h2=>?_) (λc' o' v' lX=>?_) (λc' l hl=>?_) (λb j e0=>by cases e0) rfl rfl (λt x hx=>⟨x,hx,.inl ⟨rfl,λe0=>?_⟩⟩) k1.bC k1.lV k1.oB (λt e0=>?_)
  ·rcases hb with hb|hb
   ·cases hb
   ·exact absurd (cP.1 hx).1 (Nat.not_lt.2 hb)
  ·exact absurd h2 (Nat.not_lt.2 h1)
  ·exact absurd h2 (Nat.not_lt.2 h1)
  ·rw[dL];exact k1.de.mem c' o' v' lX
  ·simp only at hl;rw[oD];split at hl
   ·cases hl
   ·exact k1.de.eo c' l hl
  ·simp only[bu,Loc.slot.injEq,lU] at e0;have:=(cP.1 hx).1;simp only at this;omega
  ·simp only[bu,Loc.slot.injEq,lU] at e0;simp only;omega
 ·exact(k2.le hle k4).aW
def oW(P:aQ)(B:dY)(s':St)(a:Act)(w:aP)(o:Oper):Prop :=
 ∃g' w',(execOp a.eval o).run P w=.ok .skip w'/\Rel B g' s' a w'
theorem Wl(g:Gh)(n N:Nat):aR (g.var n N) (.ptr n 0) (.pointer (some ⟨N,0,none⟩)):=by
 have:=aR.ptr (g:=g.var n N) n 0;simpa[Gh.var] using this
theorem zk8(h:Rel B g s a w){t:aB}{z:V}(hz:qP P t=some z)(hc:dD z=true){o:Oper}(ho:o.op=.alloc t) :
  ff P B { s with H:=s.H.push (.cells z.cells t) } a w o (.ptr s.H.au.length 0):=by
 obtain⟨cz,z1,z2,z3,_,z5⟩:=yy (g:=g) hz w;have ek:=vq z2 hc
 have lH:=λx hx=>xX (v:=cz) (z:=z) (by
  simp only[qP,eL] at hz;obtain⟨i,hi,zz,NY,hv⟩:=hz;simp only[hi,aU] at z5
  rw[NY] at z5;cases z5;exact hv) x hx
 refine⟨g.var s.H.au.length w.heap.size,.pointer (some ⟨w.heap.size,0,none⟩),w.alloc (.cells cz.cells t),?_,?_,?_,λ_ _=>trivial,?_⟩
 ·simp[execOp,ho,Instr.alloc,z1,newVar,newRow]
 ·refine h.ru ek (qq λx hx=>cU (Tg hx) (by omega)) λj x v hx hv=>⟨?_,λsz xs e=>lH x (zv hx) _ _ _ e⟩
  cases x with
  | sl sz xs o=>exact absurd rfl (lH _ (zv hx) sz xs o)
  | _=>trivial
 ·exact Wl _ _ _
 ·simp[V.top,Hp.push]
theorem zpp(h:Rel B g s a w){t:aB}{x:aX}{v:V}{cZ:aC}(ht:take s.env x=some (v,cZ))(hc:dD v=true){o:Oper}(ho:o.op=.box t x) :
  ff P B { s with env:=cZ,H:=s.H.push (.cells v.laid t) } a w o (.ptr s.H.au.length 0):=by
 obtain⟨g',h1,v1,v2,v3,sM⟩:=vH h ht (.cell s.H.au.length 0);obtain⟨l1,l2,l3⟩:=V9 v1 hc v2 (yZ ht) v3;refine⟨g'.var s.H.au.length w.heap.size,.pointer (some ⟨w.heap.size,0,none⟩),w.alloc (.cells (a.eval x).cells t),?_,?_,?_,λ_ _=>trivial,?_⟩
 ·simp[execOp,ho,Instr.box,newVar,newRow]
 ·exact h1.ru l1 l2 λj y u hy hu=>by have:=l3 j y u hy hu;rw[nI] at this;exact this
 ·exact Wl _ _ _
 ·simp[V.top,Hp.push]
theorem zhY(h:Rel B g s a w){t:aB}{o:Oper}(ho:o.op=.makeMap t none):ff P B { s with H:=s.H.push (.map []) } a w o (.map s.H.au.length):=by
 have hv:(g.var s.H.au.length w.heap.size).bO s.H.au.length=w.heap.size:=by simp[Gh.var]
 refine⟨g.var s.H.au.length w.heap.size,.map (some w.heap.size),w.alloc (.map #[] 0),?_,?_,?_,λ_ _=>trivial,?_⟩
 ·simp[execOp,ho,Instr.makeMap]
 ·refine h.push (.map []) rfl rfl rfl rfl ⟨#[],0,?_,rfl,λj x me hx=>by simp at hx⟩ (by simp[aT.top,aI])
  rw[hv];exact V8 (w':=w.alloc (.map #[] 0)) rfl
 ·have:=aR.map (g:=g.var s.H.au.length w.heap.size) s.H.au.length;rw[hv] at this;exact this
 ·simp[V.top,Hp.push]
theorem zk9(h:Rel B g s a w){t:aB}{x:aX}{l:bL}(ht:P.underlying t=some .string)(hx:ak s.env x=some (.str l)){o:Oper}(ho:o.op=.range t x) :
  ff P B { s with H:=s.H.push (.iter l 0) } a w o (.ptr s.H.au.length 0):=by
 have x1:=(zI h hx).1;generalize JO:a.eval x=cx at x1;cases x1 with
 | str hl =>
  have hv:(g.var s.H.au.length w.heap.size).bO s.H.au.length=w.heap.size:=by simp[Gh.var]
  refine⟨g.var s.H.au.length w.heap.size,.pointer (some ⟨w.heap.size,0,none⟩),w.alloc (.stringIter (bytes l) 0),?_,?_,?_,λ_ _=>trivial,?_⟩
  ·simp[execOp,ho,Instr.range,JO,run_underlying ht]
  ·refine h.push (.iter l 0) rfl rfl rfl rfl ⟨?_,hl⟩ (by simp[aT.top])
   rw[hv];exact V8 (w':=w.alloc (.stringIter (bytes l) 0)) rfl
  ·exact Wl _ _ _
  ·simp[V.top,Hp.push]
theorem zla{n:Nat}{z:V}{cz:bw}(hz:aR g z cz)(eE:dD z=true)(hl:z.cells.length=n)(hn:n≠0)(len:Nat):bN g (zw (List.replicate len z)) (madeCells cz.cells (len * n)).toList:=by
 have Cg:=vq hz eE;have Fl:cz.cells.size=n:=by rw[<- hl,Cg.len];simp
 have oc:(zw (List.replicate len z)).length=len * n:=by rw[qK (sz:=n) λy hy=>by rw[(List.mem_replicate.1 hy).2];exact hl];simp
 refine⟨by rw[oc];simp[madeCells],λj x hx=>?_,λj x v hx hv=>?_⟩
 ·have hj:j<len * n:=by rw[<- oc];exact(cP.1 hx).1
  rw[wB hl len j hj] at hx;exact Cg.one _ x hx
 ·have hj:j<len * n:=by rw[<- oc];exact(cP.1 hx).1
  rw[wB hl len j hj] at hx;have hm:j % n<cz.cells.size:=by rw[Fl];exact Nat.mod_lt _ (by omega)
  simp only[madeCells,Array.toList_map,Array.toList_range,gj,uG,hj,aS,bu,Fl] at hv;rw[getElem!_pos cz.cells (j % n) hm] at hv;refine Cg.rel _ x v hx ?_;rw[E9,EJ hm,hv]
theorem za2(z:V):∀n,(List.replicate n z.cells).flatten=zw (List.replicate n z)
 | 0=>rfl
 | n+1=>by simp only[HQ,List.flatten_cons,za2 z n,zw,D3]
theorem zfo(h:Rel B g s a w){t e:aB}{lx cx:aX}{k k':IntKind}{l c:Int}{n:Nat}{i:TypeInfo}{z:V}(ht:P.underlying t=some (.slice e))(hlx:ak s.env lx=some (.int k l))(lg:ak s.env cx=some (.int k' c))
  (hn:z8 P e=some n) (hi:P.info? e=some i) (hz:qP P e=some z) (hc:(Nat.beq n 0 || l<0 || c<l || !kA c.toNat i.bytes || !Nat.beq z.cells.length n || !dD z)=false) {o:Oper} (ho:o.op=.makeSlice t lx cx) :
  (l=0->ff P B s a w o (.sl n [] (.yes e)))/\ff P B { s with H:=s.H.push (.cells (List.replicate c.toNat z.cells).flatten e) } a w o (.sr s.H.au.length 0 l.toNat c.toNat):=by
 simp only[HN,Bool.not_eq_false',decide_eq_false_iff_not] at hc;obtain⟨⟨⟨⟨⟨c1,c2⟩,c3⟩,c4⟩,c5⟩,eE⟩:=hc;have Bj:n≠0:=by intro e;subst e;simp at c1
 have Wn:z.cells.length=n:=eR c5;simp only[kA,ei] at c4;have b1:=r8 c4.1;have b2:=r8 c4.2;obtain⟨cz,z1,z2,z3,_,z5⟩:=yy (g:=g) hz w;simp only[hi,aU] at z5;have l1:=(zI h hlx).1;have k1:=(zI h lg).1;generalize hle:a.eval lx=cl at l1;generalize Af:a.eval cx=cc at k1;cases l1;cases k1;have ug:=Wh hn hi;have LC:(i.bytes:Int) * c<=281474976710656:=by
  have h1:(i.bytes:Int) * c=((c.toNat * i.bytes:Nat):Int):=by
   rw[Int.natCast_mul,Int.toNat_of_nonneg (by omega),Int.mul_comm]
  rw[h1];omega
 have cj:=run_make (P:=P) w t e i cz ht hi z5 k k' l c (by omega) (by omega) LC (by omega)
 have Ft:(execOp a.eval o).run P w=.ok (.value (.slice (some ⟨w.heap.size,0,none⟩) l.toNat c.toNat)) (w.alloc (.cells (madeCells cz.cells (c.toNat * i.size)) e)):=by
  simp[execOp,ho,hle,Af,cj]
 constructor
 ·intro h0;subst h0;refine⟨_,_,_,Ft,h.settle [] (some (.slot B.d (o.dst.getD 0))) (by simp) (λj hj=>Go.heap_alloc_old w _ hj) (λ_ _ e=>by simp at e) rfl rfl rfl,?_,λd hd=>?_,dU _⟩
  ·exact .sl (c:=w.heap.size) (o:=0) (λ_=>.nilFunc) (λ_ e=>by simp at e) (dU _) (λe=>absurd rfl e) (λ_ _ e=>by simp[zw] at e) (λ_ _ e=>by simp[zw] at e) (λ_ _ e=>by simp[zw] at e)
  ·refine⟨[],zgl (World.ownsRow_made w _ c.toNat (dU _) (by simp only[maxLen];omega) (by rw[size_madeCells,ug])),λc' ey=>?_⟩
   simp only[Value.ownBlock,bu] at ey;subst ey;refine⟨by simp[Gh.row,hd],λo' _ _=>by simp[Gh.row],λb hb e=>?_⟩
   have:=h.de.lt b hb;simp only[Gh.row] at e;omega
 ·have hm:=zla z2 eE Wn Bj c.toNat
  have lH:=λx hx=>xX (v:=cz) (z:=z) (by
   simp only[qP,eL] at hz;obtain⟨i',uc,zz,NY,hv⟩:=hz;rw[hi] at uc;cases uc
   rw[NY] at z5;cases z5;exact hv) x hx
  have eH:∀x∈zw (List.replicate c.toNat z),∀sz xs o,x≠.sl sz xs o:=λx hx=>by
   obtain⟨y,hy,H_⟩:=List.mem_flatMap.1 hx;rw[(List.mem_replicate.1 hy).2] at H_;exact lH x H_
  have hv:(g.var s.H.au.length w.heap.size).bO s.H.au.length=w.heap.size:=by simp[Gh.var]
  rw[ug] at Ft;refine⟨g.var s.H.au.length w.heap.size,_,_,Ft,?_,?_,λ_ _=>trivial,by simp[V.top,Hp.push]⟩
  ·rw[za2];refine h.ru hm (qq λx hx=>?_) λj x v hx lX=>⟨?_,λsz xs e=>eH x (zv hx) _ _ _ e⟩
   ·obtain⟨y,hy,H_⟩:=List.mem_flatMap.1 hx;rw[(List.mem_replicate.1 hy).2] at H_;exact cU (Tg H_) (by omega)
   ·cases x with
    | sl sz xs o=>exact absurd rfl (eH _ (zv hx) sz xs o)
    | _=>trivial
  ·have:=aR.sr (g:=g.var s.H.au.length w.heap.size) (b:=s.H.au.length) (off:=0) (show l.toNat<=c.toNat by omega)
   rw[hv] at this;exact this
theorem Wo{sz:Nat}{xs:aC}(hs:∀y:V,y∈xs->y.cells.length=sz){c j:Nat}{y:V}(h:(zw (xs.drop c))[j]?=some y):(zw xs)[c * sz+j]?=some y :=
 yx (b:=xs.length) hs (by rw[Dh];exact h)
theorem zlb(h:Rel B g s a w){t:aB}{x:aX}{lo:Option aX}{o:Oper}{v:V}{cZ:aC}(hm:Lj P t x lo s.env=some (v,cZ))(ho:o.op=.slice t x lo none none):ff P B { s with env:=cZ } a w o v:=by
 unfold Lj at hm;split at hm<;>try (cases hm;done)
 rename_i e' sz xs e cM k i ht hx iB;split at hm<;>try (cases hm;done)
 rename_i n hn;split at hm<;>simp only[bu,reduceCtorEq,cw] at hm;rename_i hc;obtain⟨rfl,rfl⟩:=hm;simp only[ei,decide_eq_true_eq] at hc;obtain⟨⟨c1,c2⟩,c3⟩:=hc;obtain rfl:=eR c1;have c3:=r8 c3;have EP:=Ic h iB;obtain⟨g',k1,k2,k3,k4,_⟩:=vH h hx (.slot B.d (o.dst.getD 0));have Wk:fT g' s.H.au.length w (.slot B.d (o.dst.getD 0)) e n xs.length (a.eval x):=k3;obtain⟨vs,bZ,iK⟩:=Wk
 have hu:=run_underlying ht w;generalize hi:i.toNat=j at *;generalize JN:a.eval x=cv at *;cases k2 with
 | sl f h1 h2 h3 h4 h5 h6 =>
  rename_i ad cap cb ro;have dg:=xf (P:=P) (isSlice:=true) (lo:=some (.int k i)) (hi:=none) (EM:=none) (len:=xs.length) (l:=j) (h:=xs.length) EP trivial rfl (by simp[ke,c2,hi]) c3 (dB _) h2 w
  have hlen:(xs.drop j).length=xs.length - j:=by simp
  have cj:(execOp a.eval o).run P w=.ok (.value (.slice (if cap=j then ad else ad.map (·.add (j * n))) (xs.length - j) (cap - j))) w:=by
   simp[execOp,ho,JN,Instr.sliceAt,hu,Instr.slice,dg,jx hn]
  refine⟨g',_,w,cj,k1,?_,λd hd=>?_,cU (qq λy hy=>zn (Cv hy)) k4⟩
  ·rw[<- hlen];refine .sl (c:=cb) (o:=ro+j * n) (λq=>f (j * n+q)) (λy hy=>h1 y (Cv hy)) (by rw[hlen];omega) (λb_=>?_) (λq y hq=>h4 _ y (Wo h1 hq)) (λq y hq=>?_) (λq y hq=>h6 _ y (Wo h1 hq))
   ·have:0<xs.length - j:=by rw[<- hlen];exact K_.2 b_
    rw[if_neg (by omega),h3 (by rintro rfl;simp at b_)]
    simp[Addr.add_lit]
   ·rw[oO];exact h5 _ y (Wo h1 hq)
  ·have G2:o.dst.getD 0=d:=by rw[hd];rfl
   subst G2;show fT g' s.H.au.length w _ e n (xs.drop j).length _;rw[hlen];obtain⟨r1,⟨r2,r3⟩|⟨c,Wp,oR,cur,r2,r3,r4,r5,r6,r7⟩⟩:=bZ
   ·simp only[Value.slice.injEq] at r2;obtain⟨rfl,_,rfl⟩:=r2;have hj:j=0:=by omega
    subst hj;simp only[aF,r3,Nat.zero_sub];exact⟨[],⟨by simp,.inl ⟨rfl,rfl⟩⟩,λc hc=>(by cases hc)⟩
   ·simp only[Value.slice.injEq,lU] at r2;obtain⟨rfl,rfl⟩:=r2;obtain⟨o1,o2,o3⟩:=iK c rfl
    by_cases Wq:cap=j
    ·rw[if_pos Wq];have G1:xs.length - j=0:=by omega
     rw[G1,Wq,Bb];refine⟨[],⟨by simp,.inr ⟨c,Wp,0,cur,rfl,r3,dB _,by simp[maxLen],.inl rfl,by simp⟩⟩,λc' ey=>?_⟩
     cases ey;exact⟨o1,λq q1 q2=>by simp only at q1 q2;omega,o3⟩
    ·rw[if_neg Wq];simp only[aS,Addr.add_lit];have ek:cur.size=Wp+cap * n:=by rcases r6 with r6|r6;omega;exact r6
     refine⟨vs.drop (j * n),⟨by rw[List.length_drop,r1,Nat.sub_mul],.inr ⟨c,Wp+j * n,cap - j,cur,rfl,r3,by omega,by omega,.inr ?_,?_⟩⟩,λc' ey=>?_⟩
     ·rw[ek,oO,<- t_]
      congr 2
      omega
     ·rw[<- r7,<- List.drop_drop,List.drop_take,Nat.sub_mul]
     ·cases ey;refine⟨o1,λq q1 q2=>o2 q ?_ ?_,o3⟩
      ·simp only at q1 ⊢;have:j * n+(xs.length - j) * n=xs.length * n:=by rw[<- t_];congr 1;omega
       omega
      ·simp only at q2 ⊢;have:j * n+(cap - j) * n=cap * n:=by rw[<- t_];congr 1;omega
       omega
theorem znq(h:Rel B g s a w){t:aB}{p:aX}{b off sz:Nat}{xs:aC}{e:aB}{cs:aC}{ty:aB}(Ef:qC P t=some false)(hp:ak s.env p=some (.ptr b off))(hb:s.H.get b=some (.cells cs ty))
  (hc:cs[off]?=some (.sl sz xs (.yes e))) {o:Oper} (ho:o.op=.load t p) :
  ff P B { s with H:=s.H.set b (.cells (cs.set off (.sl sz xs .lock)) ty),lk:=(b,off)::s.lk } a w o (.sl sz xs (.yes e)):=by
 have p1:=(zI h hp).1;generalize Pu:a.eval p=cp at p1;cases p1;have oq:s.H.au[b]?=some (.cells cs ty):=by simpa[Hp.get,zg] using hb
 have l6:b<s.H.au.length:=(cP.1 oq).1;obtain⟨arr,a1,a2,a3⟩:=h.de.ok b _ oq;have dy:=h.de.aI b _ oq;have Eg:off<cs.length:=(cP.1 hc).1;have hoa:off<arr.size:=by omega
 have lf:arr[off]?=some arr[off]:=EJ hoa;generalize arr[off]=cv at lf;obtain⟨c1,c2,c3,_⟩:=a3 off _ cv hc lf;have iK:fT g s.H.au.length w (.cell b off) e sz xs.length cv:=c3;have dL:w.cell? ⟨g.bO b,off,none⟩=some cv:=by rw[cell_of_row w _ _ arr _ _ a1];exact lf
 have cj:(execOp a.eval o).run P w=.ok (.value cv) w:=by
  simp[execOp,ho,Pu,Instr.loadAt,Instr.sureAddr,loadVar,Th Ef,dL]
 let l1:Loc:=.slot B.d (o.dst.getD 0)
 let g':Gh:={ g with own:=λc=>if cv.ownBlock=some c then some l1 else g.own c,lk:=λb' o'=>if b'=b/\o'=off then cv else g.lk b' o' }
 have LD:∀c,(∀l,some (Loc.cell b off)=some l->g.own c≠some l)->cv.ownBlock≠some c:=λc ey e=>by
  obtain⟨vs,_,N2⟩:=iK;exact ey _ rfl (N2 c e).1
 have iR:gV B.d (some b) (some (.cell b off)) s.H.au.length g w g' w :=
  ⟨⟨λ_ _ _ e=>e,λ_ _=>rfl,rfl,λ_ _ _ _ e=>e⟩,λ_ _ _ _=>rfl,λc _ ey=>by show(if _ then _ else _)=_;rw[if_neg (LD c ey)],λ_ _ _ _=>rfl,dB _,
   λb' o' hl=>by show(if _ then _ else _)=_;rw[if_neg];rintro⟨rfl,rfl⟩;exact hl _ rfl rfl,λl hl=>.inr ⟨b,off,by cases hl;rfl,rfl⟩,λb' dg=>by cases dg;exact l6,λ_ _ _ _=>rfl,rfl,rfl,rfl⟩
 have lH:¬jo s.H.au b off:=by
  rintro⟨cs',t',Pq,tK,h1,h2⟩;rw[oq] at h1;cases h1;rw[hc] at h2;cases h2
 have hlen:(s.H.set b (.cells (cs.set off (.sl sz xs .lock)) ty)).au.length=s.H.au.length:=by simp[Hp.set]
 have Ds:(s.H.set b (.cells (cs.set off (.sl sz xs .lock)) ty)).au[b]?=some (.cells (cs.set off (.sl sz xs .lock)) ty):=by simp[Hp.set,l6]
 have sP:∀b',b'≠b->(s.H.set b (.cells (cs.set off (.sl sz xs .lock)) ty)).au[b']?=s.H.au[b']?:=λb' b_=>by simp[Hp.set,su (Ne.symm b_)]
 have Dt:(aT.cells (cs.set off (.sl sz xs .lock)) ty).top<=(aT.cells cs ty).top :=
  VZ (cs:=cs) (dB _) (by show aI xs<=_;exact zn (zv hc))
 have PG:∀b' o',jo s.H.au b' o'->jo (s.H.set b (.cells (cs.set off (.sl sz xs .lock)) ty)).au b' o':=by
  rintro b' o' ⟨cs',t',Pq,tK,h1,h2⟩
  by_cases e1:b'=b
  ·subst e1;rw[oq] at h1;cases h1
   by_cases e2:o'=off
   ·subst e2;exact⟨_,_,sz,xs,Ds,Ct Eg⟩
   ·exact⟨_,_,Pq,tK,Ds,by rw[su (Ne.symm e2)];exact h2⟩
  ·exact⟨cs',t',Pq,tK,by rw[sP b' e1];exact h1,h2⟩
 have hR:Rel B g' { s with H:=s.H.set b (.cells (cs.set off (.sl sz xs .lock)) ty),lk:=(b,off)::s.lk } a w:=by
  refine h.lE (s':={ s with H:=s.H.set b (.cells (cs.set off (.sl sz xs .lock)) ty),lk:=(b,off)::s.lk }) iR (by rw[hlen];exact dB _) (λb' _ b_=>sP b' λe=>b_ (by rw[e])) (λb' x Du hx=>?_) (λb' h1 h2=>?_) (λb1 b2 h1 h2=>?_) h.de.mem (λc l gE=>?_)
   (λb' j e=>by cases e;exact lH) rfl rfl (λt x hx=>⟨x,hx,.inl ⟨rfl,λe=>by cases e⟩⟩) (λb' x hx=>?_) (λb' o' hl=>PG b' o' (h.lV b' o' hl)) (λq hq=>?_) (λ_ e=>by cases e)
  ·have dg:b'=b:=by
    rcases Du with Du|Du
    ·cases Du;rfl
    ·have:=(cP.1 hx).1;rw[hlen] at this;omega
   subst dg;rw[Ds] at hx;cases hx;rw[hlen];refine⟨⟨arr,a1,by simpa using a2,λj x v hx hv=>?_⟩,cU Dt dy⟩
   by_cases e2:j=off
   ·subst e2;rw[Ct Eg] at hx;cases hx;rw[lf] at hv;cases hv;refine⟨rfl,?_,trivial,?_⟩
    ·have:=c2.le iR.le (cU (zn (zv hc)) dy);cases this with
     | sl f h1 h2 h3 h4 h5 h6=>exact .sl f h1 h2 h3 h4 h5 h6
    ·show cv=(if _ then _ else _)
     rw[if_pos ⟨rfl,rfl⟩]
   ·rw[su (Ne.symm e2)] at hx;obtain⟨d1,d2,d3,d4⟩:=a3 j x v hx hv;refine⟨d1,d2.le iR.le (cU (zn (zv hx)) dy),cN.same iR (λe=>by cases e;exact e2 rfl) (λb1 h2 h3=>absurd h3 (Nat.not_lt.2 h2)) d3,?_⟩
    unfold Pm at *;split
    ·show v=(if _ then _ else _)
     rw[if_neg (λe=>e2 e.2)];exact d4
    ·trivial
  ·rw[hlen] at h2;omega
  ·rw[hlen] at h2;omega
  ·simp only[g'] at gE;split at gE
   next e=>exact iK.lt c e
   ·exact h.de.eo c l gE
  ·by_cases e1:b'=b
   ·subst e1;rw[show({ s with H:=s.H.set b' (.cells (cs.set off (.sl sz xs .lock)) ty),lk:=(b',off)::s.lk }:St).H.au[b']?=_ from Ds] at hx;cases hx;rcases h.bC b' _ oq with h1|⟨m,h1,h2⟩|⟨y,h1,h2⟩
    ·exact .inl (cU Dt h1)
    ·exact .inr (.inl ⟨m,h1,cU Dt h2⟩)
    ·exact .inr (.inr ⟨y,h1,cU Dt h2⟩)
   ·rw[show({ s with H:=s.H.set b (.cells (cs.set off (.sl sz xs .lock)) ty),lk:=(b,off)::s.lk }:St).H.au[b']?=s.H.au[b']? from sP b' e1] at hx;exact h.bC b' x hx
  ·rcases dN.1 hq with rfl|hq
   ·exact λhl=>lH (h.lV b off hl)
   ·exact h.oB q hq
 have htx:aI xs<=s.H.au.length:=cU (show(V.sl sz xs (.yes e)).top<=_ from zn (zv hc)) dy;refine⟨g',cv,w,cj,hR,c2.le iR.le (cU (zn (zv hc)) dy),λd hd=>?_,by rw[hlen];exact htx⟩
 obtain⟨vs,Ts,N2⟩:=iK;refine⟨vs,Ts,λc ey=>⟨?_,(N2 c ey).2.1,?_⟩⟩
 ·show(if _ then _ else _)=_
  rw[if_pos ey];simp only[l1,hd,ga]
 ·rw[hlen];exact(N2 c ey).2.2
end
section
variable{P:aQ}{B:dY}{g:Gh}{s:St}{a:Act}{w:aP}
theorem zpq{s':St}{o:Oper}{v:V}(h:ff P B s' a w o v){K:Act->aP->Prop}{Q:Exit->Act->aP->Prop}(hk:∀g' cv w',Ed B g' s' a w' o.dst v cv->K (a.put o.dst cv) w'):o.wp P a w K Q:=by
 obtain⟨g',cv,w',h1,h2⟩:=h;unfold Oper.wp;rw[h1,Oper.upon_value];exact hk g' cv w' h2
theorem wp_skip{s':St}{o:Oper}(h:oW P B s' a w o){K:Act->aP->Prop}{Q:Exit->Act->aP->Prop}(hk:∀g' w',Rel B g' s' a w'->K (a.put o.dst undef) w'):o.wp P a w K Q:=by
 obtain⟨g',w',h1,h2⟩:=h;unfold Oper.wp;rw[h1,Oper.upon_skip];exact hk g' w' h2
theorem zgy(h:Rel B g s a w){x:aX}{v:V}{cZ:aC}(ht:take s.env x=some (v,cZ)){o:Oper}(ho:o.op=.move x\/o.op=.assign x):ff P B { s with env:=cZ } a w o v:=by
 obtain⟨g',h1,v1,v2,v3,_⟩:=vH h ht (.slot B.d (o.dst.getD 0));refine⟨g',a.eval x,w,by rcases ho with ho|ho<;>simp[execOp,ho],h1,v1,λd hd=>?_,v3⟩
 simpa[hd] using v2
theorem znr(h:Rel B g s a w){x:aX}{v:V}{t ty:aB}{n:Int}(hx:ak s.env x=some v)(hl:qV P s.H t v=some n):(Builtin.len_ #[t] ty #[a.eval x]).run P w=.ok (.int .i64 n) w:=by
 have x1:=(zI h hx).1;unfold qV at hl;split at hl
 next ht=>simp only[bu] at hl;subst hl;generalize a.eval x=c at x1;cases x1;simp[Builtin.len_,run_underlying ht,goInt,kK]
 next ht=>simp only[bu] at hl;subst hl;rw[x1.pR];simp[Builtin.len_,run_underlying ht,goInt]
 next ht=>simp only[bu] at hl;subst hl;obtain⟨b,c,e,_⟩:=x1.Fq;rw[e];simp[Builtin.len_,run_underlying ht,goInt]
 next ht=>simp only[bu] at hl;subst hl;generalize a.eval x=c at x1;cases x1;simp[Builtin.len_,run_underlying ht,goInt]
 next ht=>simp only[bu] at hl;subst hl;generalize a.eval x=c at x1;cases x1;simp[Builtin.len_,run_underlying ht,goInt]
 next ht=>simp only[bu] at hl;subst hl;generalize a.eval x=c at x1;cases x1;simp[Builtin.len_,run_underlying ht,goInt]
 ·rename_i b ht;split at hl<;>simp only[bu,reduceCtorEq] at hl;rename_i es hb;subst hl;obtain⟨en,ck,e1,e2,_⟩:=xW h hb;generalize a.eval x=c at x1;cases x1;have hg:(getObj (g.bO b)).run P w=.ok (.map en ck) w:=by simp[getObj,Sem.run,e1]
  have:es.length=en.size:=by have:=e2.len;simpa using this
  simp[Builtin.len_,run_underlying ht,hg,goInt,this]
 ·cases hl
theorem zeH(h:Rel B g s a w){x y:aX}{k k':IntKind}{m n:Int}(hx:ak s.env x=some (.int k m))(hy:ak s.env y=some (.int k' n))(ps:Array aB)(ty:aB) :
  (Builtin.min_ ps ty #[a.eval x,a.eval y]).run P w=.ok (.int k (if n<m then n else m)) w/\(Builtin.max_ ps ty #[a.eval x,a.eval y]).run P w=.ok (.int k (if n > m then n else m)) w:=by
 have x1:=(zI h hx).1;have y1:=(zI h hy).1;generalize a.eval x=c at x1;generalize a.eval y=d at y1;cases x1;cases y1;constructor
 ·simp[Builtin.min_,Builtin.min2]
 ·simp[Builtin.max_,Builtin.max2]
end
section
variable{P:aQ}{B:dY}{g:Gh}{s:St}{a:Act}{w:aP}
structure iS(d:Nat)(H:Hp)(g:Gh)(w:aP)(H':Hp)(g':Gh)(w':aP):Prop where
 de:nu g' H'.au w'
 fr:Fr d H.au g w g' w'
 len:H.au.length<=H'.au.length
 dV:∀b,H.au.length<=b->b<H'.au.length->w.heap.size<=g'.bO b
 bC:∀(b:Nat)(x:aT),H'.au[b]?=some x->x.top<=b+1\/(∃m,(b,m)∈H'.bC/\x.top<=m)\/∃y:aT,H.au[b]?=some y/\x.top<=y.top
 CI:∀p∈H.bC,p∈H'.bC
 lV:∀b off,jo H.au b off->jo H'.au b off
def ef(d:Nat)(H:Hp)(g:Gh)(w:aP)(l:Loc)(out:Out)(H':Hp):Ending->aP->Prop
 | .returned cv,w'=>∃v g',out=.ret v/\iS d H g w H' g' w'/\aR g' v cv/\cN g' H'.au.length w' l v cv/\v.top<=H'.au.length
 | .panicked chain,w'=>∃v cv g',out=.p_ v/\chain=[{ v:=cv,recovered:=false }]/\iS d H g w H' g' w'/\aR g' v cv/\v.top<=H'.au.length
 | .outgrown,_=>False
def zgz(args:aC):Prop:=∀x∈args,∀sz xs e,x≠.sl sz xs (.yes e)
structure dI(g:Gh)(n:Nat)(args:aC)(bp:dF):Prop where
 len:args.length=bp.size
 rel:∀(j:Nat)(x:V)(v:bw),args[j]?=some x->bp[j]?=some v->aR g x v
 top:aI args<=n
 no:zgz args
def xz(P:aQ)(gl:Nat->Nat->bY)(call:FuncId->aC->Hp->Option (Out×Hp))(d:Nat):Prop :=
 ∀f args H out H',call f args H=some (out,H')->∀g w bp l,gF P gl g->nu g H.au w->dI g H.au.length args bp->Calls P f bp w (ef d H g w l out H')
theorem rq.mono{d d' n:Nat}(h:d<=d'){c:Nat}(hp:rq d' n g w c):rq d n g w c :=
 ⟨hp.1,hp.2.1,hp.2.2.imp id λ⟨k,t,e,hk⟩=>⟨k,t,e,JE h hk⟩⟩
theorem Fr.mono{d d':Nat}(h:d<=d'){bs:List aT}{g':Gh}{w':aP}(hf:Fr d bs g w g' w'):Fr d' bs g w g' w' :=
 ⟨hf.le,λc hc=>hf.heap c (hc.mono h),λc hc=>hf.own c (hc.mono h),λc hc=>hf.M c (hc.mono h),hf.size,hf.lk,hf.os,hf.tape,hf.output⟩
theorem cN.after{d dd t:Nat}(hd:d<dd){H H':Hp}{g':Gh}{w':aP}(hA:iS d H g w H' g' w'){x:V}{cv:bw}(h:cN g H.au.length w (.slot dd t) x cv):cN g' H'.au.length w' (.slot dd t) x cv:=by
 unfold cN at *;split
 ·rename_i sz xs e;have h':fT g H.au.length w (.slot dd t) e sz xs.length cv:=h;have bR:=h'.lt;obtain⟨vs,h1,h2⟩:=h';have hp:∀c,cv.ownBlock=some c->rq d H.au.length g w c:=λc hc=>⟨bR c hc,(h2 c hc).2.2,.inr ⟨dd,t,(h2 c hc).1,hd⟩⟩;refine⟨vs,za1 h1 λc hc=>hA.fr.heap c (hp c hc),λc hc=>⟨?_,?_,λb hb e=>?_⟩⟩
  ·rw[hA.fr.own c (hp c hc)];exact(h2 c hc).1
  ·exact(h2 c hc).2.1.eq λo=>hA.fr.M c (hp c hc) o
  ·rcases eI b H.au.length with dg|dg
   ·exact(h2 c hc).2.2 b dg ((hA.fr.le.bO b dg).symm.trans e)
   ·have:=hA.dV b dg hb;have:=bR c hc;omega
 ·trivial
theorem Rel.call(h:Rel B g s a w){d:Nat}(hd:d<B.d){H':Hp}{g':Gh}{w':aP}(hA:iS d s.H g w H' g' w'):Rel B g' { s with H:=H' } a w':=by
 refine { de:=hA.de,len:=h.len,env:=λt x v hx hv=>?_,dS:=λt x hx=>cU (h.dS t x hx) hA.len,n0:=cU h.n0 hA.len,bC:=λb x hx=>?_,dV:=λb h1 h2=>?_,fr:=?_,lV:=λb off hl=>hA.lV b off (h.lV b off hl),oB:=h.oB,cY:=λp hp=>?_,eK:=h.eK,defers:=λj x q hx hq=>(h.defers j x q hx hq).le hA.fr.le hA.len,marks:=λdm hdd D hD=>?_,nM:=h.nM }
 ·obtain⟨h1,h2⟩:=h.env t x v hx hv;exact⟨h1.le hA.fr.le (h.dS t x hx),h2.after hd hA⟩
 ·rcases hA.bC b x hx with h1|h1|⟨y,h1,h2⟩
  ·exact .inl h1
  ·exact .inr (.inl h1)
  ·rcases h.bC b y h1 with h3|⟨m,h3,h4⟩|⟨z,h3,h4⟩
   ·exact .inl (cU h2 h3)
   ·exact .inr (.inl ⟨m,hA.CI _ h3,cU h2 h4⟩)
   ·exact .inr (.inr ⟨z,h3,cU h2 h4⟩)
 ·rcases eI b s.H.au.length with h3|h3
  ·rw[hA.fr.le.bO b h3];exact h.dV b h1 h3
  ·exact cU h.fr.size (hA.dV b h3 h2)
 ·exact h.fr.trans h.n0 h.dV (λb off hl=>h.lV b off (.inl hl)) (hA.fr.mono (Nat.le_of_lt hd))
 ·obtain⟨p1,p2,p3,p4,p5⟩:=h.cY p hp;refine⟨p1,p2.le hA.fr.le p4,p3.after hd hA,cU p4 hA.len,λb off e=>?_⟩;rw[hA.fr.lk b off (h.lV b off (.inr ⟨p,hp,e⟩))];exact p5 b off e
 ·obtain⟨h0,h1,h2,h3⟩:=h.marks dm hdd D hD;have bR:D<w.heap.size:=(sH.1 h1).1;have hp:rq d s.H.au.length g w D:=⟨bR,h2,.inl h3⟩;refine⟨h0,(hA.fr.heap D hp).trans h1,λb hb e=>?_,(hA.fr.own D hp).trans h3⟩;rcases eI b s.H.au.length with h4|h4
  ·rw[hA.fr.le.bO b h4] at e;exact h2 b h4 e
  ·have:=hA.dV b h4 hb;omega
structure Ends(P:aQ)(B:dY)(o:Oper)(r:OR)(s':St)(K:Act->aP->Prop)(Q:Exit->Act->aP->Prop):Prop where
 val:∀v,r=.val v->∀g' cv a' w',Ed B g' s' a' w' o.dst v cv->K (a'.put o.dst cv) w'
 skip:r=.skip->∀g' a' w',Rel B g' s' a' w'->K (a'.put o.dst undef) w'
 p_:∀v,r=.p_ v->∀g' cv a' w',Rel B g' s' a' w'->aR g' v cv->v.top<=s'.H.au.length->Q (.panic [{ v:=cv,recovered:=false }]) a' w'
def yC(P:aQ):Prop:=∀(f:FuncId)(fn:Func),P.funcs[f]?=some fn->(fn.name == "runtime.NumGoroutine")=false
def va(P:aQ):Prop:=∀(f:FuncId)(fn:Func)(args:aC)(v:V),P.funcs[f]?=some fn->fn.body=none->VO fn.name args=some v ->
 ∀g n bp w,dI g n args bp->∃cv,(callFunc f bp).run P w=.ok (.value cv) w/\aR g v cv/\v.top=0/\(∀k l,cN g k w l v cv)
theorem zgA{cx:Cx}(hP:cx.P=P)(fX:yC P)(dW:va P){d:Nat}(hd:d<B.d)(rm:gF P cx.gl B.g)(dz:xz P cx.gl cx.call d)(h:Rel B g s a w){f:FuncId}{args:aC}{bp:dF}{r:OR}{H':Hp}
  (hc:cx.bD f args s.H=some (r,H')) (fM:dI g s.H.au.length args bp) {o:Oper} (ho:(execOp a.eval o).run P w=(callFunc f bp).run P w) {K:Act->aP->Prop} {Q:Exit->Act->aP->Prop} (hE:Ends P B o r { s with H:=H' } K Q):o.wp P a w K Q:=by
 have Ei:gF P cx.gl g:=rm.le h.fr.le;unfold Cx.bD at hc;rw[hP] at hc;cases hf:P.funcs[f]? with
 | none=>rw[hf] at hc;cases hc
 | some fn =>
  rw[hf] at hc;simp only at hc;cases hb:fn.body with
  | none =>
   rw[hb] at hc;simp only at hc;split at hc<;>simp only[bu,reduceCtorEq,cw] at hc;rename_i v hv;obtain⟨rfl,rfl⟩:=hc;obtain⟨cv,h1,h2,h3,h4⟩:=dW f fn args v hf hb hv g _ bp w fM;unfold Oper.wp;rw[ho,h1,Oper.upon_value];exact hE.val v rfl g cv a w ⟨h,h2,λ_ _=>h4 _ _,by omega⟩
  | some c =>
   rw[hb] at hc;simp only at hc;split at hc<;>simp only[bu,reduceCtorEq] at hc;rename_i res l7;obtain⟨out,H1⟩:=res;have cj:(callFunc f bp).run P w=.ok (.enter f bp) w:=by
    have b_:fn.name≠ "runtime.NumGoroutine":=by simpa using fX f fn hf
    simp[callFunc,hf,hb,b_]
   unfold Oper.wp;rw[ho,cj,Oper.upon_enter];refine Calls.mono (dz f args s.H out H1 l7 g w bp (.slot B.d (o.dst.getD 0)) Ei h.de fM) λe w' hp=>?_;cases e with
   | returned cv =>
    obtain⟨v,g',rfl,hA,v1,v2,v3⟩:=hp;simp only[HX,cw] at hc;obtain⟨rfl,rfl⟩:=hc;exact hE.val v rfl g' cv a w' ⟨h.call hd hA,v1,λt ht=>by simpa[ht] using v2,v3⟩
   | panicked chain =>
    obtain⟨v,cv,g',rfl,rfl,hA,v1,v3⟩:=hp;simp only[HX,cw] at hc;obtain⟨rfl,rfl⟩:=hc;exact hE.p_ v rfl g' cv a w' (h.call hd hA) v1 v3
   | outgrown=>exact hp.elim
end
section
variable{P:aQ}{B:dY}{g:Gh}{s:St}{a:Act}{w:aP}
theorem zfp(l:aC):zgz (l.map aW):=λx hx sz xs e h=>by
 obtain⟨y,_,rfl⟩:=iH.1 hx;exact vP y sz xs e h
theorem dI.Fu{n:Nat}{l:aC}{arr:dF}(hl:l.length=arr.size)(hr:∀(j:Nat)(x:V)(v:bw),l[j]?=some x->arr[j]?=some v->aR g x v)(ht:aI l<=n):dI g n (l.map aW) arr :=
 ⟨by simpa using hl,λj x v hx hv=>by
  simp only[gj,mA] at hx;obtain⟨y,hy,rfl⟩:=hx
  exact(hr j y v hy hv).aW,by rw[eX];exact ht,zfp l⟩
theorem vD{l m:aC}{x y:dF}(h1:l.length=x.size)(hl:∀(j:Nat)(z:V)(v:bw),l[j]?=some z->x[j]?=some v->aR g z v)(hm:∀(j:Nat)(z:V)(v:bw),m[j]?=some z->y[j]?=some v->aR g z v) :
  ∀(j:Nat)(z:V)(v:bw),(l++m)[j]?=some z->(x++y)[j]?=some v->aR g z v:=λj z v hz hv=>by
 rcases eI j l.length with h|h
 ·rw[fI h] at hz;rw[Array.getElem?_append_left (by omega)] at hv
  exact hl j z v hz hv
 ·rw[eM h] at hz;rw[Array.getElem?_append_right (by omega),<- h1] at hv
  exact hm _ z v hz hv
theorem wC{l m:aC}{n:Nat}(h1:aI l<=n)(h2:aI m<=n):aI (l++m)<=n :=
 qq λ_ hx=>(oM.1 hx).elim (λh=>cU (zn h) h1) (λh=>cU (zn h) h2)
theorem zj9{t:aB}{v rv:V}{cv:bw}{name:String}{f:FuncId}(hm:VN P t v name=some (f,rv))(k:Nat):rv=v/\(method (k+1) t cv name).run P w=.ok (f,cv) w:=by
 simp only[VN,Option.bind_eq_bind,eL] at hm;obtain⟨i,hi,m,Io,hm⟩:=hm;split at hm<;>try (cases hm;done)
 rename_i hp;simp only[eL] at hm;obtain⟨⟨f',pr⟩,hf,ds,hds,hm⟩:=hm;have G3:m.path=#[]:=by simpa using hp
 simp only at hm;split at hm<;>simp only[bu,reduceCtorEq,cw] at hm
 ·obtain⟨rfl,rfl⟩:=hm;refine⟨rfl,?_⟩;simp[method,typeInfo,hi,Io,G3,follow,hf,receiverAt,run_underlying hds,Place.get]
 ·obtain⟨rfl,rfl⟩:=hm;refine⟨rfl,?_⟩;cases ds<;>first
   |(simp[method,typeInfo,hi,Io,G3,follow,hf,receiverAt,run_underlying hds,Place.get];done)
   |(exfalso;simp_all;done)
theorem zhZ(P:aQ):∃k,P.types.size+Made.depth=k+1:=⟨P.types.size+(Made.depth - 1),by simp[Made.depth]⟩
theorem zgB{cx:Cx}(hP:cx.P=P)(fX:yC P)(dW:va P){d:Nat}(hd:d<B.d)(rm:gF P cx.gl B.g)(dz:xz P cx.gl cx.call d)(h:Rel B g s a w){fv:V}{args:aC}{fn:Fn}{fa fc bp:dF}{r:OR}{H':Hp}
  (hc:cx.mI fv args s.H=some (r,H')) (ER:aR g fv (.func fn fa fc)) (G4:fv.top<=s.H.au.length) (hl:args.length=bp.size) (hr:∀(j:Nat)(x:V)(v:bw),args[j]?=some x->bp[j]?=some v->aR g x v) (ht:aI args<=s.H.au.length)
  {o:Oper} (ho:(execOp a.eval o).run P w=(invoke (.fn fn fc) (fa++bp)).run P w) {K:Act->aP->Prop} {Q:Exit->Act->aP->Prop} (hE:Ends P B o r { s with H:=H' } K Q):o.wp P a w K Q:=by
 unfold Cx.mI at hc;split at hc
 ·rename_i f first cap
  simp only[eJ] at hc;cases ER with
  | fn f1 f2 f3 f4 =>
   have Tu:aI first<=s.H.au.length/\aI cap<=s.H.au.length:=ua.1 G4
   refine zgA hP fX dW hd rm dz h hc (bp:=fa++bp++fc) (dI.Fu (by simp[f1,f2,hl]) (vD (by simp[f1,hl]) (vD f1 f3 hr) f4) (wC (wC Tu.1 ht) Tu.2)) ?_ hE
   rw[ho];rfl
 ·rename_i name first cap
  split at hc<;>try (cases hc;done)
  rename_i t v rest PI;split at hc<;>try (cases hc;done)
  rename_i f rv hm;rw[hP] at hm;simp only[eJ] at hc;cases ER with
  | fn f1 f2 f3 f4 =>
   have Tu:aI first<=s.H.au.length/\aI cap<=s.H.au.length:=ua.1 G4
   have dH:=vD f1 f3 hr;have hlen:(first++args).length=(fa++bp).size:=by simp[f1,hl]
   have dy:=wC Tu.1 ht;rw[PI] at dH hlen dy;have h0:0<(fa++bp).size:=by rw[<- hlen];simp
   have Bk:=dH 0 _ _ rfl (EJ h0);generalize G5:(fa++bp)[0]=cr at Bk;cases Bk with
   | ec hv =>
    rename_i cv;obtain⟨k,hk⟩:=zhZ P;obtain⟨rfl,hmr⟩:=zj9 (P:=P) (w:=w) (cv:=cv) hm k;have sQ:(fa++bp)[0]?=some (.iface t cv):=by rw[EJ h0,G5]
    refine zgA hP fX dW hd rm dz h hc (bp:=#[cv]++(fa++bp).extract 1 (fa++bp).size) (dI.Fu ?_ (λj x u hx hu=>?_) ?_) ?_ hE
    ·simp only[aZ] at hlen;simp only[aZ,Array.size_append,Array.size_extract,List.size_toArray,List.length_nil] at *;omega
    ·cases j with
     | zero =>
      rw[Array.getElem?_append_left (by simp)] at hu
      simp only[K7,bu,List.getElem?_toArray] at hx hu;subst hx;subst hu;exact hv
     | succ j =>
      refine dH (j+1) x u (by simpa using hx) ?_
      rw[Array.getElem?_append_right (by simp)] at hu
      simp only[List.size_toArray,aZ,List.length_nil,nI,Nat.add_sub_cancel] at hu;rw[Array.getElem?_extract] at hu;split at hu
      ·rw[JH] at hu;exact hu
      ·cases hu
    ·exact qq λx hx=>by
      rcases dN.1 hx with rfl|hx
      ·exact cU (show _<=(V.ec t x).top from dB _) (cU (zn (eT ..)) dy)
      ·exact cU (zn (d_ _ hx)) dy
    ·rw[ho];simp only[invoke,sQ,callMethod];simp[hk,hmr]
 ·cases hc
end
section
variable{P:aQ}{B:dY}{g:Gh}{s:St}{a:Act}{w:aP}
theorem uM{args:r_}{x y:aX}(h:args.toList=[x,y]):args=#[x,y]:=by
 apply Array.ext';simpa using h
theorem zqu{args:r_}{x:aX}(h:args.toList=[x]):args=#[x]:=by
 apply Array.ext';simpa using h
theorem zlc{args:Array aB}{x y:aB}(h:args.toList=[x,y]):args=#[x,y]:=by
 apply Array.ext';simpa using h
theorem zpr{args:Array aB}{x:aB}(h:args.toList=[x]):args=#[x]:=by
 apply Array.ext';simpa using h
theorem zh0{cx:Cx}(hP:cx.P=P)(h:Rel B g s a w){b:Builtin}{ts:Array aB}{args:r_}{r:OR}{cZ:aC}(hb:cx.builtin b ts args s.env s.H=some (r,cZ)){o:Oper}{c:Call}(ho:o.op=.call c)(hc:c.callee=.builtin b)(hts:c.argTypes=ts)(fM:c.args=args) :
  ∃v,r=.val v/\ff P B { s with env:=cZ } a w o v:=by
 have cj:∀m:Sem bw,(∀x,builtin b ts o.type x (args.map a.eval)=(do pure (.value (<- m))))->∀cv w',m.run P w=.ok cv w'->(execOp a.eval o).run P w=.ok (.value cv) w':=by
  intro m hm cv w' hr;simp[execOp,ho,resolve,hc,hts,fM,invoke,hm,hr]
 unfold Cx.builtin at hb;split at hb
 next x t hx ht=>have e1:=zqu hx;have e2:=zpr ht;subst e1;subst e2;simp only[Option.bind_eq_bind,eL,bu,cw] at hb;obtain⟨v,hv,n,hn,rfl,rfl⟩:=hb;rw[hP] at hn;exact⟨_,rfl,g,.int .i64 n,w,cj (Builtin.len_ #[t] o.type #[a.eval x]) (λ_=>by simp[builtin]) _ _ (znr h hv hn),h,.int _ _,λ_ _=>trivial,dU _⟩
 ·rename_i x y t u hx ht;have e1:=uM hx;have e2:=zlc ht;subst e1;subst e2;split at hb<;>try (cases hb;done)
  rename_i LF;have e3:t=u:=eR (by simpa using LF)
  subst e3;simp only[Option.bind_eq_bind,eL,bu,cw] at hb;obtain⟨yv,hy,⟨v,bI⟩,pO,r',Dr,rfl,rfl⟩:=hb;rw[hP] at Dr;obtain⟨g',cv,w',h1,h2,h3,h4,h5⟩:=zj8 (ty:=o.type) h hy pO Dr (o.dst.getD 0);exact⟨_,rfl,g',cv,w',cj (Builtin.append_ #[t,t] o.type #[a.eval x,a.eval y]) (λ_=>by simp[builtin]) _ _ h1,h2,h3,λd hd=>by simpa[hd] using h4,h5⟩
 next x y hx=>have e1:=uM hx;subst e1;simp only[Option.bind_eq_bind,eL] at hb;obtain⟨u,hu,v,hv,hb⟩:=hb;split at hb<;>simp only[bu,reduceCtorEq,cw] at hb;obtain⟨rfl,rfl⟩:=hb;exact⟨_,rfl,g,_,w,cj (Builtin.min_ ts o.type #[a.eval x,a.eval y]) (λ_=>by simp[builtin]) _ _ (zeH h hu hv ts o.type).1,h,.int _ _,λ_ _=>trivial,dU _⟩
 next x y hx=>have e1:=uM hx;subst e1;simp only[Option.bind_eq_bind,eL] at hb;obtain⟨u,hu,v,hv,hb⟩:=hb;split at hb<;>simp only[bu,reduceCtorEq,cw] at hb;obtain⟨rfl,rfl⟩:=hb;exact⟨_,rfl,g,_,w,cj (Builtin.max_ ts o.type #[a.eval x,a.eval y]) (λ_=>by simp[builtin]) _ _ (zeH h hu hv ts o.type).2,h,.int _ _,λ_ _=>trivial,dU _⟩
 ·cases hb
end
section
variable{P:aQ}{B:dY}{g:Gh}{s:St}{a:Act}{w:aP}
def Gh.eO(g:Gh)(b u:Nat)(v:bw)(own:Nat->Option Loc):Gh :=
 {g with e_:=λb' u'=>if b'=b/\u'=u then some v else g.e_ b' u',own:=own }
theorem zgC{H:Hp}{EL:List aT}(h:Pn EL H){b:Nat}{x0 x:aT}{v:V}(hb:H.au[b]?=some x0)(gX:x.top<=max x0.top v.top):Pn EL ((H.set b x).bQ b v):=by
 have l6:b<H.au.length:=(cP.1 hb).1;have ng:((H.set b x).bQ b v).au=H.au.set b x:=by simp only[Hp.bQ,Hp.set];split<;>rfl
 have dG:∀p∈H.bC,p∈((H.set b x).bQ b v).bC:=by
  intro p hp;simp only[Hp.bQ,Hp.set];split
  ·exact hp
  ·exact d_ _ hp
 intro b' y hy;rw[ng] at hy
 by_cases e:b'=b
 ·subst e;rw[Ct l6] at hy;cases hy;rcases Nat.le_total x0.top v.top with h2|h2
  ·rw[Nat.max_eq_right h2] at gX
   by_cases h3:v.top<=b'+1
   ·exact .inl (cU gX h3)
   ·refine .inr (.inl ⟨v.top,?_,gX⟩);simp only[Hp.bQ,Hp.set];rw[if_neg h3];exact eT ..
  ·rw[Nat.max_eq_left h2] at gX;rcases h b' x0 hb with h1|⟨m,h1,h2⟩|⟨y,h1,h2⟩
   ·exact .inl (cU gX h1)
   ·exact .inr (.inl ⟨m,dG _ h1,cU gX h2⟩)
   ·exact .inr (.inr ⟨y,h1,cU gX h2⟩)
 ·rw[su (λe'=>e e'.symm)] at hy;rcases h b' y hy with h1|⟨m,h1,h2⟩|h1
  ·exact .inl h1
  ·exact .inr (.inl ⟨m,dG _ h1,h2⟩)
  ·exact .inr (.inr h1)
theorem Rel.Fv(h:Rel B g s a w){b eO sz:Nat}{cs:aC}{e:aB}{x:aT}{v:V}{g':Gh}{w':aP}(hb:s.H.get b=some (.ul eO sz cs e))
  (hs:gV B.d (some b) (some (.cell b 0)) s.H.au.length g w g' w') (hM:g'.M=g.M) (oC:∀c o v,g.M c o=some v->w'.heap[c]?=w.heap[c]?) (sJ:∀c l,g'.own c=some l->c<w'.heap.size)
  (eE:fU g' s.H.au.length w' b x) (dy:x.top<=s.H.au.length) (gX:x.top<=max (aI cs) v.top):Rel B g' { s with H:=(s.H.set b x).bQ b v } a w':=by
 simp only[Hp.get,zg] at hb;have l6:b<s.H.au.length:=(cP.1 hb).1;have ng:((s.H.set b x).bQ b v).au=s.H.au.set b x:=by
  simp only[Hp.bQ,Hp.set];split<;>rfl
 have hlen:((s.H.set b x).bQ b v).au.length=s.H.au.length:=by rw[ng];simp
 have lH:∀off,¬jo s.H.au b off:=by
  rintro off ⟨cs',t',Pq,tK,h1,h2⟩;rw[hb] at h1;cases h1
 refine h.lE (s':={ s with H:=(s.H.set b x).bQ b v }) hs (by rw[hlen];exact dB _) (λb' dg b_=>?_) (λb' y Ih hy=>?_) (λb' h1 h2=>?_) (λb1 b2 h1 h2=>?_) (λc o u hu=>?_) sJ
  (λb' j e=>by cases e;exact lH 0) rfl rfl (λt y hy=>⟨y,hy,.inl ⟨rfl,λe=>by cases e⟩⟩) (zgC h.bC hb gX) (λb' off Ii=>?_) h.oB (λ_ e=>by cases e)
 ·rw[ng,su (λe=>b_ (by rw[e]))]
 ·have dg:b'=b:=by
   rcases Ih with Ih|Ih
   ·cases Ih;rfl
   ·have:=(cP.1 hy).1;rw[hlen] at this;omega
  subst dg;rw[ng,Ct l6] at hy;cases hy;rw[hlen];exact⟨eE,dy⟩
 ·rw[hlen] at h2;omega
 ·rw[hlen] at h2;omega
 ·rw[hM] at hu;rw[yA (oC c o u hu)];exact h.de.mem c o u hu
 ·have h0:=h.lV b' off Ii;have b_:b'≠b:=λe=>lH off (e ▸ h0);obtain⟨cs,t,sz,xs,h1,h2⟩:=h0;exact⟨cs,t,sz,xs,by rw[ng,su (λe'=>b_ e'.symm)];exact h1,h2⟩
theorem Tw(h:Rel B g s a w){b eO sz:Nat}{cs:aC}{e:aB}(hb:s.H.get b=some (.ul eO sz cs e)):b<s.H.au.length/\(g.own (g.bO b)=none):=by
 simp only[Hp.get,zg] at hb;have l6:b<s.H.au.length:=(cP.1 hb).1;exact⟨l6,h.de.dj b l6⟩
theorem Gh.LG{n:Nat}{g:Gh}{b u:Nat}{v:bw}{own:Nat->Option Loc}(hf:g.e_ b u=none):Gh.Le n g (g.eO b u v own):=by
 refine⟨λ_ _ _ e=>e,λ_ _=>rfl,rfl,λb' u' v' _ e=>?_⟩;simp only[Gh.eO];split
 next e'=>obtain⟨rfl,rfl⟩:=e';rw[hf] at e;cases e
 ·exact e
theorem fh:∀(l:aC),bX l=zw l
 | []=>rfl
 | x::xs=>by simp[bX,zw,fh xs]
theorem Tx(h:Rel B g s a w){b eO sz:Nat}{cs cs':aC}{e:aB}{c len cap c' CJ oR:Nat}{vs LH:dA}{v:V}{w':aP}(hb:s.H.get b=some (.ul eO sz cs e))(hu:HY g s.H.au.length w b eO sz cs e c len cap vs)
  (sP:∀k,k<w.heap.size->k≠c->w'.heap[k]?=w.heap[k]?) (fK:w.heap.size<=w'.heap.size) (pP:w'.os=w.os) (ht:w'.tape=w.tape) (nQ:w'.output=w.output) (ey:c'=c\/c'=w.heap.size)
  (bZ:w'.ownsRow 0 e sz (.slice (some ⟨c',0,none⟩) CJ oR) CJ LH) (ek:bN g cs' LH) (dy:aI cs'<=s.H.au.length) (gX:aI cs'<=max (aI cs) v.top) :
  ∃g',Rel B g' { s with H:=(s.H.set b (.ul (eO+1) sz cs' e)).bQ b v } a w'/\aR g' (.dw b (eO+1) CJ) (.slice (some ⟨c',0,none⟩) CJ oR):=by
 obtain⟨l6,uh⟩:=Tw h hb;have bR:c<w.heap.size:=(hu.row.lt c rfl).2;have Wr:c'<w'.heap.size:=(bZ.lt c' rfl).2;have eH:∀k,k<w.heap.size->(∀b',some b=some b'->g.bO b'≠k)->(∀l,some (Loc.cell b 0)=some l->g.own k≠some l)->k≠c:=λk _ h1 h2 e=>by
  subst e;rcases hu.CA with h3|h3
  ·exact h1 b rfl h3.symm
  ·exact h2 _ rfl h3
 let own:Nat->Option Loc:=λk=>if c'≠c/\k=c' then some (.cell b 0) else g.own k
 let g':Gh:=g.eO b (eO+1) (.slice (some ⟨c',0,none⟩) CJ oR) own
 have iK:∀k,k<w.heap.size->own k=g.own k:=λk hk=>by
  show(if _ then _ else _)=_
  rw[if_neg];rintro⟨h1,rfl⟩;rcases ey with h2|h2
  ·exact h1 h2
  ·omega
 have hle:Gh.Le s.H.au.length g g':=Gh.LG (hu.fresh _ (HT _));have Fw:g'.e_ b (eO+1)=some (.slice (some ⟨c',0,none⟩) CJ oR):=by simp[g',Gh.eO]
 have hS:gV B.d (some b) (some (.cell b 0)) s.H.au.length g w g' w' :=
  ⟨hle,λk hk h1 h2=>sP k hk (eH k hk h1 h2),λk hk _=>iK k hk,λ_ _ _ _=>rfl,fK,λ_ _ _=>rfl,λl hl=>.inr ⟨b,0,by cases hl;rfl,rfl⟩,λb' dg=>by cases dg;exact l6,
   λb' u dg b_=>by
    show(if _ then _ else _)=_
    rw[if_neg];rintro⟨rfl,_⟩;exact b_ rfl,pP,ht,nQ⟩
 refine⟨g',h.Fv hb hS rfl (λk o x hx=>?_) (λk l hk=>?_) ⟨c',CJ,oR,LH,Fw,hu.pos,bZ,?_,λo=>?_,λb' dg b_ e'=>?_,ek.len,λj x u hx hv=>⟨ek.one j x hx,?_⟩,λu hlu=>?_⟩ dy gX,.dw Fw⟩
 ·refine sP k (vo (h.de.mem k o x hx)) λe=>?_;subst e;rw[hu.M o] at hx;cases hx
 ·have:(if c'≠c/\k=c' then some (Loc.cell b 0) else g.own k)=some l:=hk
  split at this
  next e=>rw[e.2];exact Wr
  ·exact r9 (h.de.eo k l this) fK
 ·rcases ey with e'|e'
  ·subst e';rcases hu.CA with h1|h1
   ·exact .inl h1
   ·refine .inr ?_;show(if _ then _ else _)=_
    rw[if_neg (λe=>e.1 rfl)];exact h1
  ·refine .inr ?_;show(if _ then _ else _)=_
   rw[if_pos ⟨by omega,rfl⟩]
 ·show g.M c' o=none;rcases ey with e'|e'
  ·subst e';exact hu.M o
  ·cases hm:g.M c' o with
   | none=>rfl
   | some x=>have:=vo (h.de.mem _ _ _ hm);omega
 ·rcases ey with e2|e2
  ·subst e2;exact hu.others b' dg b_ e'
  ·have:=h.de.lt b' dg;have e3:g.bO b'=c':=e';omega
 ·exact(ek.rel j x u hx hv).le hle (cU (zn (zv hx)) dy)
 ·show(if _ then _ else _)=_
  rw[if_neg (λe=>by omega)]
  exact hu.fresh u (by omega)
theorem zgD{w:aP}{e:aB}{sz c len cap k:Nat}{vs:dA}(h:w.ownsRow 0 e sz (.slice (some ⟨c,0,none⟩) len cap) len vs)(hk:k<=len):w.ownsRow 0 e sz (.slice (some ⟨c,0,none⟩) k cap) k (vs.take (k * sz)):=by
 obtain⟨hl,h|⟨c',oR,cur,hv,h0,hb,h1,h2,h3,hx⟩⟩:=h
 ·cases h.1
 ·cases hv;have hm:k * sz<=len * sz:=K9 _ hk;refine⟨by rw[uJ,hl];omega,.inr ⟨c,cap,cur,rfl,h0,hb,by omega,h2,h3,?_⟩⟩
  rw[<- hx,List.take_take,Nat.min_eq_left hm]
theorem Ws(cs:aC)(k:Nat):aI (cs.take k)<=aI cs:=qq λ_ hx=>zn (Cw hx)
theorem zka{cx:Cx}(hP:cx.P=P)(h:Rel B g s a w){t:aB}{x:aX}{lo hi:Option aX}{r:OR}{s':St}(aD:cx.oQ t x lo hi s.env s.H s.lk s.defers=some (r,s')){o:Oper}(ho:o.op=.slice t x lo hi none) :
  ∃v,r=.val v/\ff P B s' a w o v:=by
 unfold Cx.oQ at aD;rw[hP] at aD;split at aD<;>try (cases aD;done)
 rotate_left
 next b off len cap Tc uc hx iB AQ=>split at aD<;>simp only[bu,reduceCtorEq,cw] at aD;rename_i v hv;obtain⟨rfl,rfl⟩:=aD;obtain⟨x1,x2,_⟩:=zI h hx;obtain⟨cv,e1,e2,e3,e4⟩:=zeF (P:=P) (n:=s.H.au.length) hv x1 (Ic h iB) (Ic h AQ) x2 w;exact⟨v,rfl,g,cv,w,by simp[execOp,ho,e1],h,e2,λd _=>e4 _ _,e3⟩
 rename_i e' b u len k hh ht hx iB AQ;split at aD<;>try (cases aD;done)
 rename_i m eO sz cs e hm hb;split at aD<;>try (cases aD;done)
 rename_i hc;simp only[eJ,qA,jc,bu,cw] at aD;obtain⟨rfl,rfl⟩:=aD;simp only[ei,decide_eq_true_eq] at hc;obtain⟨⟨hv,h0⟩,hle⟩:=hc;have hv:=eR hv;have hle:=r8 hle;subst hv;obtain⟨x1,x2,_⟩:=zI h hx;obtain⟨c,l0,cap,vs,hu,h2,h3⟩:=Tj h hb;have Wt:=Ic h iB;have Wu:=Ic h AQ;have nw:l0<=cap:=by
  obtain⟨_,hr|⟨_,_,_,hr,_,_,h5,_⟩⟩:=hu.row
  ·cases hr.1
  ·cases hr;exact h5
 generalize JO:a.eval x=Ty at x1;cases x1 with
 | dw hh' =>
  rw[hu.e_] at hh';cases hh';have dg:=xf (P:=P) (isSlice:=true) (len:=len) (cap:=cap) (l:=0) (h:=hh.toNat) Wt Wu (by simp[ke,h0]) rfl (dU _) hle nw w
  obtain⟨g',r1,r2⟩:=Tx (v:=.fE) h hb hu (λ_ _ _=>rfl) (dB _) rfl rfl rfl (.inl rfl) (zgD hu.row hle) (h2.take _) (cU (Ws _ _) h3) (cU (Ws _ _) (D4 _ _));refine⟨_,rfl,g',_,w,?_,r1,r2,λ_ _=>trivial,?_⟩
  ·have hs:(Instr.sliceAt t (.slice (some ⟨c,0,none⟩) len cap) (lo.map a.eval) (hi.map a.eval) none).run P w=.ok (.slice (some ⟨c,0,none⟩) hh.toNat cap) w:=by
    simp[Instr.sliceAt,run_underlying ht,Instr.slice,dg,jx hm,Addr.add_lit]
   simp[execOp,ho,JO,hs]
  ·have:((s.H.set b (.ul (eO+1) sz (cs.take (hh.toNat * sz)) e)).bQ b .fE).au.length=s.H.au.length:=by
    simp only[Hp.bQ,Hp.set];split<;>simp
   rw[this];have:=(Tw h hb).1;simp only[V.top];omega
end
section
variable{P:aQ}{B:dY}{g:Gh}{s:St}{a:Act}{w:aP}
theorem zcU{α:Type}(l vs:List α)(off m:Nat)(h:off+vs.length<=m)(hm:m<=l.length):(storeCells l off vs).take m=storeCells (l.take m) off vs:=by
 apply Fa;intro j;rw[AN,qG _ _ _ _ (by omega),qG _ _ _ _ (by rw[uJ];omega),AN]
 by_cases hj:j<m
 ·simp[hj]
 ·have:¬(off<=j/\j<off+vs.length):=by omega
  simp[hj,this]
theorem zgE(H:Hp)(b:Nat)(x:aT)(v:V):((H.set b x).bQ b v).au.length=H.au.length:=by
 simp only[Hp.bQ,Hp.set];split<;>simp
theorem zkb{w:aP}{e:aB}{sz c len cap off:Nat}{vs news:dA}(h:w.ownsRow 0 e sz (.slice (some ⟨c,0,none⟩) len cap) len vs)(hf:off+news.length<=vs.length)(h1:∀u∈news,u.oneCell'=true) :
  ∃w',(Go.storeCells ⟨c,off,none⟩ news 0).run P w=.ok () w'/\w'.ownsRow 0 e sz (.slice (some ⟨c,0,none⟩) len cap) len (storeCells vs off news)/\(∀k,k≠c->w'.heap[k]?=w.heap[k]?)/\w'.heap.size=w.heap.size/\w'.os=w.os/\w'.tape=w.tape/\w'.output=w.output:=by
 obtain⟨hl,h|⟨c',oR,cur,hv,h0,hb,Ig,h2,h3,hx⟩⟩:=h
 ·cases h.1
 ·cases hv;have Ch:vs.length<=cur.toList.length:=by rw[<- hx];simp;omega
  have ny:cur.toList.take off++news++cur.toList.drop (off+news.length)=storeCells cur.toList off news:=by
   have oU:cur.toList=cur.toList.take off++(cur.toList.drop off).take news.length++cur.toList.drop (off+news.length):=by
    rw[aY,<- List.drop_drop,Cu,Cu]
   have hlen:(cur.toList.take off).length=off:=by rw[uJ];omega
   have:=kS news ((cur.toList.drop off).take news.length) (cur.toList.take off) (cur.toList.drop (off+news.length)) (by rw[uJ,List.length_drop];omega)
   rw[hlen,<- oU] at this;rw[this]
  have fe:=run_storeCells_at P c off e news 0 cur w hb (by simp at Ch ⊢;omega) h1
  simp only[nC] at fe;rw[ny] at fe;refine⟨_,fe,⟨by rw[kF];exact hl,.inr ⟨c,cap,_,rfl,h0,setRow_heap w c _ _ _ _ hb,Ig,h2,by simp[kF,h3],?_⟩⟩,λk hk=>setRow_other w c k _ hk,setRow_size w c _,rfl,rfl,rfl⟩
  show(storeCells cur.toList off news).take (len * sz)=_;have hle:len * sz<=cur.toList.length:=by rw[<- hl];exact Ch
  rw[zcU _ _ _ _ (by omega) hle,hx]
theorem Rel.ep(h:Rel B g s a w){b eO sz:Nat}{cs cs':aC}{e:aB}{c len cap:Nat}{vs LH:dA}{v:V}{w':aP}(hb:s.H.get b=some (.ul eO sz cs e))(hu:HY g s.H.au.length w b eO sz cs e c len cap vs)
  (sP:∀k,k≠c->w'.heap[k]?=w.heap[k]?) (fK:w'.heap.size=w.heap.size) (pP:w'.os=w.os) (ht:w'.tape=w.tape) (nQ:w'.output=w.output)
  (bZ:w'.ownsRow 0 e sz (.slice (some ⟨c,0,none⟩) len cap) len LH) (ek:bN g cs' LH) (dy:aI cs'<=s.H.au.length) (gX:aI cs'<=max (aI cs) v.top) :
  Rel B g { s with H:=(s.H.set b (.ul eO sz cs' e)).bQ b v } a w':=by
 obtain⟨l6,uh⟩:=Tw h hb;have eH:∀k,k<w.heap.size->(∀b',some b=some b'->g.bO b'≠k)->(∀l,some (Loc.cell b 0)=some l->g.own k≠some l)->k≠c:=λk _ h1 h2 e=>by
  subst e;rcases hu.CA with h3|h3
  ·exact h1 b rfl h3.symm
  ·exact h2 _ rfl h3
 have hS:gV B.d (some b) (some (.cell b 0)) s.H.au.length g w g w' :=
  ⟨.refl _ _,λk hk h1 h2=>sP k (eH k hk h1 h2),λk hk _=>rfl,λ_ _ _ _=>rfl,by omega,λ_ _ _=>rfl,λl hl=>.inr ⟨b,0,by cases hl;rfl,rfl⟩,λb' dg=>by cases dg;exact l6,
   λb' u dg b_=>rfl,pP,ht,nQ⟩
 refine h.Fv hb hS rfl (λk o x hx=>?_) (λk l hk=>?_) ⟨c,len,cap,LH,hu.e_,hu.pos,bZ,hu.CA,hu.M,hu.others,ek.len,λj x u hx hv=>⟨ek.one j x hx,ek.rel j x u hx hv⟩,hu.fresh⟩ dy gX
 ·refine sP k λe=>?_;subst e;rw[hu.M o] at hx;cases hx
 ·rw[fK];exact h.de.eo k l hk
theorem bN.pS{cs:aC}{vs:dA}(h:bN g cs vs):∀u∈vs,u.oneCell'=true:=λu hu=>by
 obtain⟨j,hj⟩:=List.getElem?_of_mem hu;have pN:j<cs.length:=by rw[h.len];exact(cP.1 hj).1
 have hx:=fQ pN;exact(h.rel j _ u hx hj).n_ (h.one j _ hx)
theorem zkc(h:Rel B g s a w){t:aB}{p x:aX}{b eO k n sz:Nat}{v0 v:V}{cZ:aC}{cs:aC}{e:aB}(hp:ak s.env p=some (.gm b eO k))(hx:take s.env x=some (v0,cZ))(hv:aW v0=v)(hn:z8 P t=some n)
  (hb:s.H.get b=some (.ul eO sz cs e)) (eE:dD v=true) (hl:v.cells.length=n) (hle:k+n<=cs.length) :
  ∃g' w',(Instr.storeAt t (a.eval p) (a.eval x)).run P w=.ok () w'/\Rel B g' { s with env:=cZ,H:=(s.H.set b (.ul eO sz (storeCells cs k v.cells) e)).bQ b v } a w':=by
 obtain⟨p1,p2,_⟩:=zI h hp;obtain⟨g',h1,v1,_,v2,sM⟩:=vH h hx .ret;have v1:=v1.aW;rw[hv] at v1;have v2:v.top<=s.H.au.length:=by rw[<- hv,ji];exact v2
 have p1:=sM.rel p1;have dg:({ s with env:=cZ }:St).H.get b=some (.ul eO sz cs e):=hb;obtain⟨c,len,cap,vs,hu,h2,h3⟩:=Tj h1 dg;generalize Pu:a.eval p=cp at p1;cases p1 with
 | gm _ hh =>
  rw[hu.e_] at hh;cases hh;have ek:=vq v1 eE;have nR:(a.eval x).cells.size=n:=by rw[<- hl,ek.len];simp
  obtain⟨w',e1,e2,e3,e4,e5,e6,e7⟩:=zkb (P:=P) (off:=k) hu.row (by rw[<- hu.len,AM,nR];exact hle) ek.pS
  refine⟨g',w',?_,h1.ep (v:=v) dg hu e3 e4 e5 e6 e7 e2 (h2.store k ek) (vC h3 (cU (yB v) v2)) (cU y0 (ua.2 ⟨D4 _ _,cU (yB v) (HS _ _)⟩))⟩;unfold Instr.storeAt storeVar;simp[Instr.sureAddr,jx hn,nR,e1]
def Gh.pT(g:Gh)(n N:Nat)(v:bw):Gh:={ g.var n N with e_:=λb u=>if b=n then (if u=0 then some v else none) else g.e_ b u }
theorem Gh.Dv(g:Gh)(n N:Nat)(v:bw):Gh.Le n g (g.pT n N v) :=
 ⟨λ_ _ _ h=>h,λb hb=>by simp only[Gh.pT,Gh.var];rw[if_neg (by omega)],rfl,λb u x hb e=>by simp only[Gh.pT];rw[if_neg (by omega)];exact e⟩
theorem Rel.PJ(h:Rel B g s a w)(bO:aT){obj:Obj}{w':aP}{v:bw}(hw:w'.heap=w.heap.push obj)(pP:w'.os=w.os)(ht:w'.tape=w.tape)(nQ:w'.output=w.output)
  (eE:fU (g.pT s.H.au.length w.heap.size v) (s.H.au.length+1) w' s.H.au.length bO) (dy:bO.top<=s.H.au.length+1):Rel B (g.pT s.H.au.length w.heap.size v) { s with H:=s.H.push bO } a w':=by
 have hl:(s.H.push bO).au.length=s.H.au.length+1:=by simp[Hp.push]
 have cQ:∀b,b<s.H.au.length->(s.H.push bO).au[b]?=s.H.au[b]?:=λb hb=>by simp only[Hp.push];rw[fI hb]
 have rP:(s.H.push bO).au[s.H.au.length]?=some bO:=by simp[Hp.push]
 have hv:(g.pT s.H.au.length w.heap.size v).bO s.H.au.length=w.heap.size:=by simp[Gh.pT,Gh.var]
 have fK:w'.heap.size=w.heap.size+1:=by rw[hw];simp
 have hS:gV B.d none none s.H.au.length g w (g.pT s.H.au.length w.heap.size v) w' :=
  ⟨g.Dv _ _ _,λc hc _ _=>Tq hw hc,λ_ _ _=>rfl,λ_ _ _ _=>rfl,by rw[hw];simp,λ_ _ _=>rfl,λl hl=>(by cases hl),λb hb=>(by cases hb),λb u hb _=>by simp only[Gh.pT];rw[if_neg (by omega)],pP,ht,nQ⟩
 refine h.lE (s':={ s with H:=s.H.push bO }) hS (by rw[hl];omega) (λb hb _=>cQ b hb) (λb x hb hx=>?_) (λb h1 h2=>?_) (λb b' h1 h2 h3 h4 _=>?_) (λc o v hv=>?_) (λc l hc=>?_)
  (λb j e=>by cases e) rfl rfl (λt x hx=>⟨x,hx,.inl ⟨rfl,λe=>by cases e⟩⟩) ?_ (λb off ri=>vJ cQ (h.lV b off ri)) h.oB (λ_ e=>by cases e)
 ·have dg:b=s.H.au.length:=by
   rcases hb with hb|hb
   ·cases hb
   ·have:=(cP.1 hx).1;rw[hl] at this;omega
  subst dg;rw[rP] at hx;cases hx;rw[hl];exact⟨eE,dy⟩
 ·have:b=s.H.au.length:=by rw[hl] at h2;omega
  subst this;rw[hv];refine⟨dB _,by omega,?_,λo=>?_⟩
  ·show g.own w.heap.size=none;cases ho:g.own w.heap.size with
   | none=>rfl
   | some l=>have:=h.de.eo _ _ ho;omega
  ·show g.M w.heap.size o=none;cases hm:g.M w.heap.size o with
   | none=>rfl
   | some v=>have:=vo (h.de.mem _ _ _ hm);omega
 ·rw[hl] at h2 h4;omega
 ·rw[yA (Tq hw (vo (h.de.mem c o v hv)))];exact h.de.mem c o v hv
 ·have:=h.de.eo c l hc;omega
 ·intro b x hx;rcases eI b s.H.au.length with h1|h1
  ·rw[show({ s with H:=s.H.push bO }:St).H.au[b]?=s.H.au[b]? from cQ b h1] at hx;exact h.bC b x hx
  ·have dg:b=s.H.au.length:=by
    have:=(cP.1 hx).1;have mU:({ s with H:=s.H.push bO }:St).H.au.length=s.H.au.length+1:=hl;omega
   subst dg;rw[show({ s with H:=s.H.push bO }:St).H.au[s.H.au.length]?=some bO from rP] at hx;cases hx;exact .inl dy
theorem zld(h:Rel B g s a w){cs:aC}{vs:dA}{e:aB}{sz len cap:Nat}{cur:dF}{w':aP}(hw:w'.heap=w.heap.push (.cells cur e (0,0)))(pP:w'.os=w.os)(ht:w'.tape=w.tape)(nQ:w'.output=w.output)
  (si:0<sz) (bZ:w'.ownsRow 0 e sz (.slice (some ⟨w.heap.size,0,none⟩) len cap) len vs) (ek:bN g cs vs) (dy:aI cs<=s.H.au.length) :
  ∃g',Rel B g' { s with H:=s.H.push (.ul 0 sz cs e) } a w'/\aR g' (.dw s.H.au.length 0 len) (.slice (some ⟨w.heap.size,0,none⟩) len cap):=by
 have Fw:(g.pT s.H.au.length w.heap.size (.slice (some ⟨w.heap.size,0,none⟩) len cap)).e_ s.H.au.length 0=some (.slice (some ⟨w.heap.size,0,none⟩) len cap):=by simp[Gh.pT]
 refine⟨_,h.PJ (.ul 0 sz cs e) hw pP ht nQ ⟨w.heap.size,len,cap,vs,Fw,si,bZ,.inl (by simp[Gh.pT,Gh.var]),λo=>?_,λb' dg b_ e'=>?_,ek.len,λj x u hx hv=>⟨ek.one j x hx,?_⟩,λu hu=>?_⟩ (La dy),.dw Fw⟩
 ·show g.M w.heap.size o=none;cases hm:g.M w.heap.size o with
  | none=>rfl
  | some v=>have:=vo (h.de.mem _ _ _ hm);omega
 ·have h1:b'<s.H.au.length:=by omega
  have:=h.de.lt b' h1;simp only[Gh.pT,Gh.var] at e';rw[if_neg b_] at e';omega
 ·exact(ek.rel j x u hx hv).le (g.Dv _ _ _) (cU (zn (zv hx)) dy)
 ·simp only[Gh.pT,aF];rw[if_neg (by omega)]
theorem y4{w:aP}{e:aB}{sz k old:Nat}{z:bw}{vs:dA}{arr:dF}(ny:arr.toList=vs)(hl:vs.length=k * sz)(hz:z.cells.size=sz)(LA:k<=maxLen) :
  (w.drew.alloc (.cells (arr++Builtin.zeroCells z.cells (grownCap w k old e - k)) e)).ownsRow 0 e sz (.slice (some ⟨w.heap.size,0,none⟩) k (grownCap w k old e)) k vs:=by
 have Aa:=grownCap_ge w k old e;have pH:grownCap w k old e<=maxLen:=grownCap_le_maxLen w k old e LA;have oo:arr.size=k * sz:=by rw[<- hl,<- ny];simp
 refine⟨hl,.inr ⟨w.heap.size,_,_,rfl,dU _,heap_alloc_new w.drew _,Aa,pH,?_,?_⟩⟩
 ·rw[Array.size_append,oo,size_zeroCells,hz,<- t_];congr 1;omega
 ·rw[Array.toList_append,List.take_append_of_le_length (by simp;omega),ny]
  exact rM (by omega)
end
section
variable{P:aQ}{B:dY}{g:Gh}{s:St}{a:Act}{w:aP}
theorem zle(v:V):aW (aW v)=aW v:=by cases v<;>rfl
theorem xY(h:Rel B g s a w){b off:Nat}{cs L:aC}{tt:aB}{arr:dF}{news:dA}(hb:s.H.get b=some (.cells cs tt))(a1:w.heap[g.bO b]?=some (.cells arr tt (0,0)))(a2:bN g cs arr.toList)(a3:aI cs<=s.H.au.length)
  (a4:∀(j:Nat)(x:V)(v:bw),cs[j]?=some x->arr[j]?=some v->cN g s.H.au.length w (.cell b j) x v/\Pm g b j x v) (eu:bN g L news) (gE:∀q∈L,aW q=q) (Wv:aI L<=s.H.au.length) (c3:off+L.length<=cs.length) (oT:wz s.lk b off L.length (cs.drop off)=true) :
  Rel B g { s with H:=(s.H.set b (.cells (storeCells cs off L) tt)).bQ b (.br L) } a (w.setRow (g.bO b) (storeCells arr.toList off news).toArray):=by
 have oo:cs.length=arr.size:=by have:=a2.len;simpa using this
 have l6:b<s.H.au.length:=by simp only[Hp.get,zg] at hb;exact(cP.1 hb).1
 have lH:news.length=L.length:=eu.len.symm;have hLc:∀q∈L,(∀sz xs o,q=.sl sz xs o->o=.no):=λq hq sz xs o e=>by
  have:=gE q hq;subst e;simp[aW] at this;exact this.symm
 have CG:(w.setRow (g.bO b) (storeCells arr.toList off news).toArray).heap[g.bO b]?=some (.cells (storeCells arr.toList off news).toArray tt (0,0)):=setRow_heap w _ _ _ tt _ a1;have iR:gV B.d (some b) none s.H.au.length g w g (w.setRow (g.bO b) (storeCells arr.toList off news).toArray) :=
  ⟨.refl _ _,λc _ hc _=>setRow_other w _ c _ (λe=>hc b rfl e.symm),λ_ _ _=>rfl,λ_ _ _ _=>rfl,by simp[World.setRow],λ_ _ _=>rfl,λl hl=>(by cases hl),λb' dg=>(by cases dg;exact l6),λ_ _ _ _=>rfl,rfl,rfl,rfl⟩
 refine Rel.write (l:=s.lk) (v:=.br L) h (b:=b) (x0:=.cells cs tt) (x:=.cells (storeCells cs off L) tt) (N:=g.bO b) rfl hb (λc hc=>setRow_other w _ c _ hc) (by simp[World.setRow]) rfl rfl rfl
  ⟨_,CG,by simp[kF,oo],λj y u hy hu=>?_⟩ (vC a3 Wv) (.inr (.inr (.inr (cU y0 (ua.2 ⟨D4 _ _,HS _ _⟩))))) (λo iB=>?_) h.oB
 ·have fe:=a2.store off eu;have hr:=fe.rel j y u hy (by simpa using hu)
  refine⟨fe.one j y hy,hr,?_,?_⟩
  ·rw[qG _ _ _ _ (by omega)] at hy
   have nG:(storeCells arr.toList off news)[j]?=some u:=by simpa using hu
   rw[qG _ _ _ _ (by have:arr.toList.length=arr.size:=AM;omega)] at nG
   by_cases hj:off<=j/\j<off+L.length
   ·rw[if_pos hj] at hy;have:=hLc y (zv hy);cases y with
    | sl sz xs o=>have e:=this sz xs o rfl;subst e;trivial
    | _=>trivial
   ·rw[if_neg hj] at hy;rw[if_neg (by rw[lH];exact hj)] at nG
    exact cN.same iR (λe=>by cases e) (λb1 h2 h3=>absurd (show b1<s.H.au.length from h3) (Nat.not_lt.2 h2)) (a4 j y u hy (by simpa using nG)).1
  ·rw[qG _ _ _ _ (by omega)] at hy
   have nG:(storeCells arr.toList off news)[j]?=some u:=by simpa using hu
   rw[qG _ _ _ _ (by have:arr.toList.length=arr.size:=AM;omega)] at nG
   by_cases hj:off<=j/\j<off+L.length
   ·rw[if_pos hj] at hy;have:=hLc y (zv hy);cases y with
    | sl sz xs o=>have e:=this sz xs o rfl;subst e;trivial
    | _=>trivial
   ·rw[if_neg hj] at hy;rw[if_neg (by rw[lH];exact hj)] at nG
    exact(a4 j y u hy (by simpa using nG)).2
 ·obtain⟨Wa,t2',sz,xs,d1,d2⟩:=h.lV b o iB;have oq:s.H.au[b]?=some (.cells cs tt):=by simpa[Hp.get,zg] using hb
  rw[oq] at d1;cases d1;refine⟨_,_,sz,xs,rfl,?_⟩;rw[qG _ _ _ _ (by omega)]
  by_cases hj:off<=o/\o<off+L.length
  ·have:=V_ oT (o - off) (.sl sz xs .lock) (by omega) (by rw[HR,show off+(o - off)=o by omega];exact d2) rfl
   rw[show off+(o - off)=o by omega] at this
   exact absurd iB (h.oB _ this)
  ·rw[if_neg hj];exact d2
theorem zh1{cx:Cx}(hP:cx.P=P)(h:Rel B g s a w){t ty:aB}{x y:aX}{r:OR}{s':St}(aD:cx.mV t x y s.env s.H s.lk s.defers=some (r,s')) :
  ∃v g' cv w',r=.val v/\(Builtin.append_ #[t,t] ty #[a.eval x,a.eval y]).run P w=.ok cv w'/\Rel B g' s' a w'/\aR g' v cv/\(∀n l,cN g' n w' l v cv)/\v.top<=s'.H.au.length:=by
 unfold Cx.mV at aD;rw[hP] at aD;simp only[Option.bind_eq_bind,eL] at aD;obtain⟨td,ht,aD⟩:=aD;split at aD<;>try (cases aD;done)
 rename_i e;simp only[eL] at aD;obtain⟨n,hn,i,hi,z,hz,yv,hy,ys,tH,aD⟩:=aD;have ug:=Wh hn hi;split at aD<;>try (cases aD;done)
 rename_i rQ;simp only[tX,not_or,JG,Bool.not_eq_false'] at rQ;have EO:z.cells.size=n:=eR (by simpa using rQ.1)
 have Bj:0<n:=by
  rcases JD n with e|e
  ·subst e;simp at rQ
  ·exact e
 simp only[eL] at aD;obtain⟨xv,hx,aD⟩:=aD;obtain⟨y1,y3,_⟩:=zI h hy;obtain⟨x1,x3,x4⟩:=zI h hx;clear x4;have gG:=ym h hn tH y1 y3;have ry:∀m,kA m i.bytes=true->m<=maxLen/\m * i.bytes<=140737488355328:=λm hm=>by
  simp only[kA,ei] at hm;exact⟨by have:=r8 hm.1;simp only[maxLen];omega,r8 hm.2⟩
 split at aD
 ·have JN:=x1.pR;split at aD
  ·simp only[bu,cw] at aD;obtain⟨rfl,rfl⟩:=aD;obtain⟨ad,cap,oe,_⟩:=gG.form;refine⟨.aG,g,.slice none 0 0,w,rfl,?_,h,.aG,λ_ _=>trivial,dU _⟩;rw[JN,oe];exact w5 (P:=P) (ty:=ty) ht hn _ none 0 0 rfl (dB _) ad cap w
  ·rename_i b_;have b_:ys≠[]:=λe=>b_ e;split at aD<;>try (cases aD;done)
   rename_i Eh;simp only[di,qA,qn,bu,cw] at aD;obtain⟨rfl,rfl⟩:=aD;obtain⟨ad,cy,oe,lG⟩:=gG.form;obtain⟨a0,news,rfl,ek,gI⟩:=lG b_;obtain⟨m1,m2⟩:=ry _ Eh;have si:0<ys.length:=K_.2 b_;have lH:news.length=ys.length * i.size:=by rw[<- ek.len,qK gG.sized,ug]
   have bZ:=y4 (w:=w) (e:=e) (old:=0) (k:=ys.length) (sz:=n) (z:=z) (arr:=news.toArray) (vs:=news) (by simp) (by rw[lH,ug]) EO m1
   have rz:bN g (bX ys) news:=by rw[fh];exact ek
   obtain⟨g',r1,r2⟩:=zld (w':=w.drew.alloc (.cells (news.toArray++Builtin.zeroCells z.cells (grownCap w ys.length 0 e - ys.length)) e)) h rfl rfl rfl rfl Bj bZ rz (by rw[fh];exact cU yl gG.aI)
   refine⟨_,g',_,_,rfl,?_,r1,r2,λ_ _=>trivial,by simp[V.top,Hp.push]⟩
   rw[JN,oe];exact run_append_nil (P:=P) w t ty e i z ht hi hz a0 ys.length cy news lH gI si (by simp only[maxLen] at m1;omega) (by omega)
 ·rename_i b u len;split at aD<;>try (cases aD;done)
  rename_i eO sz cs e' hb;split at aD<;>try (cases aD;done)
  rename_i hc;simp only[di,qA,jc,bu,cw] at aD;obtain⟨rfl,rfl⟩:=aD;simp only[ei] at hc;obtain⟨⟨⟨c1,c2⟩,c3⟩,Eh⟩:=hc;have c1:=eR c1;have c2:=eR c2;have c3:=eR c3;subst c1;subst c2;subst c3;obtain⟨m1,m2⟩:=ry _ Eh;obtain⟨c,l0,cap,vs,hu,h2,h3⟩:=Tj h hb;have AS:aI (cs++bX ys)<=max (aI cs) (V.br ys).top:=by
   refine qq λq hq=>?_;rcases oM.1 hq with hq|hq
   ·exact cU (zn hq) (D4 _ _)
   ·rw[fh] at hq;exact cU (xU hq) (HS _ _)
  have LI:aI (cs++bX ys)<=s.H.au.length:=cU AS (ua.2 ⟨h3,gG.aI⟩);have dy:(V.dw b (eO+1) (len+ys.length)).top<=((s.H.set b (.ul (eO+1) n (cs++bX ys) e)).bQ b (.br ys)).au.length:=by
   rw[zgE];have:=(Tw h hb).1;simp only[V.top];omega
  generalize JO:a.eval x=Ty at x1;cases x1 with
  | dw hh =>
   rw[hu.e_] at hh;cases hh
   by_cases b_:ys=[]
   ·subst b_;obtain⟨ad,oR,oe,_⟩:=gG.form;have Bi:len<=cap:=by
     obtain⟨_,hr|⟨_,_,_,hr,_,_,h5,_⟩⟩:=hu.row
     ·cases hr.1
     ·cases hr;exact h5
    obtain⟨g',r1,r2⟩:=Tx (v:=.br []) h hb hu (λ_ _ _=>rfl) (dB _) rfl rfl rfl (.inl rfl) hu.row (cs':=cs++bX []) (by simpa[bX] using h2) LI AS
    refine⟨_,g',_,w,rfl,?_,r1,r2,λ_ _=>trivial,dy⟩;rw[oe];exact w5 (P:=P) (ty:=ty) ht hn _ (some ⟨c,0,none⟩) len cap rfl Bi ad oR w
   ·obtain⟨ad,cy,oe,lG⟩:=gG.form;obtain⟨a0,news,rfl,ek,gI⟩:=lG b_;have si:0<ys.length:=K_.2 b_;have lH:news.length=ys.length * i.size:=by rw[<- ek.len,qK gG.sized,ug]
    have rz:bN g (bX ys) news:=by rw[fh];exact ek
    have dH:bN g (cs++bX ys) (vs++news):=by
     refine⟨by simp only[aV,h2.len,rz.len],λj q hq=>?_,λj q v' hq lX=>?_⟩
     ·rcases eI j cs.length with h4|h4
      ·rw[fI h4] at hq;exact h2.one j q hq
      ·rw[eM h4] at hq;exact rz.one _ q hq
     ·rcases eI j cs.length with h4|h4
      ·rw[fI h4] at hq;rw[fI (by rw[<- h2.len];exact h4)] at lX
       exact h2.rel j q v' hq lX
      ·rw[eM h4] at hq;rw[eM (by rw[<- h2.len];exact h4),<- h2.len] at lX
       exact rz.rel _ q v' hq lX
    obtain⟨Ch,hr|⟨c',oR,cur,hr,_,lI,Bi,pH,nR,mH⟩⟩:=id hu.row
    ·cases hr.1
    cases hr;have hlen:(vs++news).length=(len+ys.length) * n:=by rw[aV,Ch,lH,ug,t_]
    by_cases Fs:len+ys.length<=cap
    ·have Im:len * i.size+news.length<=cur.size:=by rw[lH,ug,nR,<- t_];exact K9 _ Fs
     have cj:=run_append_room (P:=P) w t ty e i ht hi c len cap cur lI a0 ys.length cy news lH gI ek.pS Fs Im;rw[ug] at cj Im;have bZ:(w.setRow c (cur.toList.take (len * n)++news++cur.toList.drop (len * n+news.length)).toArray).ownsRow 0 e n (.slice (some ⟨c,0,none⟩) (len+ys.length) cap) (len+ys.length) (vs++news):=by
      refine⟨hlen,.inr ⟨c,cap,_,rfl,dU _,setRow_heap w c cur _ e _ lI,Fs,pH,?_,?_⟩⟩
      ·simp only[List.size_toArray,aV,uJ,List.length_drop,AM];omega
      ·rw[mH,<- hlen];exact List.take_left
     obtain⟨g',r1,r2⟩:=Tx (v:=.br ys) h hb hu (λk _ hk=>setRow_other w c k _ hk) (Nat.le_of_eq (setRow_size w c _).symm) rfl rfl rfl (.inl rfl) bZ dH LI AS;refine⟨_,g',_,_,rfl,?_,r1,r2,λ_ _=>trivial,dy⟩;rw[oe];exact cj
    ·have bZ:=y4 (w:=w) (e:=e) (old:=cap) (k:=len+ys.length) (sz:=n) (z:=z) (arr:=vs.toArray++news.toArray) (vs:=vs++news) (by simp) hlen EO m1
     obtain⟨g',r1,r2⟩:=Tx (v:=.br ys) h hb hu (λk hk _=>heap_alloc_old w.drew _ hk) (by simp) rfl rfl rfl (.inr rfl) bZ dH LI AS
     refine⟨_,g',_,_,rfl,?_,r1,r2,λ_ _=>trivial,dy⟩;rw[oe];exact run_append_grow (P:=P) w t ty e i z ht hi hz ⟨c,0,none⟩ len cap vs (by rw[Ch,ug]) (hu.row.cells rfl) a0 ys.length cy news lH gI (by omega) (by simp only[maxLen] at m1;omega) (growslice_fits (by omega) m2)
 ·rename_i b off len cap;split at aD<;>try (cases aD;done)
  rename_i cs tt hb;split at aD
  ·rename_i hc;simp only[di,qA,jc,bu,cw] at aD;obtain⟨rfl,rfl⟩:=aD;simp only[ei] at hc;obtain⟨⟨⟨⟨⟨⟨c1,c2⟩,c3⟩,c4⟩,c5⟩,c6⟩,oT⟩:=hc;have c1:=eR c1;have c2:=eR c2;have c3:=eR c3;have c4:=eR c4;have c5:=r8 c5;have c6:=r8 c6;subst c1;subst c2;subst c3;rw[fh] at c4 ⊢;have l6:b<s.H.au.length:=by simp only[Hp.get,zg] at hb;exact(cP.1 hb).1
   have dy:(V.sr b 0 (len+ys.length) cap).top<=((s.H.set b (.cells (storeCells cs len ((zw ys).map aW)) tt)).bQ b (.br ((zw ys).map aW))).au.length:=by
    rw[zgE];simp only[V.top];omega
   generalize JO:a.eval x=Ty at x1;cases x1 with
   | sr Bi =>
    obtain⟨arr,a1,a2,a3,a4⟩:=xg h hb;have oo:cs.length=arr.size:=by have:=a2.len;simpa using this
    obtain⟨ad,cy,oe,lG⟩:=gG.form;have bR:aI ((zw ys).map aW)<=s.H.au.length:=by
     rw[eX];exact cU yl gG.aI
    have gE:∀q∈(zw ys).map aW,aW q=q:=λq hq=>by
     obtain⟨q',_,rfl⟩:=iH.1 hq;exact zle q'
    by_cases b_:ys=[]
    ·subst b_;have:=xY (news:=[]) (off:=len) h hb a1 a2 a3 a4 (L:=[]) ⟨rfl,λ_ _ e=>by simp at e,λ_ _ _ e=>by simp at e⟩ (λq hq=>by cases hq) (dU _) (by simp at c6 ⊢;omega) (by simp[wz])
     have e1:(w.setRow (g.bO b) (storeCells arr.toList len []).toArray)=w:=by
      show w.setRow (g.bO b) arr.toList.toArray=w;rw[Array.toArray_toList];exact setRow_self w _ arr _ _ a1
     rw[e1] at this;refine⟨_,g,_,w,rfl,?_,by simpa[zw] using this,.sr (by simpa using Bi),λ_ _=>trivial,dy⟩
     rw[oe];exact w5 (P:=P) (ty:=ty) ht hn _ (some ⟨g.bO b,0,none⟩) len cap rfl Bi ad _ w
    ·obtain⟨a0,news,rfl,ek,gI⟩:=lG b_;have lH:news.length=ys.length:=by rw[<- ek.len,qK gG.sized,JI]
     have cj:=run_append_room (P:=P) w t ty tt i ht hi (g.bO b) len cap arr a1 a0 ys.length cy news (by rw[lH,ug,JI]) gI ek.pS c5 (by rw[lH,ug];omega)
     have dH:=xY (off:=len) h hb a1 a2 a3 a4 (L:=(zw ys).map aW) (news:=news) ek.Ad gE bR (by rw[c4];exact c6) (by rw[c4];exact oT)
     have ny:arr.toList.take (len * i.size)++news++arr.toList.drop (len * i.size+news.length)=storeCells arr.toList len news:=by
      rw[ug,JI];have oU:arr.toList=arr.toList.take len++(arr.toList.drop len).take ys.length++arr.toList.drop (len+ys.length):=by
       rw[aY,<- List.drop_drop,Cu,Cu]
      have hlen:(arr.toList.take len).length=len:=by rw[uJ,AM];omega
      have:=kS news ((arr.toList.drop len).take ys.length) (arr.toList.take len) (arr.toList.drop (len+ys.length)) (by have hL:arr.toList.length=arr.size:=AM;simp only[uJ,List.length_drop];omega)
      rw[hlen,<- oU] at this;rw[this,lH]
     rw[ny] at cj;refine⟨_,g,_,_,rfl,?_,dH,.sr (by omega),λ_ _=>trivial,dy⟩
     rw[oe];exact cj
  ·rename_i eH;split at aD<;>try (cases aD;done)
   rename_i xs pG;split at aD<;>try (cases aD;done)
   rename_i hc;simp only[di,qA,qn,bu,cw] at aD;obtain⟨rfl,rfl⟩:=aD;simp only[ei] at hc;obtain⟨⟨⟨c1,c2⟩,c3⟩,Eh⟩:=hc;have c1:=eR c1;have c2:=r8 c2;have c3:=r8 c3;obtain⟨m1,m2⟩:=ry _ Eh;have LJ:=ym h hn pG x1 x3;obtain⟨ad1,Tz,lg,LL⟩:=LJ.form;have hxn:xs≠[]:=λe=>by rw[e] at c1;simp at c1;omega
   obtain⟨a1,Bl,rfl,pP,Ip⟩:=LL hxn;have nw:Tz=cap/\len<=cap:=by
    rw[lg] at x1;cases x1 with
    | sr Bi=>exact⟨rfl,Bi⟩
   obtain⟨rfl,Bi⟩:=nw;obtain⟨ad,cy,oe,lG⟩:=gG.form;have si:0<ys.length:=by omega
   have b_:ys≠[]:=λe=>by rw[e] at si;simp at si
   obtain⟨a0,news,rfl,ek,gI⟩:=lG b_;have lH:news.length=ys.length * i.size:=by rw[<- ek.len,qK gG.sized,ug]
   have Eg:Bl.length=len * i.size:=by rw[<- pP.len,qK LJ.sized,ug,c1]
   have h2:bN g (bX xs) Bl:=by rw[fh];exact pP
   have rz:bN g (bX ys) news:=by rw[fh];exact ek
   have dH:bN g (bX xs++bX ys) (Bl++news):=by
    refine⟨by simp only[aV,h2.len,rz.len],λj q hq=>?_,λj q v' hq lX=>?_⟩
    ·rcases eI j (bX xs).length with h4|h4
     ·rw[fI h4] at hq;exact h2.one j q hq
     ·rw[eM h4] at hq;exact rz.one _ q hq
    ·rcases eI j (bX xs).length with h4|h4
     ·rw[fI h4] at hq;rw[fI (by rw[<- h2.len];exact h4)] at lX
      exact h2.rel j q v' hq lX
     ·rw[eM h4] at hq;rw[eM (by rw[<- h2.len];exact h4),<- h2.len] at lX
      exact rz.rel _ q v' hq lX
   have hlen:(Bl++news).length=(len+ys.length) * n:=by rw[aV,Eg,lH,ug,t_]
   have bZ:=y4 (w:=w) (e:=e) (old:=Tz) (k:=len+ys.length) (sz:=n) (z:=z) (arr:=Bl.toArray++news.toArray) (vs:=Bl++news) (by simp) hlen EO m1
   have AS:aI (bX xs++bX ys)<=s.H.au.length:=by
    refine qq λq hq=>?_;rcases oM.1 hq with hq|hq
    ·rw[fh] at hq;exact cU (xU hq) LJ.aI
    ·rw[fh] at hq;exact cU (xU hq) gG.aI
   obtain⟨g',r1,r2⟩:=zld (w':=w.drew.alloc (.cells (Bl.toArray++news.toArray++Builtin.zeroCells z.cells (grownCap w (len+ys.length) Tz e - (len+ys.length))) e)) h rfl rfl rfl rfl Bj bZ dH AS;refine⟨_,g',_,_,rfl,?_,r1,r2,λ_ _=>trivial,by simp[V.top,Hp.push]⟩
   rw[lg,oe,c1];exact run_append_grow (P:=P) w t ty e i z ht hi hz a1 len Tz Bl Eg Ip a0 ys.length cy news lH gI (by omega) (by simp only[maxLen] at m1;omega) (growslice_fits (by omega) m2)
 ·cases aD
theorem zlf{cx:Cx}(hP:cx.P=P)(h:Rel B g s a w){t t2 ty:aB}{x y:aX}{r:OR}{s':St}(aD:cx.sI t x y s.env s.H s.lk s.defers=some (r,s')) :
  ∃v g' cv w',r=.val v/\(Builtin.copy_ #[t,t2] ty #[a.eval x,a.eval y]).run P w=.ok cv w'/\Rel B g' s' a w'/\aR g' v cv/\(∀n l,cN g' n w' l v cv)/\v.top<=s'.H.au.length:=by
 unfold Cx.sI at aD;rw[hP] at aD;simp only[Option.bind_eq_bind,eL] at aD;obtain⟨td,ht,aD⟩:=aD;split at aD<;>try (cases aD;done)
 rename_i e;simp only[eL] at aD;obtain⟨n,hn,yv,hy,ys,tH,xv,hx,aD⟩:=aD;obtain⟨y1,y3,_⟩:=zI h hy;obtain⟨x1,x3,x4⟩:=zI h hx;clear x4;have gG:=ym h hn tH y1 y3;split at aD<;>try (cases aD;done)
 rename_i b off len cap;split at aD<;>try (cases aD;done)
 rename_i cs tt hb;split at aD<;>try (cases aD;done)
 rename_i hc;simp only[di,jc,bu,cw] at aD;obtain⟨rfl,rfl⟩:=aD;simp only[ei] at hc;obtain⟨⟨⟨c1,c2⟩,c3⟩,oT⟩:=hc;have c1:=eR c1;have c2:=eR c2;have c3:=r8 c3;subst c1;rw[fh] at c2;have Bm:(P.info? e).map (·.size)=some 1:=hn;generalize hm:min len ys.length=m at c2 c3 oT ⊢;generalize JO:a.eval x=Ty at x1;cases x1 with
 | sr Bi =>
  obtain⟨arr,a1,a2,a3,a4⟩:=xg h hb;have oo:cs.length=arr.size:=by have:=a2.len;simpa using this
  have l6:b<s.H.au.length:=by simp only[Hp.get,zg] at hb;exact(cP.1 hb).1
  obtain⟨ad,cy,oe,lG⟩:=gG.form;obtain⟨news,eu,cj⟩:∃news,bN g ((zw (ys.take m)).map aW) news/\(Builtin.copy_ #[t,t2] ty #[.slice (some ⟨g.bO b,off,none⟩) len cap,a.eval y]).run P w=.ok (goInt m) (w.setRow (g.bO b) (storeCells arr.toList off news).toArray):=by
   by_cases b_:ys=[]
   ·subst b_;have Dw:m=0:=by rw[<- hm];simp
    subst Dw;refine⟨[],⟨by simp[zw],λ_ _ e=>by simp[zw] at e,λ_ _ _ e=>by simp[zw] at e⟩,?_⟩
    rw[oe];have e1:(w.setRow (g.bO b) (storeCells arr.toList off []).toArray)=w:=by
     show w.setRow (g.bO b) arr.toList.toArray=w;rw[Array.toArray_toList];exact setRow_self w _ arr _ _ a1
    rw[e1];simp only[z8,mA] at hn;obtain⟨i,hi,Ag⟩:=hn;cases ad<;>simp[Builtin.copy_,run_underlying ht,Builtin.lenOf,Builtin.firstCells,sizeOf,typeInfo,hi,Go.storeCells,loadCells,loadCellsFrom]
   ·obtain⟨a0,news,rfl,ek,gI⟩:=lG b_;have lH:news.length=ys.length:=by rw[<- ek.len,qK gG.sized];simp
    have Ci:m<=ys.length:=by omega
    have G4:zw (ys.take m)=(zw ys).take m:=by
     have h1:zw ys=zw (ys.take m)++zw (ys.drop m):=by rw[<- xV,Cu]
     have h2:(zw (ys.take m)).length=m:=by rw[qK (sz:=1) λy hy=>gG.sized y (Cw hy)];simp;omega
     rw[h1,List.take_append_of_le_length (by omega)];exact(rM (by omega)).symm
    refine⟨news.take m,by rw[G4];exact(ek.take m).Ad,?_⟩
    have G5:=run_copy_row P w t t2 ty e (g.bO b) off len cap a0 ys.length cy arr tt (news.take m) ht Bm a1 (by rw[uJ,lH,<- hm];show min (min len ys.length) ys.length=min ys.length len;omega) (λj v hv=>gI j v (by
     rw[AN] at hv;split at hv
     ·exact hv
     ·cases hv)) (by rw[uJ,lH];omega) (ek.take m).pS
    rw[oe,G5];have e1:(news.take m).length=m:=by rw[uJ,lH];omega
    have ny:arr.toList.take off++news.take m++arr.toList.drop (off+(news.take m).length)=storeCells arr.toList off (news.take m):=by
     have oU:arr.toList=arr.toList.take off++(arr.toList.drop off).take m++arr.toList.drop (off+m):=by
      rw[aY,<- List.drop_drop,Cu,Cu]
     have hlen:(arr.toList.take off).length=off:=by rw[uJ,AM];omega
     have:=kS (news.take m) ((arr.toList.drop off).take m) (arr.toList.take off) (arr.toList.drop (off+m)) (by rw[uJ,List.length_drop,AM];omega)
     rw[hlen,<- oU] at this;rw[this,e1]
    rw[ny,e1]
  have lH:news.length=m:=eu.len.symm.trans c2;simp only[fh];generalize hL:(zw (ys.take m)).map aW=L at *;have Wv:aI L<=s.H.au.length:=by
   rw[<- hL,eX];exact cU yl (cU (Ws _ _) gG.aI)
  refine⟨_,g,_,_,rfl,cj,xY h hb a1 a2 a3 a4 eu (λq hq=>?_) Wv (by omega) (by rw[c2];exact oT),.int _ _,λ_ _=>trivial,dU _⟩
  rw[<- hL] at hq;obtain⟨q',_,rfl⟩:=iH.1 hq;exact zle q'
end
section
variable{P:aQ}{B:dY}{g:Gh}{s:St}{a:Act}{w:aP}
structure oX(P:aQ)(cx:Cx)(B:dY):Prop where
 prog:cx.P=P
 num:yC P
 Ww:va P
 gl:gF P cx.gl B.g
 calls:∃d,d<B.d/\xz P cx.gl cx.call d
theorem ff.ends{s':St}{o:Oper}{v:V}(hv:ff P B s' a w o v){r:OR}(hr:r=.val v){K:Act->aP->Prop}{Q:Exit->Act->aP->Prop}(hE:Ends P B o r s' K Q):o.wp P a w K Q :=
 zpq hv λg' cv w' hk=>hE.val v hr g' cv a w' hk
theorem oW.ends{s':St}{o:Oper}(hv:oW P B s' a w o){r:OR}(hr:r=.skip){K:Act->aP->Prop}{Q:Exit->Act->aP->Prop}(hE:Ends P B o r s' K Q):o.wp P a w K Q :=
 wp_skip hv λg' w' hk=>hE.skip hr g' a w' hk
theorem Wx(h:Rel B g s a w){xs:r_}{vs:aC}(hp:az s.env xs.toList=some vs):vs.length=(xs.map a.eval).size/\(∀(j:Nat)(x:V)(v:bw),vs[j]?=some x->(xs.map a.eval)[j]?=some v->aR g x v)/\aI vs<=s.H.au.length:=by
 obtain⟨h1,h2,h3,_⟩:=Tk h hp;refine⟨by simp[h1],λj x v hx hv=>h2 j x v hx ?_,h3⟩
 rw[<- E9] at hv;simpa using hv
theorem Iq{cx:Cx}(lg:oX P cx B)(h:Rel B g s a w){takes:cg}{o:Oper}{r:OR}{s':St}(aD:cx.op takes o s.env s.H s.lk s.defers=some (r,s')){K:Act->aP->Prop}{Q:Exit->Act->aP->Prop}(hE:Ends P B o r s' K Q):o.wp P a w K Q:=by
 obtain⟨hP,fX,dW,rm,d,hd,dz⟩:=lg;subst hP;have Ei:gF cx.P cx.gl g:=rm.le h.fr.le;have read:∀v,qZ cx.P cx.gl o s.env s.H=some v->r=.val v->s'=s->o.wp cx.P a w K Q:=by
  intro v hv hr hs;subst hs;exact ff.ends (Tn h Ei hv) hr hE
 have uN:(match qZ cx.P cx.gl o s.env s.H with|none=>none|some v=>some (OR.val v,(⟨s.env,s.H,s.lk,s.defers⟩:St)))=some (r,s')->o.wp cx.P a w K Q:=by
  intro hh;split at hh<;>simp only[bu,reduceCtorEq,cw] at hh;rename_i v hv;exact read v hv hh.1.symm hh.2.symm
 unfold Cx.op at aD;simp only at aD;split at aD
 ·rename_i x ho;split at aD
  ·split at aD<;>simp only[bu,reduceCtorEq,cw] at aD;rename_i v cZ ht;obtain⟨rfl,rfl⟩:=aD;exact(zgy h ht (.inl ho)).ends rfl hE
  ·exact uN aD
 next x ho=>split at aD<;>simp only[bu,reduceCtorEq,cw] at aD;rename_i v cZ ht;obtain⟨rfl,rfl⟩:=aD;exact(zgy h ht (.inr ho)).ends rfl hE
 ·rename_i t p ho;split at aD
  ·exact uN aD
  ·split at aD<;>try (cases aD;done)
   ·rename_i b off Ef hp;split at aD<;>try (cases aD;done)
    rename_i cs ty hb;split at aD<;>try (cases aD;done)
    next sz xs e hc=>simp only[eW,jc,bu,cw] at aD;obtain⟨rfl,rfl⟩:=aD;rw[zg] at hc;have:=znq h Ef hp hb hc ho;refine ff.ends (v:=.sl sz xs (.yes e)) ?_ rfl hE;simpa[Hp.bQ,V.top] using this
    ·rename_i hc;simp only[bu,cw] at aD;obtain⟨rfl,rfl⟩:=aD;rw[zg] at hc;have hl:zl cx.P s.H cx.gl t (.ptr b off)=some .aG:=by
      simp[zl,hb,kT,Ef,zg,hc]
     have JP:qZ cx.P cx.gl o s.env s.H=some .aG:=by
      obtain⟨dst,op,type,pos,after,guard⟩:=o;simp only at ho;subst ho;simp[qZ,hp,hl,aW]
     exact ff.ends (Tn h Ei JP) rfl hE
    ·rename_i c9 u9 n9 hc;simp only[bu,cw] at aD;obtain⟨rfl,rfl⟩:=aD;rw[zg] at hc;have hl:zl cx.P s.H cx.gl t (.ptr b off)=some (.dw c9 u9 n9):=by
      simp[zl,hb,kT,Ef,zg,hc]
     have JP:qZ cx.P cx.gl o s.env s.H=some (.dw c9 u9 n9):=by
      obtain⟨dst,op,type,pos,after,guard⟩:=o;simp only at ho;subst ho;simp[qZ,hp,hl,aW]
     exact ff.ends (Tn h Ei JP) rfl hE
   ·rename_i cs Ef hp;split at aD<;>try (cases aD;done)
    rename_i c9 o9 l9 k9 hc;simp only[bu,cw] at aD;obtain⟨rfl,rfl⟩:=aD;have hl:zl cx.P s.H cx.gl t (.vp cs)=some (.sr c9 o9 l9 k9):=by
     simp[zl,kT,Ef,zg] at hc ⊢;simp[hc]
    have JP:qZ cx.P cx.gl o s.env s.H=some (.sr c9 o9 l9 k9):=by
     obtain⟨dst,op,type,pos,after,guard⟩:=o;simp only at ho;subst ho;simp[qZ,hp,hl,aW]
    exact ff.ends (Tn h Ei JP) rfl hE
 ·rename_i t ho;split at aD<;>try (cases aD;done)
  rename_i z hz;split at aD<;>try (cases aD;done)
  rename_i eE;simp only[qm,qn,bu,cw] at aD;obtain⟨rfl,rfl⟩:=aD;exact(zk8 h hz (by simpa using eE) ho).ends rfl hE
 ·rename_i t x ho;split at aD<;>try (cases aD;done)
  rename_i v cZ ht;split at aD<;>try (cases aD;done)
  rename_i eE;simp only[qm,di,qn,bu,cw] at aD;obtain⟨rfl,rfl⟩:=aD;exact(zpp h ht (by simpa using eE) ho).ends rfl hE
 ·rename_i t p x ho;split at aD<;>try (cases aD;done)
  ·rename_i b off hp;split at aD<;>try (cases aD;done)
   rename_i v cZ n cs ty ht hn hb;simp only[qm,di,eJ,jc] at aD;split at aD<;>simp only[bu,reduceCtorEq,cw] at aD;rename_i hc;obtain⟨rfl,rfl⟩:=aD;simp only[ei] at hc;obtain⟨g',w',h1,h2⟩:=zk6 h hp ht hn hb hc.1.1.1 (eR hc.1.1.2) (r8 hc.1.2) hc.2;exact oW.ends ⟨g',w',by simp[execOp,ho,h1],h2⟩ rfl hE
  ·rename_i b u k hp;split at aD<;>try (cases aD;done)
   rename_i xv cZ n eO sz cs e hx hn hb;simp only[qm,eJ,jc] at aD;split at aD<;>simp only[bu,reduceCtorEq,cw] at aD;rename_i hc;obtain⟨rfl,rfl⟩:=aD;simp only[ei] at hc;have hv:=eR hc.1.1.1;subst hv;obtain⟨g',w',h1,h2⟩:=zkc h hp hx rfl hn hb hc.1.1.2 (eR hc.1.2) (r8 hc.2);exact oW.ends ⟨g',w',by simp[execOp,ho,h1],h2⟩ rfl hE
 ·rename_i t rr ho;split at aD<;>try (cases aD;done)
  simp only[qn,bu,cw] at aD;obtain⟨rfl,rfl⟩:=aD;exact(zhY h ho).ends rfl hE
 ·rename_i t l c ho;split at aD<;>try (cases aD;done)
  rename_i e k lv k' cv ht hl hc;split at aD<;>try (cases aD;done)
  rename_i n i z hn hi hz;split at aD<;>try (cases aD;done)
  rename_i rQ;have hm:=zfo h ht hl hc hn hi hz (Bool.eq_false_iff.2 rQ) ho;split at aD
  ·simp only[di,qA,qn,bu,cw] at aD;obtain⟨rfl,rfl⟩:=aD;exact hm.2.ends rfl hE
  split at aD
  next h0=>simp only[bu,cw] at aD;obtain⟨rfl,rfl⟩:=aD;exact(hm.1 h0).ends rfl hE
  ·split at aD<;>try (cases aD;done)
   simp only[di,qn,bu,cw] at aD;obtain⟨rfl,rfl⟩:=aD;exact hm.2.ends rfl hE
 ·rename_i t m k x ho;split at aD<;>try (cases aD;done)
  rename_i b kv v hm hk hx;split at aD<;>try (cases aD;done)
  rename_i tJ;simp only[qm,eJ,jc] at aD;split at aD<;>try (cases aD;done)
  rename_i es hb;split at aD<;>simp only[bu,reduceCtorEq,cw] at aD;rename_i iL hs;obtain⟨rfl,rfl⟩:=aD;obtain⟨w',h1,h2⟩:=zbv h hm hk hx (by simpa using tJ) hb hs
  exact oW.ends ⟨g,w',by simp[execOp,ho,h1],h2⟩ rfl hE
 ·rename_i t m k x ho;split at aD<;>try (cases aD;done)
  rename_i b kv v hm hk hx;split at aD<;>try (cases aD;done)
  rename_i tJ;simp only[qm,eJ,jc] at aD;split at aD<;>try (cases aD;done)
  rename_i es hb;split at aD<;>simp only[bu,reduceCtorEq,cw] at aD;rename_i iL hs;obtain⟨rfl,rfl⟩:=aD;obtain⟨w',h1,h2⟩:=zbv h hm hk hx (by simpa using tJ) hb hs
  exact oW.ends ⟨g,w',by simp[execOp,ho,h1],h2⟩ rfl hE
 ·rename_i t x ho;split at aD<;>try (cases aD;done)
  rename_i l ht hx;simp only[qn,bu,cw] at aD;obtain⟨rfl,rfl⟩:=aD;exact(zk9 h ht hx ho).ends rfl hE
 ·rename_i it ho;split at aD<;>try (cases aD;done)
  rename_i b hi;split at aD<;>try (cases aD;done)
  rename_i l pos hb;have hn:=zno (P:=cx.P) h hi hb o.type;split at aD
  next bR=>rw[if_pos bR] at hn;obtain⟨cv,w',h1,h2,h3⟩:=hn;simp only[qA,jc,bu,cw] at aD;obtain⟨rfl,rfl⟩:=aD;exact ff.ends ⟨g,cv,w',by simp[execOp,ho,h1],h3,h2,λ_ _=>trivial,by simp[V.top,aI]⟩ rfl hE
  next bR=>rw[if_neg bR] at hn;obtain⟨cv,h1,h2⟩:=hn;simp only[bu,cw] at aD;obtain⟨rfl,rfl⟩:=aD;exact ff.ends ⟨g,cv,w,by simp[execOp,ho,h1],h,h2,λ_ _=>trivial,by simp[V.top,aI]⟩ rfl hE
 ·rename_i src dst x ho;split at aD
  next v cZ hv=>simp only[bu,cw] at aD;obtain⟨rfl,rfl⟩:=aD;exact(znp (P:=cx.P) h hv ho).ends rfl hE
  ·split at aD
   ·split at aD<;>simp only[bu,reduceCtorEq,cw] at aD;rename_i v hv;obtain⟨rfl,rfl⟩:=aD;cases hx:ak s.env x with
    | none=>rw[hx] at hv;cases hv
    | some u =>
     rw[hx] at hv;obtain⟨u1,u2,_⟩:=zI h hx;simp only[Li] at hv;split at hv<;>try (cases hv;done)
     rename_i u' nG
     by_cases TA:∃b o l c,u=.sr b o l c
     ·obtain⟨b,off,len,cap,rfl⟩:=TA;exact ff.ends (zk5 (P:=cx.P) h nG hv u1 u2 ho) rfl hE
     ·obtain rfl:u=u':=by
       have:=ziT (P:=cx.P) (H:=s.H) (a:=src) (v:=u) λb o l c e=>TA ⟨b,o,l,c,e⟩;rw[this] at nG;exact D5 nG
      refine uN ?_;rw[show qZ cx.P cx.gl o s.env s.H=some v by simp[qZ,ho,hx,hv]]
   ·exact uN aD
 ·rename_i t x lo hi ho;split at aD
  ·rename_i hf;split at aD<;>simp only[bu,reduceCtorEq,cw] at aD;rename_i v cZ hv;obtain⟨rfl,rfl⟩:=aD;obtain rfl:hi=none:=by unfold xy at hf;split at hf<;>first|rfl|cases hf
   exact(zlb (P:=cx.P) h hv ho).ends rfl hE
  ·split at aD
   ·obtain⟨v,e1,e2⟩:=zka rfl h aD ho;exact e2.ends e1 hE
   ·exact uN aD
 ·rename_i c ho;split at aD
  ·rename_i b gW;have plain:(match cx.builtin b c.argTypes c.args s.env s.H with|none=>none|some (r,env)=>some (r,(⟨env,s.H,s.lk,s.defers⟩:St)))=some (r,s')->o.wp cx.P a w K Q:=by
    intro aD;split at aD<;>simp only[bu,reduceCtorEq,cw] at aD;rename_i r' cZ hb;obtain⟨rfl,rfl⟩:=aD;obtain⟨v,hv,eE⟩:=zh0 rfl h hb ho gW rfl rfl;exact eE.ends hv hE
   split at aD
   ·rename_i x y t ts fM CK;obtain⟨v,g',cv,w',e1,e2,e3,e4,e5,e6⟩:=zlf (t2:=ts.headD 0) (ty:=o.type) rfl h aD;have ea:=uM fM;have cj:(execOp a.eval o).run cx.P w=.ok (.value cv) w':=by
     have:(Builtin.copy_ c.argTypes o.type #[a.eval x,a.eval y]).run cx.P w=.ok cv w':=by
      rw[<- e2];have:c.argTypes[0]?=some t:=by rw[<- E9,CK];rfl
      simp[Builtin.copy_,this]
     simp[execOp,ho,resolve,gW,ea,invoke,builtin,this]
    exact ff.ends ⟨g',cv,w',cj,e3,e4,λ_ _=>e5 _ _,e6⟩ e1 hE
   ·rename_i x y t u fM CK;split at aD
    ·split at aD<;>try (cases aD;done)
     rename_i LF;have LF:=eR LF;subst LF;obtain⟨v,g',cv,w',e1,e2,e3,e4,e5,e6⟩:=zh1 (ty:=o.type) rfl h aD;have ea:=uM fM;have et:=zlc CK;have cj:(execOp a.eval o).run cx.P w=.ok (.value cv) w':=by
      simp[execOp,ho,resolve,gW,ea,et,invoke,builtin,e2]
     exact ff.ends ⟨g',cv,w',cj,e3,e4,λ_ _=>e5 _ _,e6⟩ e1 hE
    ·exact plain aD
   ·exact plain aD
  ·rename_i f gW;split at aD<;>try (cases aD;done)
   rename_i fv args hf ha;split at aD<;>simp only[bu,reduceCtorEq,cw] at aD;rename_i r' H' hc;obtain⟨rfl,rfl⟩:=aD;obtain⟨f1,f2,_⟩:=zI h hf;obtain⟨a1,a2,a3⟩:=Wx h ha;have lG:∃fn fa fc,a.eval f=.func fn fa fc:=by
    unfold Cx.mI at hc;split at hc
    ·generalize a.eval f=c at f1;cases f1;exact⟨_,_,_,rfl⟩
    ·generalize a.eval f=c at f1;cases f1;exact⟨_,_,_,rfl⟩
    ·cases hc
   obtain⟨fn,fa,fc,TB⟩:=lG;rw[TB] at f1;refine zgB rfl fX dW hd rm dz h hc f1 f2 a1 a2 a3 ?_ hE;simp[execOp,ho,resolve,gW,TB,Deferred.ofValue]
  ·rename_i rcv m gW;split at aD<;>try (cases aD;done)
   rename_i rv args hf ha;split at aD<;>simp only[bu,reduceCtorEq,cw] at aD;rename_i r' H' hc;obtain⟨rfl,rfl⟩:=aD;obtain⟨f1,f2,_⟩:=zI h hf;obtain⟨a1,a2,a3⟩:=Wx h ha
   refine zgB (fn:=.method m) (fa:=#[]) (fc:=#[]) (bp:=#[a.eval rcv]++c.args.map a.eval) rfl fX dW hd rm dz h hc (.fn rfl rfl (λ_ _ _ e=>by simp at e) (λ_ _ _ e=>by simp at e)) (by simp[V.top,aI]) (by simp at a1 ⊢;omega) ?_ (ua.2 ⟨f2,a3⟩) ?_ hE
   ·exact vD (l:=[rv]) (x:=#[a.eval rcv]) rfl (λj z v hz hv=>by
     cases j with
     | zero=>simp at hz hv;subst hz;subst hv;exact f1
     | succ j=>simp at hz) a2
   ·simp[execOp,ho,resolve,gW]
 ·rename_i c ho;split at aD<;>try (cases aD;done)
  rename_i f gW;split at aD<;>simp only[bu,reduceCtorEq,cw] at aD;rename_i f' first cap args hf ha
  obtain⟨rfl,rfl⟩:=aD;obtain⟨f1,f2,_⟩:=zI h hf;obtain⟨a1,a2,a3⟩:=Wx h ha;generalize TB:a.eval f=cf at f1;cases f1 with
  | fn e1 e2 e3 e4 =>
   rename_i fa fc;have ht:=ua.1 (show max (aI first) (aI cap)<=s.H.au.length from f2)
   have cj:(execOp a.eval o).run cx.P w=.ok (.defer { target:=.fn (.func f') fc,args:=fa++c.args.map a.eval }) w:=by
    simp[execOp,ho,resolve,gW,TB,Deferred.ofValue]
   unfold Oper.wp;rw[cj,Oper.upon_defer];refine hE.skip rfl g { a with defers:={ target:=.fn (.func f') fc,args:=fa++c.args.map a.eval }::a.defers } w ?_
   refine { de:=h.de,len:=h.len,env:=h.env,dS:=h.dS,n0:=h.n0,bC:=h.bC,dV:=h.dV,fr:=h.fr,lV:=h.lV,oB:=h.oB,cY:=h.cY,eK:=by simp[h.eK],defers:=λj x q hx hq=>?_,marks:=λd hd D hD=>(by rcases dN.1 hd with e|AT;{ subst e;cases hD };{ exact h.marks d AT D hD }),nM:=.cons (λ_ _ D hD=>nomatch hD) h.nM }
   cases j with
   | zero =>
    simp only[K7,bu] at hx hq;subst hx;subst hq;exact .inl ⟨f',first,cap,fc,rfl,rfl,by rw[aV,e1,Array.size_append,a1],e2,vD e1 e3 a2,e4,wC ht.1 a3,ht.2⟩
   | succ j=>exact h.defers j x q (by simpa using hx) (by simpa using hq)
 ·rename_i x ho;split at aD<;>simp only[bu,reduceCtorEq,cw] at aD;rename_i t v hx;obtain⟨rfl,rfl⟩:=aD;obtain⟨x1,x2,_⟩:=zI h hx;generalize JO:a.eval x=Ty at x1;cases x1 with
  | ec hv =>
   rename_i cv;unfold Oper.wp;have:(execOp a.eval o).run cx.P w=.halt (.panic (.iface t cv)) w:=by
    simp[execOp,ho,JO,Instr.panic,goPanic]
   rw[this,Oper.upon_panic];exact hE.p_ _ rfl g (.iface t cv) a w h (.ec hv) x2
 ·exact uN aD
end
section
variable{P:aQ}{B:dY}{g:Gh}{s:St}{a:Act}{w:aP}
def Wy(g:Gh)(n:Nat):Ex->Exit->Prop
 | .normal,.normal=>True
 | .exit i,.exit j=>i=j
 | .goto i,.goto j=>i=j
 | .ret,.ret=>True
 | .p_ v,.panic chain=>∃cv,chain=[{ v:=cv,recovered:=false }]/\aR g v cv/\v.top<=n
 | _,_=>False
def vR(B:dY)(ex:Ex)(s':St):Exit->Act->aP->Prop:=λe a w=>∃g,Rel B g s' a w/\Wy g s'.H.au.length ex e
theorem yn(h:Rel B g s a w){ops:Array Oper}{o:Oper}{b:Bool}(hw:z0 ops o s.env=some b):Region.wanted o (yielded ops a.tmps)=b:=by
 unfold z0 at hw;unfold Region.wanted;split at hw
 next hg=>simp only[bu] at hw;rw[hg,<- hw]
 ·rename_i j want hg;rw[hg];simp only;split at hw<;>try (cases hw;done)
  rename_i d hd;rw[zg] at hw;unfold yielded;rw[hd];simp only[aU];split at hw<;>simp only[bu,reduceCtorEq] at hw
  next c hc=>obtain⟨cv,lf,_⟩:=h.slot hc;have hr:=(h.env d _ cv hc lf).1;cases hr;rw[lf];simp only[<- hw];cases c<;>cases want<;>rfl
  next c hc=>obtain⟨cv,lf,_⟩:=h.slot hc;have hr:=(h.env d _ cv hc lf).1;cases hr;rw[lf,<- hw];rfl
theorem yD(h:Rel B g s a w)(o:Oper):Ed B g s a w o.dst (.br []) undef :=
 ⟨h,.br rfl (λ_ _ _ e=>by simp at e),λ_ _=>trivial,dU _⟩
theorem zlg{cx:Cx}(lg:oX P cx B){all:Array Oper}{takes:cg}{ex:Ex}{s':St}{Q:Exit->Act->aP->Prop}(hQ:∀e a w,vR B ex s' e a w->Q e a w):∀(l:List Oper)(s:St)(g:Gh)(a:Act)(w:aP),Rel B g s a w->cx.ops all takes l s=some (ex,s')->wpList P all Q l a w
 | [],s,g,a,w,h,hc=>by
  simp only[Cx.ops,bu,cw] at hc;obtain⟨rfl,rfl⟩:=hc;exact hQ _ _ _ ⟨g,h,trivial⟩
 | o::os,⟨env,H,lk,df⟩,g,a,w,h,hc=>by
  have ih:=zlg lg (all:=all) (takes:=takes) hQ os;simp only[Cx.ops] at hc;unfold wpList;split at hc<;>try (cases hc;done)
  ·rename_i hw;rw[if_neg (by rw[yn h hw];simp)]
   rw[jN] at hc;exact ih _ g _ w (wX (yD h o)) hc
  ·rename_i hw;rw[if_pos (yn h hw)]
   left
   split at hc<;>try (cases hc;done)
   next v cZ H' Ir Is aD=>rw[jN] at hc;refine Iq lg h aD ⟨λv' hv g' cv a' w' hk=>?_,(λhv=>nomatch hv),(λv' hv=>nomatch hv)⟩;cases hv;exact ih _ g' _ w' (wX hk) hc
   next cZ H' Ir Is aD=>rw[jN] at hc;refine Iq lg h aD ⟨(λv' hv=>nomatch hv),λ_ g' a' w' hk=>?_,(λv' hv=>nomatch hv)⟩;exact ih _ g' _ w' (wX (yD hk o)) hc
   next v s1 aD=>simp only[bu,cw] at hc;obtain⟨rfl,rfl⟩:=hc;refine Iq lg h aD ⟨(λv' hv=>nomatch hv),(λhv=>nomatch hv),λv' hv g' cv a' w' hk h1 h2=>?_⟩;cases hv;exact hQ _ _ _ ⟨g',hk,cv,rfl,h1,h2⟩
theorem Rel.Iu(h:Rel B g s a w):Rel B g { s with lk:=[] } a w :=
 {de:=h.de,len:=h.len,env:=h.env,dS:=h.dS,n0:=h.n0,bC:=h.bC,dV:=h.dV,fr:=h.fr,lV:=h.lV,oB:=λ_ hp=>by simp at hp,cY:=h.cY,eK:=h.eK,defers:=h.defers,marks:=h.marks,nM:=h.nM }
def N3(P:aQ)(cx:Cx)(B:dY):Prop:=oX P cx B->∀(id:Nat)(ops:Array Oper)(s s':St)(ex:Ex)(g:Gh)(a:Act)(w:aP),cx.draw ops s=some (ex,s')->Rel B g s a w->(Code.region id ops true).wp P (vR B ex s') a w
def N4(P:aQ)(cx:Cx)(B:dY):Prop:=oX P cx B->∀(n:Nat)(f:aX)(ps:Array Tmp)(as bd:Code)(s s':St)(ex:Ex)(g:Gh)(a:Act)(w:aP),cx.code n (.rangeFunc f ps as bd) s=some (ex,s')->Rel B g s a w->(Code.rangeFunc f ps as bd).wp P (vR B ex s') a w
theorem TC{B:dY}{ex:Ex}{s':St}{K:Act->aP->Prop}{Q:Exit->Act->aP->Prop}(hn:ex=.normal->∀g a w,Rel B g s' a w->K a w)(ho:ex≠.normal->∀e a w,vR B ex s' e a w->Q e a w):∀e a w,vR B ex s' e a w->Exit.then K Q e a w:=by
 rintro e a w ⟨g,h1,h2⟩;cases ex<;>cases e<;>first
  |(exact h2.elim)
  |(exact hn rfl g a w h1)
  | (exact ho (λe=>by cases e) _ _ _ ⟨g,h1,h2⟩)
theorem zi2{cx:Cx}(lg:oX P cx B)(e_:N3 P cx B)(hrg:N4 P cx B)(n:Nat):∀(c:Code)(s s':St)(ex:Ex)(g:Gh)(a:Act)(w:aP),cx.code n c s=some (ex,s')->Rel B g s a w->c.wp P (vR B ex s') a w:=by
 intro c
 induction c with
 | skip =>
  intro s s' ex g a w hc h;simp only[Cx.code,bu,cw] at hc;obtain⟨rfl,rfl⟩:=hc;exact Go.wp_skip ⟨g,h,trivial⟩
 | label l =>
  intro s s' ex g a w hc h;simp only[Cx.code,bu,cw] at hc;obtain⟨rfl,rfl⟩:=hc;exact wp_label ⟨g,h,trivial⟩
 | region id ops draw =>
  intro s s' ex g a w hc h;cases draw with
  | false =>
   obtain⟨env,H,lk,df⟩:=s;simp only[Cx.code] at hc;exact wp_region_list (zlg lg (λ_ _ _ q=>q) _ _ g a w h.Iu hc)
  | true =>
   simp only[Cx.code] at hc;exact e_ lg id ops s s' ex g a w hc h
 | seq x y Iv LM =>
  intro s s' ex g a w hc h;simp only[Cx.code] at hc;split at hc<;>try (cases hc;done)
  next s1 hx=>refine wp_seq (Code.wp_mono (TC (λ_ g' a' w' h'=>LM s1 s' ex g' a' w' hc h') (λe=>absurd rfl e)) (Iv s s1 .normal g a w hx h))
  next e1 s1 b_ hx=>simp only[bu,cw] at hc;obtain⟨rfl,rfl⟩:=hc;refine wp_seq (Code.wp_mono (TC (λe=>absurd e ?_) (λ_ _ _ _ q=>q)) (Iv s _ _ g a w hx h));exact λe=>by simp_all
 | cond c x y Iv LM =>
  intro s s' ex g a w hc h;simp only[Cx.code] at hc;split at hc<;>try (cases hc;done)
  next hp=>have c1:=(zI h hp).1;generalize Af:a.eval c=cc at c1;cases c1;exact wp_cond_true Af (Iv s s' ex g a w hc h)
  next hp=>have c1:=(zI h hp).1;generalize Af:a.eval c=cc at c1;cases c1;exact wp_cond_false Af (LM s s' ex g a w hc h)
 | block id c ih =>
  intro s s' ex g a w hc h;simp only[Cx.code] at hc;split at hc<;>try (cases hc;done)
  ·rename_i i s1 hx;simp only[bu,cw] at hc;obtain⟨rfl,rfl⟩:=hc;refine wp_block (Code.wp_mono ?_ (ih s s1 (.exit i) g a w hx h));rintro e a' w' ⟨g',h1,h2⟩;cases e<;>first|(exact h2.elim)|skip
   rename_i j;have:i=j:=h2;subst this;simp only[Exit.inBlock];split
   next e=>subst e;exact⟨g',h1,by simp[Wy]⟩
   ·rename_i e;refine⟨g',h1,?_⟩;have:Nat.beq i id=false:=by
     cases hb:Nat.beq i id with
     | false=>rfl
     | true=>exact absurd (eR hb) e
    simp[this,Wy]
  ·rename_i e1 s1 b_ hx;simp only[bu,cw] at hc;obtain⟨rfl,rfl⟩:=hc;refine wp_block (Code.wp_mono ?_ (ih s _ _ g a w hx h));rintro e a' w' ⟨g',h1,h2⟩;cases e with
   | exit j=>cases e1<;>first|(exact h2.elim)|(exact(b_ _ rfl).elim)
   | _=>exact⟨g',h1,h2⟩
 | loop c ih =>
  intro s s' ex g a w hc h;simp only[Cx.code] at hc;refine wp_loop_rounds n ?_;have key:∀(m:Nat)(s:St)(g:Gh)(a:Act)(w:aP),Ln (cx.code n c) m s=some (ex,s')->Rel B g s a w->Code.rounds P c (vR B ex s') m a w:=by
   intro m
   induction m with
   | zero=>intro s g a w hi;simp[Ln] at hi
   | succ m ihm =>
    intro s g a w hi h;simp only[Ln] at hi;rw[rounds_succ];split at hi<;>try (cases hi;done)
    next s1 hx=>exact Code.wp_mono (TC (λ_ g' a' w' h'=>ihm s1 g' a' w' hi h') (λe=>absurd rfl e)) (ih s s1 .normal g a w hx h)
    next e1 s1 b_ hx=>simp only[bu,cw] at hi;obtain⟨rfl,rfl⟩:=hi;exact Code.wp_mono (TC (λe=>absurd e (λe=>by simp_all)) (λ_ _ _ _ q=>q)) (ih s _ _ g a w hx h)
  exact key n s g a w hc h
 | exit id =>
  intro s s' ex g a w hc h;simp only[Cx.code,bu,cw] at hc;obtain⟨rfl,rfl⟩:=hc;exact wp_exit ⟨g,h,rfl⟩
 | ret =>
  intro s s' ex g a w hc h;simp only[Cx.code,bu,cw] at hc;obtain⟨rfl,rfl⟩:=hc;exact wp_ret ⟨g,h,trivial⟩
 | scope c ih =>
  intro s s' ex g a w hc h;simp only[Cx.code] at hc;split at hc<;>try (cases hc;done)
  rename_i e1 s1 hng hx;simp only[bu,cw] at hc;obtain⟨rfl,rfl⟩:=hc;refine wp_scope_straight (Code.wp_mono ?_ (ih s _ _ g a w hx h));rintro e a' w' ⟨g',h1,h2⟩;cases e with
  | goto l=>cases e1<;>first|(exact h2.elim)|(exact(hng _ rfl).elim)|(exact(hng _ _ rfl).elim)|(simp_all;done)
  | _=>exact⟨g',h1,h2⟩
 | rangeFunc f ps as bd=>intro s s' ex g a w hc h;exact hrg lg n f ps as bd s s' ex g a w hc h
 | _=>intro s s' ex g a w hc;simp[Cx.code] at hc
end
section
variable{P:aQ}{B:dY}{g:Gh}{s:St}{a:Act}{w:aP}
theorem zew(n:Nat):aI (List.replicate n (V.br []))=0:=by
 induction n with
 | zero=>rfl
 | succ n ih=>simp[HQ,aI,V.top,ih]
theorem zgF{H:Hp}{args:aC}{bp:dF}(hw:nu g H.au w)(ha:dI g H.au.length args bp)(d n:Nat) :
  Rel ⟨d,H.au,g,w,[]⟩ g ⟨args++List.replicate (n - args.length) (.br []),⟨H.au,[]⟩,[],[]⟩ { tmps:=bp++Array.replicate (n - bp.size) undef,defers:=[] } w:=by
 have Wz:aR g (.br []) undef:=.br rfl (λ_ _ _ e=>by simp at e)
 refine { de:=hw,len:=by simp[ha.len],env:=λt x v hx hv=>?_,dS:=λt x hx=>?_,n0:=dB _,bC:=λb x hx=>.inr (.inr ⟨x,hx,dB _⟩),dV:=λb h1 h2=>absurd h1 (Nat.not_le.2 h2),fr:=.refl _ _ _ _,lV:=λb off hl=>?_,oB:=λ_ hp=>by simp at hp,cY:=λ_ hp=>by simp at hp,eK:=rfl,defers:=(λ_ _ _ hx=>by simp at hx),marks:=(λ_ hd=>by simp at hd),nM:=.nil }
 ·rcases eI t args.length with h|h
  ·have lX:bp[t]?=some v:=by rw[Array.getElem?_append_left (by rw[<- ha.len];exact h)] at hv;exact hv
   have pO:args[t]?=some x:=by
    have:(args++List.replicate (n - args.length) (V.br []))[t]?=some x:=hx
    rwa [fI h] at this
   refine⟨ha.rel t x v pO lX,?_⟩;have:=ha.no x (zv pO);unfold cN;split
   ·exact absurd rfl (this _ _ _)
   ·trivial
  ·have pO:(List.replicate (n - args.length) (V.br []))[t - args.length]?=some x:=by
    have:(args++List.replicate (n - args.length) (V.br []))[t]?=some x:=hx
    rwa [eM h] at this
   have lX:(Array.replicate (n - bp.size) undef)[t - bp.size]?=some v:=by rw[Array.getElem?_append_right (by rw[<- ha.len];exact h)] at hv;exact hv
   rw[List.getElem?_replicate] at pO;rw[Array.getElem?_replicate] at lX;split at pO<;>simp only[bu,reduceCtorEq] at pO;split at lX<;>simp only[bu,reduceCtorEq] at lX;subst pO;subst lX;exact⟨Wz,trivial⟩
 ·have pO:(args++List.replicate (n - args.length) (V.br []))[t]?=some x:=hx;refine cU (zn (zv pO)) (wC ha.top ?_);rw[zew];exact dU _
 ·rcases hl with hl|⟨q,hq,_⟩
  ·exact hl
  ·simp at hq
def zX(n0:Nat)(es:aN)(top:Nat)(H:Hp):Hp :=
 if Nat.ble top n0 && H.bC.all (λe=>Nat.ble n0 e.1 || Nat.ble e.2 n0) then ⟨H.au.take n0,H.bC.filter (λe=>Nat.blt e.1 n0)++es⟩ else ⟨H.au,H.bC++es⟩
theorem kW{β:Type}(n0:Nat)(es:aN)(top:Nat)(H:Hp)(k:Hp->β):Pk n0 es top H k=k (zX n0 es top H):=by
 cases H;simp only[Pk,zX,eJ];split<;>rfl
theorem cN.less{n n':Nat}(hn:n'<=n){l:Loc}{x:V}{cv:bw}(h:cN g n w l x cv):cN g n' w l x cv:=by
 unfold cN at *;split
 ·obtain⟨vs,h1,h2⟩:=h;exact⟨vs,h1,λc hc=>⟨(h2 c hc).1,(h2 c hc).2.1,λb hb=>(h2 c hc).2.2 b (r9 hb hn)⟩⟩
 ·trivial
theorem fU.less{n n' b:Nat}(hn:n'<=n){x:aT}(h:fU g n w b x):fU g n' w b x:=by
 cases x with
 | cells cs t =>
  obtain⟨arr,h1,h2,h3⟩:=h;exact⟨arr,h1,h2,λj x v hx hv=>⟨(h3 j x v hx hv).1,(h3 j x v hx hv).2.1,(h3 j x v hx hv).2.2.1.less hn,(h3 j x v hx hv).2.2.2⟩⟩
 | map es=>exact h
 | iter l p=>exact h
 | ul eO sz cs e =>
  obtain⟨c,len,cap,vs,hu⟩:=h;exact⟨c,len,cap,vs,{ hu with others:=λb' dg=>hu.others b' (r9 dg hn) }⟩
theorem WA{d:Nat}{H0:Hp}{g0:Gh}{w0:aP}(AU:nu g0 H0.au w0)(h:Rel ⟨d,H0.au,g0,w0,[]⟩ g s a w){top:Nat}(ht:top<=s.H.au.length) :
  iS d H0 g0 w0 (zX H0.au.length H0.bC top s.H) g w/\top<=(zX H0.au.length H0.bC top s.H).au.length/\(zX H0.au.length H0.bC top s.H).au.length<=s.H.au.length:=by
 have Bj:H0.au.length<=s.H.au.length:=h.n0;have Ec:∀b off,jo H0.au b off->jo s.H.au b off:=λb off hl=>h.lV b off (.inl hl);unfold zX;split
 ·rename_i hc;simp only[ei,Cy,tX] at hc;obtain⟨nE,sx⟩:=hc;have hlen:(s.H.au.take H0.au.length).length=H0.au.length:=by simp[Bj]
  have cQ:∀b,b<H0.au.length->(s.H.au.take H0.au.length)[b]?=s.H.au[b]?:=λb hb=>by rw[AN,if_pos hb]
  have sQ:∀(b:Nat)(x:aT),(s.H.au.take H0.au.length)[b]?=some x->b<H0.au.length/\s.H.au[b]?=some x:=λb x hx=>by
   have hb:=(cP.1 hx).1;rw[hlen] at hb;exact⟨hb,(cQ b hb) ▸ hx⟩
  have gX:∀(b:Nat)(x:aT),b<H0.au.length->s.H.au[b]?=some x->x.top<=b+1\/(∃m,(b,m)∈s.H.bC/\m<=H0.au.length/\x.top<=m)\/∃y:aT,H0.au[b]?=some y/\x.top<=y.top:=λb x hb hx=>by
   rcases h.bC b x hx with h1|⟨m,h1,h2⟩|h1
   ·exact .inl h1
   ·refine .inr (.inl ⟨m,h1,?_,h2⟩);rcases sx _ h1 with h3|h3
    ·have:=r8 h3;simp only at this;omega
    ·exact r8 h3
   ·exact .inr (.inr h1)
  refine⟨{ de:={ mem:=h.de.mem,lt:=λb hb=>h.de.lt b (by simp only at hb;omega),inj:=λb b' hb dg e=>h.de.inj b b' (by simp only at hb;omega) (by simp only at dg;omega) e,apart:=λb hb=>h.de.apart b (by simp only at hb;omega),eo:=h.de.eo,dj:=λb hb=>h.de.dj b (by simp only at hb;omega),ok:=λb x hx=>?_,aI:=λb x hx=>?_,laid:=λc hc=>⟨(h.de.laid c hc).1,(h.de.laid c hc).2.1,λb hb=>(h.de.laid c hc).2.2 b (by simp only at hb;omega)⟩ },fr:=h.fr,len:=by simp only;omega,dV:=λb h1 h2=>by simp only at h2;omega,bC:=λb x hx=>?_,CI:=λp hp=>Ba _ hp,lV:=λb off hl=>?_ },by simp only;rw[hlen];exact r8 nE,by simp only;omega⟩
  ·obtain⟨_,pO⟩:=sQ b x hx;simp only;exact(h.de.ok b x pO).less (by omega)
  ·obtain⟨hb,pO⟩:=sQ b x hx;simp only;rw[hlen];rcases gX b x hb pO with h1|⟨m,_,h1,h2⟩|⟨y,h1,h2⟩
   ·omega
   ·omega
   ·exact cU h2 (AU.aI b y h1)
  ·obtain⟨hb,pO⟩:=sQ b x hx;rcases gX b x hb pO with h1|⟨m,h0,h1,h2⟩|h1
   ·exact .inl h1
   ·refine .inr (.inl ⟨m,w_ _ (List.mem_filter.2 ⟨h0,?_⟩),h2⟩);simpa[Nat.blt_eq] using hb
   ·exact .inr (.inr h1)
  ·obtain⟨cs,t,sz,xs,h1,h2⟩:=Ec b off hl;obtain⟨_,_,_,_,k1,_⟩:=hl;exact⟨cs,t,sz,xs,by simp only;rw[cQ b (cP.1 k1).1];exact h1,h2⟩
 ·refine⟨{ de:=h.de,fr:=h.fr,len:=Bj,dV:=h.dV,bC:=λb x hx=>?_,CI:=λp hp=>Ba _ hp,lV:=Ec },ht,dB _⟩;rcases h.bC b x hx with h1|⟨m,h1,h2⟩|h1
  ·exact .inl h1
  ·exact .inr (.inl ⟨m,w_ _ h1,h2⟩)
  ·exact .inr (.inr h1)
end
section
variable{P:aQ}{B:dY}{g:Gh}{s:St}{a:Act}{w:aP}
theorem WC{tmps:dF}{t:Nat}{cv:bw}(h:tmps[t]?=some cv):tmps.getD t undef=cv:=by
 obtain⟨h1,h2⟩:=sH.1 h;simp[Array.getD,h1,h2]
theorem zgG{p:V}{cp:bw}(hr:aR g p cp){t:aB}{v:V}{H:Hp}(hl:zl P H (λ_ _=>none) t p=some v):(do loadVar t (<- asAddr cp):Sem bw).run P w=(Instr.loadAt t cp).run P w:=by
 unfold zl at hl;split at hl
 ·cases hr;simp[Instr.loadAt,Instr.sureAddr,asAddr]
 ·cases hr;simp[Instr.loadAt,Instr.sureAddr,asAddr]
 ·cases hr;simp[Instr.loadAt,Instr.sureAddr,asAddr]
 ·cases hr;simp[Instr.loadAt,Instr.sureAddr,asAddr]
 ·cases hl
def Iw(tmps:dF):ResultVar->Sem bw
 | .tmp t=>pure (tmps.getD t undef)
 | .cell x t=>do loadVar t (<- asAddr (tmps.getD x undef))
def LN:dA->bw
 | [v]=>v
 | vs=>.tuple vs.toArray
theorem zh2(fn:Func)(tmps:dF):results fn tmps=(do let vs <- fn.results.toList.mapM (Iw tmps);pure (LN vs)):=by
 have h1:results fn tmps=(do let vs <- fn.results.mapM (Iw tmps);pure (if h:vs.size=1 then vs[0] else .tuple vs)):=by
  unfold results
  congr 1
  try (congr 1;try (funext x;cases x<;>rfl))
 rw[h1,Array.mapM_eq_mapM_toList];simp only[bind_map_left]
 congr 1
 funext vs
 match vs with
 | []=>rfl
 | [v]=>rfl
 | v::u::r=>simp[LN]
theorem zfu{H:Hp}{env:aC}:∀{rs:List ResultVar},zy P H env rs=some []->rs=[]
 | [],_=>rfl
 | .tmp t::rs,h=>by
  simp only[zy] at h;split at h<;>simp at h
 | .cell c t::rs,h=>by
  simp only[zy] at h;split at h<;>try (cases h;done)
  split at h<;>simp at h
theorem xZ(h:Rel B g s a w):∀{rs:List ResultVar}{vs:aC},zy P s.H s.env rs=some vs ->
  ∃Ej:dA,(rs.mapM (Iw a.tmps)).run P w=.ok Ej w/\vs.length=Ej.length /\
   (∀(j:Nat)(x:V)(v:bw),vs[j]?=some x->Ej[j]?=some v->aR g x v)/\aI vs<=s.H.au.length
 | [],vs,hr=>by
  simp only[zy,bu] at hr;subst hr;exact⟨[],by simp,rfl,λ_ _ _ hx=>by simp at hx,dU _⟩
 | .tmp t::rs,vs,hr=>by
  simp only[zy] at hr;split at hr<;>simp only[bu,reduceCtorEq] at hr;rename_i v us hv CE;subst hr;rw[zg] at hv;obtain⟨Ej,h1,h2,h3,h4⟩:=xZ h CE;obtain⟨cv,lf,_⟩:=h.slot hv;refine⟨cv::Ej,?_,by simp[h2],λj x u hx hu=>?_,ua.2 ⟨h.dS t v hv,h4⟩⟩
  ·have hF:Iw a.tmps (.tmp t)=pure cv:=by simp only[Iw];rw[WC lf]
   simp[List.mapM_cons,hF,h1]
  ·cases j with
   | zero=>simp at hx hu;subst hx;subst hu;exact(h.env t _ _ hv lf).1
   | succ j=>exact h3 j x u (by simpa using hx) (by simpa using hu)
 | .cell c t::rs,vs,hr=>by
  simp only[zy] at hr;split at hr<;>try (cases hr;done)
  rename_i p hp;split at hr<;>simp only[bu,reduceCtorEq] at hr;rename_i v us hl CE;subst hr;rw[zg] at hp;obtain⟨Ej,h1,h2,h3,h4⟩:=xZ h CE;obtain⟨cp,hcp,_⟩:=h.slot hp;have hrp:=(h.env c _ _ hp hcp).1;obtain⟨cv,l1,l2,l3⟩:=zgq h (gl:=λ_ _=>none) ⟨λ_ _ _ e=>(nomatch e),λ_ _ _ e=>(nomatch e)⟩ hrp (h.dS c p hp) hl
  refine⟨cv::Ej,?_,by simp[h2],λj x u hx hu=>?_,ua.2 ⟨by rw[ji];exact l3,h4⟩⟩
  ·have hF:(Iw a.tmps (.cell c t)).run P w=.ok cv w:=by
    simp only[Iw];rw[WC hcp];exact(zgG (P:=P) (w:=w) hrp hl).trans l1
   simp[List.mapM_cons,hF,h1]
  ·cases j with
   | zero=>simp at hx hu;subst hx;subst hu;exact l2.aW
   | succ j=>exact h3 j x u (by simpa using hx) (by simpa using hu)
theorem zds(h:Rel B g s a w){fn:Func}{vs:aC}(hr:zy P s.H s.env fn.results.toList=some vs)(l:Loc) :
  ∃g' s' cv,(results fn a.tmps).run P w=.ok cv w/\s'.H=s.H/\Rel B g' s' a w/\aR g' (lz vs) cv/\cN g' s.H.au.length w l (lz vs) cv/\(lz vs).top<=s.H.au.length:=by
 obtain⟨Ej,h1,h2,h3,h4⟩:=xZ h hr;have cj:(results fn a.tmps).run P w=.ok (LN Ej) w:=by
  rw[zh2];simp[h1]
 match vs,h2,h3,h4,hr with
 | [v],h2,h3,h4,hr =>
  obtain⟨cv,rfl⟩:∃cv,Ej=[cv]:=by
   match Ej,h2 with
   | [cv],_=>exact⟨cv,rfl⟩
  have hv:aR g v cv:=h3 0 v cv rfl rfl;have ht:v.top<=s.H.au.length:=cU (D4 _ _) h4;have plain:(∀k,cN g k w l v cv)->∃g' s' cv,(results fn a.tmps).run P w=.ok cv w/\s'.H=s.H/\Rel B g' s' a w/\aR g' (lz [v]) cv/\cN g' s.H.au.length w l (lz [v]) cv/\(lz [v]).top<=s.H.au.length :=
   λho=>⟨g,s,cv,cj,rfl,h,hv,ho _,ht⟩
  by_cases iK:∃sz xs e,v=.sl sz xs (.yes e)
  ·obtain⟨sz,xs,e,rfl⟩:=iK;cases LO:fn.results.toList with
   | nil=>rw[LO] at hr;simp[zy] at hr
   | cons r rs =>
    rw[LO] at hr;cases r with
    | tmp t =>
     simp only[zy] at hr;split at hr<;>simp only[bu,reduceCtorEq,List.cons.injEq] at hr;rename_i y us hy CE;obtain⟨rfl,rfl⟩:=hr;rw[zg] at hy;have mH:take s.env (.tmp t)=some (.sl sz xs (.yes e),s.env.set t (.sl sz xs .no)):=by
      simp[take,zg,hy,eW]
     obtain⟨g',k1,k2,k3,k4,_⟩:=vH h mH l;obtain⟨cv',WE,he⟩:=h.slot hy;have rj:a.eval (.tmp t)=cv:=by
      rw[he];have WG:=zfu CE;have hF:Iw a.tmps (.tmp t)=pure cv':=by simp only[Iw];rw[WC WE]
      rw[LO,WG] at h1;simp[List.mapM_cons,hF] at h1;exact h1
     rw[rj] at k2 k3;exact⟨g',{ s with env:=s.env.set t (.sl sz xs .no) },cv,cj,rfl,k1,k2,k3,ht⟩
    | cell c t =>
     exfalso;simp only[zy] at hr;split at hr<;>try (cases hr;done)
     split at hr<;>simp only[bu,reduceCtorEq,List.cons.injEq] at hr;exact vP _ _ _ _ hr.1
  ·refine plain λk=>?_;unfold cN;split
   next sz xs e=>exact absurd ⟨sz,xs,e,rfl⟩ iK
   ·trivial
 | [],h2,h3,h4,hr =>
  have:Ej=[]:=K6.1 h2.symm;subst this;exact⟨g,s,_,cj,rfl,h,.br rfl (λ_ _ _ e=>by simp at e),trivial,dU _⟩
 | v::u::r,h2,h3,h4,hr =>
  match Ej,h2 with
  | cv::cu::cr,h2 =>
   refine⟨g,s,_,cj,rfl,h,?_,trivial,?_⟩
   ·refine .br (by simpa using h2) λj x y hx hy=>?_
    simp only[gj,mA] at hx;obtain⟨z,hz,rfl⟩:=hx;exact(h3 j z y hz (by simpa using hy)).aW
   ·show aI ((v::u::r).map aW)<=_;rw[eX];exact h4
end
section
variable{P:aQ}{B:dY}{g:Gh}{s:St}{a:Act}{w:aP}
def ez:Option bw->Bool->FrameMode
 | none,_=>.returning
 | some cv,r=>.panicking [{ v:=cv,recovered:=r }]
def oE(g:Gh)(n:Nat):bY->Option bw->Prop
 | none,none=>True
 | some v,some cv=>aR g v cv/\v.top<=n
 | _,_=>False
theorem oE.le{n n':Nat}{g g':Gh}(hg:Gh.Le n g g')(hn:n<=n'){p:bY}{pc:Option bw}(h:oE g n p pc):oE g' n' p pc:=by
 cases p<;>cases pc<;>first|exact h|exact⟨h.1.le hg h.2,cU h.2 hn⟩
def WH(B:dY)(ex:Ex)(s':St)(pc:Option bw)(r:Bool)(c0:Frame)(CL:List Frame):Exit->Act->List Frame->aP->Prop :=
 λe a cs w=>vR B ex s' e a w/\cs={ c0 with mode:=ez pc r }::CL
theorem zi3{cx:Cx}(lg:oX P cx B){all:Array Oper}{takes:cg}{ex:Ex}{r':Bool}{s':St}{iQ:bY}{pc:Option bw}(hp:oE B.g B.bs.length iQ pc)(c0:Frame)(CL:List Frame){Q:Exit->Act->List Frame->aP->Prop}(hQ:∀e a cs w,WH B ex s' pc r' c0 CL e a cs w->Q e a cs w) :
  ∀(l:List Oper)(k:Nat)(s:St)(r:Bool)(g:Gh)(a:Act)(w:aP),(∀j:Nat,l[j]?=all[k+j]?)->Rel B g s a w->cx.ue iQ all takes l r s=some (ex,r',s')->wpOpsS P all Q (List.range' k l.length) a ({ c0 with mode:=ez pc r }::CL) w
 | [],k,s,r,g,a,w,hl,h,hc=>by
  simp only[Cx.ue,bu,cw] at hc;obtain⟨rfl,rfl,rfl⟩:=hc;exact hQ _ _ _ _ ⟨⟨g,h,trivial⟩,rfl⟩
 | o::os,k,⟨env,H,lk,df⟩,r,g,a,w,hl,h,hc=>by
  have ih:=zi3 lg (all:=all) (takes:=takes) hp c0 CL hQ os (k+1);have mU:∀j:Nat,os[j]?=all[k+1+j]?:=λj=>by have:=hl (j+1);simpa[oO,JH 1 j] using this
  have h0:all[k]?=some o:=by simpa using (hl 0).symm
  simp only[Cx.ue] at hc;simp only[aZ,List.range'_succ,wpOpsS,h0];split at hc<;>try (cases hc;done)
  ·rename_i hw;rw[if_neg (by rw[yn h hw];simp)]
   rw[jN] at hc;exact ih _ r g _ w mU (wX (yD h o)) hc
  ·rename_i hw;rw[if_pos (yn h hw)];split at hc
   ·rename_i Bk;have cj:(execOp a.eval o).run P w=.ok .recover w:=by
     unfold zoU at Bk;split at Bk<;>try (cases Bk;done)
     rename_i c ho;split at Bk<;>try (cases Bk;done)
     rename_i gW;simp[execOp,ho,resolve,gW,invoke,builtin]
    rw[cj];simp only;have nil:∀r1,cx.ue iQ all takes os r1 ⟨aq env o.dst .bT,H,lk,df⟩=some (ex,r',s')->wpOpsS P all Q (List.range' (k+1) os.length) (a.put o.dst .nilIface) ({ c0 with mode:=ez pc r1 }::CL) w:=λr1 nE =>
     ih _ r1 g _ w mU (wX (s:=⟨env,H,lk,df⟩) (v:=.bT) (cv:=.nilIface) ⟨h,.bT,λ_ _=>trivial,dU _⟩) nE
    split at hc
    ·rename_i v;rw[jN] at hc;cases pc with
     | none=>exact hp.elim
     | some cv =>
      have hv:aR g v cv:=hp.1.le h.fr.le hp.2;have ht:v.top<=H.au.length:=cU hp.2 h.n0;exact ih _ true g _ w mU (wX (s:=⟨env,H,lk,df⟩) (v:=aW v) (cv:=cv) ⟨h,hv.aW,λ_ _=>vl _ _ _ _ _ _,by rw[ji];exact ht⟩) hc
    ·rename_i eH;rw[jN] at hc;have PK:recoverD ({ c0 with mode:=ez pc r }::CL)=none:=by
      cases pc with
      | none=>rfl
      | some cv =>
       cases iQ with
       | none=>exact hp.elim
       | some v =>
        cases r with
        | false=>exact(eH v rfl rfl).elim
        | true=>rfl
     rw[PK];exact nil r hc
   ·have b_:∀{K:Act->aP->Prop}{Q':Exit->Act->aP->Prop},o.wp P a w K Q'->(match (execOp a.eval o).run P w with
      | .ok .recover w'=>False
      | rr=>o.upon P a K Q' rr):=by
     intro K Q' TD;unfold Oper.wp at TD;generalize (execOp a.eval o).run P w=rr at TD;split
     ·exact TD
     ·exact TD
    have fin:o.wp P a w (λa' w'=>wpOpsS P all Q (List.range' (k+1) os.length) a' ({ c0 with mode:=ez pc r }::CL) w') (λe a' w'=>Q e a' ({ c0 with mode:=ez pc r }::CL) w'):=by
     split at hc<;>try (cases hc;done)
     next v cZ H' Ir Is aD=>rw[jN] at hc;refine Iq lg h aD ⟨λv' hv g' cv a' w' hk=>?_,(λhv=>nomatch hv),(λv' hv=>nomatch hv)⟩;cases hv;exact ih _ r g' _ w' mU (wX hk) hc
     next cZ H' Ir Is aD=>rw[jN] at hc;refine Iq lg h aD ⟨(λv' hv=>nomatch hv),λ_ g' a' w' hk=>?_,(λv' hv=>nomatch hv)⟩;exact ih _ r g' _ w' mU (wX (yD hk o)) hc
     next v s1 aD=>simp only[bu,cw] at hc;obtain⟨rfl,rfl,rfl⟩:=hc;refine Iq lg h aD ⟨(λv' hv=>nomatch hv),(λhv=>nomatch hv),λv' hv g' cv a' w' hk h1 h2=>?_⟩;cases hv;exact hQ _ _ _ _ ⟨⟨g',hk,cv,rfl,h1,h2⟩,rfl⟩
    have:=b_ fin;split
    next w1 N5=>rw[N5] at this;exact this.elim
    next rr WJ=>unfold Oper.wp at fin;exact fin
theorem WK{c:Code}{Q Q':Exit->Act->List Frame->aP->Prop}{cs:List Frame}(h:c.wpS P Q a cs w)(hq:∀e a cs w,Q e a cs w->Q' e a cs w):c.wpS P Q' a cs w :=
 λb k hb hr=>let ⟨e,a',cs',w',q,r⟩:=h b k hb hr;⟨e,a',cs',w',hq _ _ _ _ q,r⟩
theorem zlh{cx:Cx}(lg:oX P cx B)(e_:N3 P cx B/\N4 P cx B)(n:Nat){iQ:bY}{pc:Option bw}(hp:oE B.g B.bs.length iQ pc)(c0:Frame)(CL:List Frame):∀(c:Code)(s s':St)(ex:Ex)(r r':Bool)(g:Gh)(a:Act)(w:aP),
  cx.m_ n iQ c r s=some (ex,r',s')->Rel B g s a w->c.wpS P (WH B ex s' pc r' c0 CL) a ({ c0 with mode:=ez pc r }::CL) w:=by
 have plain:∀(c:Code)(s s':St)(ex:Ex)(r:Bool)(g:Gh)(a:Act)(w:aP),cx.code n c s=some (ex,s')->Rel B g s a w->c.wpS P (WH B ex s' pc r c0 CL) a ({ c0 with mode:=ez pc r }::CL) w :=
  λc s s' ex r g a w hx h=>wpS_of_wp (Code.wp_mono (λ_ _ _ q=>⟨q,rfl⟩) (zi2 lg e_.1 e_.2 n c s s' ex g a w hx h))
 intro c
 induction c with
 | seq x y Iv LM =>
  intro s s' ex r r' g a w hc h;simp only[Cx.m_] at hc;split at hc<;>try (cases hc;done)
  ·rename_i r1 s1 hx;refine wpS_seq (WK (Iv s s1 .normal r r1 g a w hx h) ?_);rintro e a' cs' w' ⟨⟨g',h1,h2⟩,rfl⟩;cases e<;>first
    |(exact h2.elim)
    |(exact LM s1 s' ex r1 r' g' a' w' hc h1)
  ·rename_i x1 b_ hx;simp only[bu] at hc;subst hc;refine wpS_seq (WK (Iv s _ _ r _ g a w hx h) ?_);rintro e a' cs' w' ⟨⟨g',h1,h2⟩,rfl⟩;cases ex<;>cases e<;>first
    |(exact h2.elim)
    |(exact(b_ _ _ rfl).elim)
    |(exact⟨⟨g',h1,h2⟩,rfl⟩)
 | cond c x y Iv LM =>
  intro s s' ex r r' g a w hc h;simp only[Cx.m_] at hc;split at hc<;>try (cases hc;done)
  next LP=>have c1:=(zI h LP).1;generalize Af:a.eval c=cc at c1;cases c1;exact wpS_cond Af (by simpa using Iv s s' ex r r' g a w hc h)
  next LP=>have c1:=(zI h LP).1;generalize Af:a.eval c=cc at c1;cases c1;exact wpS_cond Af (by simpa using LM s s' ex r r' g a w hc h)
 | region id ops draw =>
  intro s s' ex r r' g a w hc h;cases draw with
  | false =>
   obtain⟨env,H,lk,df⟩:=s;simp only[Cx.m_] at hc;refine wpS_region ?_;have:=zi3 lg hp c0 CL (λ_ _ _ _ q=>q) ops.toList 0 _ r g a w (by simp) h.Iu hc
   rw[List.range_eq_range',<- AM];exact this
  | true =>
   simp only[Cx.m_] at hc;split at hc<;>simp only[bu,reduceCtorEq,cw] at hc;rename_i e1 s1 hx;obtain⟨rfl,rfl,rfl⟩:=hc;exact plain _ s s1 e1 r g a w hx h
 | _ =>
   intro s s' ex r r' g a w hc h;simp only[Cx.m_] at hc;split at hc<;>simp only[bu,reduceCtorEq,cw] at hc;rename_i e1 s1 hx;obtain⟨rfl,rfl,rfl⟩:=hc;exact plain _ s s1 e1 r g a w hx h
end
section
variable{P:aQ}{B:dY}{g:Gh}{s:St}{a:Act}{w:aP}
theorem zli{gl:Nat->Nat->bY}{uq:aB->Bool}{call:FuncId->aC->Hp->Option (Out×Hp)}{d n:Nat}(fX:yC P)(dW:va P)(dz:xz P gl call d)(e_:∀B,N3 P { P,gl,call,uq } B/\N4 P { P,gl,call,uq } B){iQ:bY}{pc:Option bw}{f:FuncId}{args:aC}{H H':Hp}{r:Bool}{bp:dF}
  (hc:Lo P gl uq call n iQ f args H=some (r,H')) (rm:gF P gl g) (hw:nu g H.au w) (ha:dI g H.au.length args bp) (hp:oE g H.au.length iQ pc) :
  CallsD P f bp (ez pc false) w λe u' w'=>∃cv g',e=.returned cv/\u'=ez pc r/\iS (d+1) H g w H' g' w':=by
 obtain⟨bs,es⟩:=H;simp only[Lo] at hc;split at hc<;>try (cases hc;done)
 rename_i fn hf;split at hc<;>try (cases hc;done)
 rename_i body hb;simp only[qA,eJ] at hc;have lg:oX P { P,gl,call,uq } ⟨d+1,bs,g,w,[]⟩:=⟨rfl,fX,dW,rm,d,HT d,dz⟩;have h0:=zgF (H:=⟨bs,es⟩) hw ha (d+1) fn.ntmps;have fin:∀(ex:Ex)(env:aC)(H1:Hp)(lk:aN),(ex=.normal\/ex=.ret)->Cx.m_ { P,gl,call,uq } n iQ body false ⟨args++List.replicate (fn.ntmps - args.length) (.br []),⟨bs,[]⟩,[],[]⟩=some (ex,r,⟨env,H1,lk,[]⟩) ->
   ∀us,zy P H1 env fn.results.toList=some us->H'=zX bs.length es 0 H1 ->
   CallsD P f bp (ez pc false) w λe u' w'=>∃cv g',e=.returned cv/\u'=ez pc r/\iS (d+1) ⟨bs,es⟩ g w H' g' w':=by
  intro ex env H1 lk hex hx us CE hH;refine callsD_of_wpS hf hb λc0 cs hm=>?_;have key:=zlh lg (e_ _) n (iQ:=iQ) (pc:=pc) hp c0 cs body _ _ ex false r g _ w hx h0;have sR:({ c0 with mode:=ez pc false }:Frame)=c0:=by rw[<- hm]
  rw[sR] at key;refine WK key ?_;rintro e a' cs' w' ⟨⟨g',h1,h2⟩,rfl⟩;have Eb:a'.defers=[]:=K6.1 (by rw[<- h1.eK];rfl)
  obtain⟨g2,s2,cv,r1,r2,r3,_⟩:=zds h1 CE .ret;have iM:=(WA hw h1 (top:=0) (dU _)).1;have Ah:a'.defers=[]/\∃u',({ c0 with mode:=ez pc r }:Frame)::cs={ c0 with mode:=u' }::cs/\∃v,(results fn a'.tmps).run P w'=.ok v w'/\∃cv g',Ending.returned v=.returned cv/\u'=ez pc r/\iS (d+1) ⟨bs,es⟩ g w H' g' w' :=
   ⟨Eb,_,rfl,cv,r1,cv,g',rfl,rfl,by rw[hH];exact iM⟩
  rcases hex with rfl|rfl<;>cases e<;>first|(exact h2.elim)|(exact Ah)
 split at hc
 ·rename_i r1 env H1 lk hx;split at hc<;>try (cases hc;done)
  rename_i us CE;rw[kW] at hc;simp only[bu,cw] at hc;obtain⟨rfl,rfl⟩:=hc;exact fin .normal env H1 lk (.inl rfl) hx us CE rfl
 ·rename_i r1 env H1 lk hx;split at hc<;>try (cases hc;done)
  rename_i us CE;rw[kW] at hc;simp only[bu,cw] at hc;obtain⟨rfl,rfl⟩:=hc;exact fin .ret env H1 lk (.inr rfl) hx us CE rfl
 ·cases hc
theorem zgH(pc:Option bw):settle (ez pc true)=.returning:=by
 cases pc<;>rfl
theorem zfv(pc:Option bw):settle (ez pc false)=ez pc false:=by
 cases pc<;>rfl
theorem TE{gl:Nat->Nat->bY}{uq:aB->Bool}{call:FuncId->aC->Hp->Option (Out×Hp)}{d n:Nat}(fX:yC P)(dW:va P)(dz:xz P gl call d)(e_:∀B,N3 P { P,gl,call,uq } B/\N4 P { P,gl,call,uq } B)(hd:d+1<B.d)(rm:gF P gl B.g){fn:Func}{tmps:dF}{R:Ending->aP->Prop}{H':Hp}{LQ:bY} :
  ∀(df:bP)(iQ:bY)(pc:Option bw)(env:aC)(H:Hp)(lk:aN)(g:Gh)(dc:List Deferred)(w:aP),Rel B g ⟨env,H,lk,df⟩ ⟨tmps,dc⟩ w->oE g H.au.length iQ pc->vk (Lo P gl uq call n) iQ df H=some (LQ,H') ->
   (∀g' N6 w',Rel B g' ⟨env,H',lk,[]⟩ ⟨tmps,[]⟩ w'->oE g' H'.au.length LQ N6->match N6 with
    | none=>∃v,(results fn tmps).run P w'=.ok v w'/\R (.returned v) w'
    | some cv=>R (.panicked [{ v:=cv,recovered:=false }]) w')->Leaves P fn tmps R dc (ez pc false) w
 | [],iQ,pc,env,H,lk,g,dc,w,h,hp,hc,hR=>by
  have hdc:dc=[]:=K6.1 (h.eK.symm);subst hdc;simp only[vk,bu,cw] at hc;obtain⟨rfl,rfl⟩:=hc;have:=hR g pc w h hp;cases pc with
  | none=>exact this
  | some cv=>exact this
 | (fv,args)::df,iQ,pc,env,H,lk,g,dc,w,h,hp,hc,hR=>by
  cases dc with
  | nil=>have:=h.eK;simp at this
  | cons dd dc =>
   rcases h.defers 0 (fv,args) dd rfl rfl with LR|⟨Bn,_⟩
   rotate_left
   ·simp only[cw] at Bn;obtain⟨e1,e2⟩:=Bn;subst e1 e2;simp[vk] at hc
   obtain⟨f,as,cs,fc,e1,e2,e3,e4,e5,e6,e7,e8⟩:=LR;simp only at e1;subst e1;obtain⟨tg,da⟩:=dd;simp only at e2 e3 e5;subst e2;simp only[vk,eJ] at hc;have WL:∃r H1,Lo P gl uq call n iQ f ((as++args++cs).map aW) H=some (r,H1)/\vk (Lo P gl uq call n) (if r then none else iQ) df H1=some (LQ,H'):=by
    split at hc<;>try (cases hc;done)
    next H1 hx=>exact⟨true,H1,hx,hc⟩
    next H1 hx=>exact⟨false,H1,hx,hc⟩
   obtain⟨r,H1,hx,oG⟩:=WL;have fM:dI g H.au.length ((as++args++cs).map aW) (da++fc):=dI.Fu (by simp only[aV,Array.size_append] at e3 ⊢;omega) (vD e3 e5 e6) (wC e7 e8)
   have WM:gF P gl g:=rm.le h.fr.le;have hinv:(invoke (.fn (.func f) fc) da).run P w=.ok (.enter f (da++fc)) w:=by
    unfold Lo at hx;simp only at hx;split at hx<;>try (cases hx;done)
    rename_i fn' Fp;split at hx<;>try (cases hx;done)
    rename_i body dg;have b_:fn'.name≠ "runtime.NumGoroutine":=by simpa using fX f fn' Fp
    simp[invoke,callFunc,Fp,dg,b_]
   refine leaves_cons (by cases pc<;>simp[ez]) hinv (CallsD.mono (zli fX dW dz e_ hx WM h.de fM hp) λe u' w' he=>?_)
   obtain⟨cv,g',rfl,rfl,hA⟩:=he;have hrel:=h.call hd hA;have JQ:Rel B g' ⟨env,H1,lk,df⟩ ⟨tmps,dc⟩ w' :=
    {de:=hrel.de,len:=hrel.len,env:=hrel.env,dS:=hrel.dS,n0:=hrel.n0,bC:=hrel.bC,dV:=hrel.dV,fr:=hrel.fr,lV:=hrel.lV,oB:=hrel.oB,cY:=hrel.cY,eK:=by have:=hrel.eK;simpa using this,defers:=λj x q hx hq=>hrel.defers (j+1) x q (by simpa using hx) (by simpa using hq),marks:=λd hd D hD=>hrel.marks d (d_ _ hd) D hD,nM:=(List.pairwise_cons.1 hrel.nM).2 }
   have G3:oE g' H1.au.length iQ pc:=hp.le hA.fr.le hA.len;cases r with
   | true =>
    simp only[zgH];exact TE fX dW dz e_ hd rm df none none env H1 lk g' dc w' JQ trivial oG hR
   | false =>
    simp only[zfv];exact TE fX dW dz e_ hd rm df iQ pc env H1 lk g' dc w' JQ G3 oG hR
end
section
variable{P:aQ}{g:Gh}{w:aP}
def WN(_P:aQ)(uq:aB->Bool):Prop:=∀gf back (ty:Nat),ty<1048576->uq (xe gf back ty)=true->False
structure mX(P:aQ)(gl:Gl):Prop where
 pure:∀f args v,gl.hk f args=some v->∀d H g w bp l,gF P gl g->nu g H.au w->dI g H.au.length args bp->Calls P f bp w (ef d H g w l (.ret v) H)
 heap:∀n f args H out H',gl.eV n f args H=some (out,H')->∀d,2 * (n+1)<=d->∀g w bp l,gF P gl g->nu g H.au w->dI g H.au.length args bp->Calls P f bp w (ef d H g w l out H')
 it:WN P gl.uq
theorem zgI{gl:Gl}(fX:yC P)(dW:va P)(Ek:mX P gl)(e_:∀n B,N3 P { P,gl,call:=zk P gl n,uq:=gl.uq } B/\N4 P { P,gl,call:=zk P gl n,uq:=gl.uq } B):∀n,xz P gl (zk P gl n) (2 * n)
 | 0=>λf args H out H' hc=>by simp[zk] at hc
 | n+1=>by
  have ih:=zgI fX dW Ek e_ n;intro f args H out H' hc g w bp l rm hw ha;obtain⟨bs,es⟩:=H;simp only[zk] at hc;split at hc
  next v hv=>simp only[bu,cw] at hc;obtain⟨rfl,rfl⟩:=hc;exact Ek.pure f args v hv _ _ g w bp l rm hw ha
  split at hc
  next r hv=>simp only[bu] at hc;subst hc;exact Ek.heap n f args _ out H' hv _ (dB _) g w bp l rm hw ha
  split at hc<;>try (cases hc;done)
  rename_i fn hf;split at hc<;>try (cases hc;done)
  rename_i body hb;simp only[qA,eJ] at hc;split at hc<;>try (cases hc;done)
  rename_i ex env H1 lk df hx;split at hc<;>try (cases hc;done)
  rename_i iQ Bo;have LS:2 * n<2 * (n+1):=by omega
  have AT:2 * n+1<2 * (n+1):=by omega
  have lg:oX P { P,gl,call:=zk P gl n,uq:=gl.uq } ⟨2 * (n+1),bs,g,w,[]⟩:=⟨rfl,fX,dW,rm,2 * n,LS,ih⟩;have h0:=zgF (H:=⟨bs,es⟩) hw ha (2 * (n+1)) fn.ntmps;refine calls_of_wp_defers hf hb (Code.wp_mono ?_ (zi2 lg (e_ n _).1 (e_ n _).2 n body _ _ ex g _ w hx h0));rintro e a' w' ⟨g',h1,h2⟩
  have PL:∃pc,oE g' H1.au.length iQ pc/\∀R,Leaves P fn a'.tmps R a'.defers (ez pc false) w'->bodyPostD P fn R e a' w':=by
   cases ex<;>cases e<;>simp only[Bg,bu,reduceCtorEq] at Bo<;>try (exact h2.elim)
   ·subst Bo;exact⟨none,trivial,λR h=>h⟩
   ·subst Bo;exact⟨none,trivial,λR h=>h⟩
   ·subst Bo;obtain⟨cv,rfl,h3,h4⟩:=h2;exact⟨some cv,⟨h3,h4⟩,λR h=>h⟩
  obtain⟨pc,hp,PM⟩:=PL;refine PM _ ?_;split at hc<;>try (cases hc;done)
  ·rename_i v H2 WO;rw[kW] at hc;simp only[bu,cw] at hc;obtain⟨rfl,rfl⟩:=hc;refine TE (B:=⟨2 * (n+1),bs,g,w,[]⟩) fX dW ih (e_ n) AT rm df iQ pc env H1 lk g' a'.defers w' h1 hp WO λg2 N6 w2 h3 h4=>?_;cases N6 with
   | none=>exact h4.elim
   | some cv =>
    obtain⟨f1,f2,f3⟩:=WA hw h3 h4.2;exact⟨v,cv,g2,rfl,rfl,f1,h4.1,f2⟩
  ·rename_i H2 WO;split at hc<;>try (cases hc;done)
   rename_i vs PN;rw[qm,kW] at hc;simp only[bu,cw] at hc;obtain⟨rfl,rfl⟩:=hc;refine TE (B:=⟨2 * (n+1),bs,g,w,[]⟩) fX dW ih (e_ n) AT rm df iQ pc env H1 lk g' a'.defers w' h1 hp WO λg2 N6 w2 h3 h4=>?_;cases N6 with
   | some cv=>exact h4.elim
   | none =>
    obtain⟨g3,s3,cv,r1,r2,r3,r4,r5,r6⟩:=zds h3 PN l;have r5':=r5;obtain⟨f1,f2,f3⟩:=WA (s:=s3) hw r3 (top:=(lz vs).top) (by rw[r2];exact r6)
    rw[r2] at f1 f2 f3;exact⟨cv,r1,lz vs,g3,rfl,f1,r4,r5.less f3,f2⟩
end
section
variable{P:aQ}
def gv(env bI:aC)(xs:List aX):Prop:=∀t,Operand.tmp t∈xs->env[t]?=bI[t]?
theorem gv.mono{env bI:aC}{xs ys:List aX}(h:gv env bI xs)(hs:∀x∈ys,x∈xs):gv env bI ys:=λt ht=>h t (hs _ ht)
theorem gv.ak{env bI:aC}{xs:List aX}(h:gv env bI xs):∀x∈xs,Vm.ak env x=Vm.ak bI x:=λx hx=>by
 cases x with
 | tmp t=>simp only[Vm.ak,zg,h t hx]
 | _=>rfl
theorem gv.az{env bI:aC}{xs:List aX}(h:gv env bI xs):∀{ys:List aX},(∀y∈ys,y∈xs)->Vm.az env ys=Vm.az bI ys
 | [],_=>rfl
 | y::ys,hy=>by
  simp only[Vm.az,h.ak y (hy y (eT ..)),h.az (ys:=ys) λz hz=>hy z (d_ _ hz)]
theorem gv.cX{env bI:aC}{xs:List aX}(h:gv env bI xs){x:Option aX}(hx:∀y,x=some y->y∈xs):Vm.cX env x=Vm.cX bI x:=by
 cases x with
 | none=>rfl
 | some y=>simp only[Vm.cX,h.ak y (hx y rfl)]
theorem zcF{env bI:aC}{xs:List aX}(h:gv env bI xs){place:Nat->Option (Nat×Nat)}:∀{ps:List (Nat×aX)}{cs:aC},(∀p∈ps,p.2∈xs)->xN cs place env ps=xN cs place bI ps
 | [],_,_=>rfl
 | (i,x)::ps,cs,hp=>by
  simp only[xN,h.ak x (hp (i,x) (eT ..))];have ih:=λcs=>zcF h (place:=place) (ps:=ps) (cs:=cs) λp hq=>hp p (d_ _ hq);simp only[ih]
theorem zdu{env bI:aC}{xs:List aX}(h:gv env bI xs){n len:Nat}:∀{ps:List (Nat×aX)}{cs:aC},(∀p∈ps,p.2∈xs)->D8 n len env cs ps=D8 n len bI cs ps
 | [],_,_=>rfl
 | (i,x)::ps,cs,hp=>by
  simp only[D8,h.ak x (hp (i,x) (eT ..))];have ih:=λcs=>zdu h (n:=n) (len:=len) (ps:=ps) (cs:=cs) λp hq=>hp p (d_ _ hq);simp only[ih]
theorem zbx{env bI:aC}{xs:List aX}(h:gv env bI xs){t:aB}{ps:Array (Nat×aX)}(hp:∀p∈ps.toList,p.2∈xs):kB P t ps env=kB P t ps bI:=by
 unfold kB;simp only[zcF h hp]
theorem zgJ{env bI:aC}{gl:Nat->Nat->bY}{o:Oper}{H:Hp}(h:gv env bI o.op.operands.toList):qZ P gl o env H=qZ P gl o bI H:=by
 obtain⟨dst,op,type,pos,after,guard⟩:=o;have hp:=h.ak;cases op<;>simp only[Op.operands] at h hp
 case build t ps=>simp only[qZ,zbx h (ps:=ps) λp hq=>by simpa using HP (f:=(·.2)) hq]
 case buildSlice t n ps=>simp only[qZ,λa b c=>zdu h (n:=a) (len:=b) (cs:=c) (ps:=ps.toList) λp hq=>by simpa using HP (f:=(·.2)) hq]
 case makeFunc fn first cap =>
  simp only[qZ,h.az (ys:=first.toList) λy hy=>by simp at hy ⊢;exact .inl hy,h.az (ys:=cap.toList) λy hy=>by simp at hy ⊢;exact .inr hy]
 case slice t x lo hi mx =>
  simp only[qZ,hp x (by simp),h.cX (x:=lo) λy hy=>by subst hy;simp,h.cX (x:=hi) λy hy=>by subst hy;simp]
  cases mx with
  | none=>rfl
  | some m=>simp only[hp m (by simp)]
 all_goals first
  |rfl
  |(simp[qZ,hp];done)
end
section
variable{P:aQ}
def kp(env:aC):aX->aC
 | .tmp t=>match env[t]? with
  | some (.sl sz xs (.yes _))=>env.set t (.sl sz xs .no)
  | _=>env
 | _=>env
def ou(env:aC):Option aX->aC
 | some x=>kp env x
 | none=>env
theorem zeI{env:aC}{t sz:Nat}{xs:aC}{e:aB}(h:env[t]?=some (.sl sz xs (.yes e))):kp env (.tmp t)=env.set t (.sl sz xs .no):=by
 simp only[kp,h]
theorem PO{env:aC}{t:Nat}{v:V}(h:env[t]?=some v)(hn:∀sz xs e,v≠.sl sz xs (.yes e)):kp env (.tmp t)=env:=by
 simp only[kp,h];split
 next h1=>cases h1;exact(hn _ _ _ rfl).elim
 ·rfl
theorem zgK{env:aC}{t sz:Nat}{xs:aC}{e:aB}(h:env[t]?=some (.sl sz xs (.yes e))):take env (.tmp t)=some (.sl sz xs (.yes e),env.set t (.sl sz xs .no)):=by
 simp only[take,zg,h,eW]
theorem zi4{env:aC}{t:Nat}{v:V}(h:env[t]?=some v)(hn:∀sz xs e,v≠.sl sz xs (.yes e)):take env (.tmp t)=some (aW v,env):=by
 cases v with
 | sl sz xs o=>cases o with
  | yes e=>exact(hn _ _ _ rfl).elim
  | _=>simp only[take,zg,h]
 | _=>simp only[take,zg,h]
theorem wD{env bI:aC}{x:aX}(h:gv env bI [x]){v:V}{e:aC}(ht:take env x=some (v,e)):e=kp env x/\take bI x=some (v,kp bI x):=by
 cases x with
 | tmp t =>
  have ha:=h t (by simp)
  cases hv:env[t]? with
  | none=>simp[take,zg,hv] at ht
  | some v0 =>
   have GU:bI[t]?=some v0:=by rw[<- ha,hv]
   by_cases hy:∃sz xs e,v0=.sl sz xs (.yes e)
   ·obtain⟨sz,xs,e',rfl⟩:=hy;rw[zgK hv] at ht;cases ht;exact⟨(zeI hv).symm,by rw[zgK GU,zeI GU]⟩
   ·have hn:∀sz xs e,v0≠.sl sz xs (.yes e):=λsz xs e h=>hy ⟨sz,xs,e,h⟩;rw[zi4 hv hn] at ht;cases ht;exact⟨(PO hv hn).symm,by rw[zi4 GU hn,PO GU hn]⟩
 | const c =>
  simp only[take,ak,mA,cw] at ht;obtain⟨u,hu,rfl,rfl⟩:=ht;exact⟨rfl,by simp[take,ak,hu,kp]⟩
 | global k =>
  simp only[take,ak,aS,bu,cw] at ht;obtain⟨rfl,rfl⟩:=ht;exact⟨rfl,by simp[take,ak,kp]⟩
 | func f =>
  simp only[take,ak,aS,bu,cw] at ht;obtain⟨rfl,rfl⟩:=ht;exact⟨rfl,by simp[take,ak,kp]⟩
end
section
variable{P:aQ}
theorem zex{cx:Cx}{b:Builtin}{ts:Array aB}{args:r_}{env bI:aC}{H:Hp}{xs:List aX}{r:OR}{e:aC}{k:Option aX}(h:gv env bI xs)(hx:∀x∈args.toList,x∈xs)
  (hb:cx.builtin b ts args env H=some (r,e)) (hk:k=match b with|.append=>args.toList.head?|_=>none):e=ou env k/\cx.builtin b ts args bI H=some (r,ou bI k):=by
 have hp:=h.ak;unfold Cx.builtin at hb ⊢;split at hb
 ·rename_i x t ha ht hb;have e1:=hp x (hx x (by simp[ha]))
  simp only[<- e1] at hk ⊢;subst hk;simp only[Option.bind_eq_bind,eL,bu,cw] at hb;obtain⟨u,h1,v,h2,h3,rfl⟩:=hb;refine⟨rfl,?_⟩;simp[h1,h2,h3,ou]
 ·rename_i x y t u ha ht hb;have e1:=hp y (hx y (by simp[ha]))
  simp only[ha,<- e1] at hk ⊢;subst hk;split at hb<;>try (cases hb;done)
  rename_i hg;rw[if_neg hg];simp only[Option.bind_eq_bind,eL,bu,cw] at hb;obtain⟨y',h1,⟨v,e'⟩,h2,w,h3,h4,rfl⟩:=hb;obtain⟨t1,t2⟩:=wD (h.mono (xs:=xs) (ys:=[x]) (by simpa using hx x (by simp[ha]))) h2
  refine⟨t1,?_⟩;simp[h1,t2,h3,h4,ou]
 ·rename_i x y ha hb;have e1:=hp x (hx x (by simp[ha]))
  have e2:=hp y (hx y (by simp[ha]))
  simp only[<- e1,<- e2] at hk ⊢;subst hk;simp only[Option.bind_eq_bind,eL] at hb;obtain⟨u,h1,v,h2,h3⟩:=hb;simp only[Option.bind_eq_bind,h1,h2,aU];split at h3<;>simp only[bu,reduceCtorEq,cw] at h3;obtain⟨rfl,rfl⟩:=h3;exact⟨rfl,rfl⟩
 ·rename_i x y ha hb;have e1:=hp x (hx x (by simp[ha]))
  have e2:=hp y (hx y (by simp[ha]))
  simp only[<- e1,<- e2] at hk ⊢;subst hk;simp only[Option.bind_eq_bind,eL] at hb;obtain⟨u,h1,v,h2,h3⟩:=hb;simp only[Option.bind_eq_bind,h1,h2,aU];split at h3<;>simp only[bu,reduceCtorEq,cw] at h3;obtain⟨rfl,rfl⟩:=h3;exact⟨rfl,rfl⟩
 ·cases hb
theorem zdv{env:aC}{x:aX}{v:V}(h:ak env x=some v)(hn:∀sz xs o,v≠.sl sz xs o):kp env x=env:=by
 cases x with
 | tmp t =>
  simp only[ak,zg] at h;split at h<;>simp only[bu,reduceCtorEq] at h;rename_i v0 h0;refine PO h0 λsz xs e e0=>?_;subst e0;exact hn sz xs .no h.symm
 | _=>rfl
theorem zey{cx:Cx}{t:aB}{x y:aX}{env bI:aC}{H:Hp}{lk:aN}{df:bP}{r:OR}{s':St}(hx:ak env x=ak bI x)(hy:ak env y=ak bI y)(aD:cx.mV t x y env H lk df=some (r,s')) :
  s'.env=kp env x/\cx.mV t x y bI H lk df=some (r,{ s' with env:=kp bI x }):=by
 unfold Cx.mV at aD ⊢;rw[<- hx,<- hy];simp only[Option.bind_eq_bind,eL] at aD;obtain⟨td,ht,aD⟩:=aD;simp only[Option.bind_eq_bind,ht,aU];split at aD<;>try (cases aD;done)
 simp only[eL] at aD;obtain⟨n,hn,i,hi,z,hz,yv,h1,ys,tH,aD⟩:=aD;simp only[hn,hi,hz,h1,tH,aU];split at aD<;>try (cases aD;done)
 rename_i hc;rw[if_neg hc];simp only[eL] at aD;obtain⟨xv,h2,aD⟩:=aD;simp only[h2,aU];have key:(∀sz xs o,xv≠.sl sz xs o)->kp env x=env/\kp bI x=bI:=λhn=>⟨zdv h2 hn,zdv (hx ▸ h2) hn⟩;split at aD
 ·obtain⟨k1,k2⟩:=key (λ_ _ _ e=>by cases e)
  rw[k1,k2];split at aD
  ·simp only[bu,cw] at aD;obtain⟨rfl,rfl⟩:=aD;exact⟨rfl,rfl⟩
  ·split at aD<;>try (cases aD;done)
   rename_i Eh;simp only[di,qA,qn,bu,cw] at aD;obtain⟨rfl,rfl⟩:=aD;refine⟨rfl,?_⟩;simp only[Eh,aF,di,qA,qn]
 ·obtain⟨k1,k2⟩:=key (λ_ _ _ e=>by cases e)
  rw[k1,k2];split at aD<;>try (cases aD;done)
  rename_i h3
  try simp only[h3]
  split at aD<;>try (cases aD;done)
  rename_i h4;rw[if_pos h4];simp only[di,qA,jc,bu,cw] at aD ⊢;obtain⟨rfl,rfl⟩:=aD;exact⟨rfl,rfl,rfl⟩
 ·obtain⟨k1,k2⟩:=key (λ_ _ _ e=>by cases e)
  rw[k1,k2];split at aD<;>try (cases aD;done)
  rename_i h3
  try simp only[h3]
  split at aD
  next h4=>rw[if_pos h4];simp only[di,qA,jc,bu,cw] at aD ⊢;obtain⟨rfl,rfl⟩:=aD;exact⟨rfl,rfl,rfl⟩
  ·rename_i h4;rw[if_neg h4];split at aD<;>try (cases aD;done)
   rename_i h5
   try simp only[h5]
   split at aD<;>try (cases aD;done)
   rename_i h6;rw[if_pos h6];simp only[di,qA,qn,bu,cw] at aD ⊢;obtain⟨rfl,rfl⟩:=aD;exact⟨rfl,rfl,rfl⟩
 ·cases aD
theorem zgL{cx:Cx}{t:aB}{x y:aX}{env bI:aC}{H:Hp}{lk:aN}{df:bP}{r:OR}{s':St}(hx:ak env x=ak bI x)(hy:ak env y=ak bI y)(aD:cx.sI t x y env H lk df=some (r,s')) :
  s'.env=env/\cx.sI t x y bI H lk df=some (r,{ s' with env:=bI }):=by
 unfold Cx.sI at aD ⊢;rw[<- hx,<- hy];simp only[Option.bind_eq_bind,eL] at aD;obtain⟨td,ht,aD⟩:=aD;simp only[Option.bind_eq_bind,ht,aU];split at aD<;>try (cases aD;done)
 simp only[eL] at aD;obtain⟨n,hn,yv,h1,ys,tH,xv,h2,aD⟩:=aD;simp only[hn,h1,tH,h2,aU];split at aD<;>try (cases aD;done)
 split at aD<;>try (cases aD;done)
 rename_i h3
 try simp only[h3]
 split at aD<;>try (cases aD;done)
 rename_i h4;rw[if_pos h4];simp only[di,jc,bu,cw] at aD ⊢;obtain⟨rfl,rfl⟩:=aD;exact⟨rfl,rfl,rfl⟩
theorem zfw{cx:Cx}{t:aB}{x:aX}{lo hi:Option aX}{env bI:aC}{H:Hp}{lk:aN}{df:bP}{r:OR}{s':St}(hx:ak env x=ak bI x)(hl:cX env lo=cX bI lo)(hh:cX env hi=cX bI hi)(aD:cx.oQ t x lo hi env H lk df=some (r,s')) :
  s'.env=env/\cx.oQ t x lo hi bI H lk df=some (r,{ s' with env:=bI }):=by
 unfold Cx.oQ at aD ⊢;rw[<- hx,<- hl,<- hh];split at aD<;>try (cases aD;done)
 ·rename_i h1 h2 h3 h4
  try simp only[h1,h2,h3,h4]
  split at aD<;>try (cases aD;done)
  rename_i h5 h6
  try simp only[h5,h6]
  split at aD<;>try (cases aD;done)
  rename_i h7;rw[if_pos h7];simp only[eJ,qA,jc,bu,cw] at aD ⊢;obtain⟨rfl,rfl⟩:=aD;exact⟨rfl,rfl,rfl⟩
 ·rename_i h1 h2 h3
  try simp only[h1,h2,h3]
  split at aD<;>simp only[bu,reduceCtorEq,cw] at aD;rename_i h5
  try simp only[h5]
  obtain⟨rfl,rfl⟩:=aD;exact⟨rfl,rfl⟩
theorem zfx{P:aQ}{t:aB}{x:aX}{lo:Option aX}{env bI e:aC}{v:V}(h:gv env bI [x])(hl:cX env lo=cX bI lo)(hm:Lj P t x lo env=some (v,e)):e=kp env x/\Lj P t x lo bI=some (v,kp bI x):=by
 unfold Lj at hm ⊢;rw[<- hl];split at hm<;>try (cases hm;done)
 rename_i h1 h2 h3
 try simp only[h1,h3]
 split at hm<;>try (cases hm;done)
 rename_i h4
 try simp only[h4]
 split at hm<;>simp only[bu,reduceCtorEq,cw] at hm;rename_i h5;obtain⟨rfl,rfl⟩:=hm;obtain⟨k1,k2⟩:=wD h h2;simp only[k2,h4,h5];exact⟨k1,trivial⟩
theorem zlj{P:aQ}{a b:aB}{x:aX}{env:aC}{r:V×aC}(h:yb P a b x env=some r):Nat.beq a b=true:=by
 unfold yb at h;split at h
 next e _=>exact e
 ·cases h
theorem zcG{P:aQ}{a b:aB}{x:aX}{env bI e:aC}{v:V}(h:gv env bI [x])(hm:yb P a b x env=some (v,e)):e=kp env x/\yb P a b x bI=some (v,kp bI x):=by
 unfold yb at hm ⊢;split at hm<;>try (cases hm;done)
 rename_i h1 h2
 try simp only[h1,h2]
 split at hm<;>simp only[bu,reduceCtorEq,cw] at hm;rename_i h3 h4;obtain⟨rfl,rfl⟩:=hm;obtain⟨k1,k2⟩:=wD h h4;simp only[k2,h3];exact⟨k1,trivial⟩
theorem zh4{P:aQ}{a b:aB}{x:aX}{env bI:aC}(h:gv env bI [x])(hm:yb P a b x env=none):yb P a b x bI=none:=by
 cases h2:yb P a b x bI with
 | none=>rfl
 | some r =>
  obtain⟨v,e⟩:=r;have h':gv bI env [x]:=λt ht=>(h t ht).symm;rw[(zcG h' h2).2] at hm;cases hm
theorem zeJ{P:aQ}{a b:aB}{sz:Nat}{xs:aC}{o:tG}(h:Nat.beq a b=true):vB P a b (.sl sz xs o)=none:=by
 have h':=eR h;subst h';simp only[vB,Option.bind_eq_bind];cases P.underlying a with
 | none=>rfl
 | some d =>
  simp only[aU]
theorem PR{cx : Cx}{takes : cg}{o : Oper}{env bI : aC}{H : Hp}{lk : aN}{df : bP}{r : OR}{s' : St}(h : gv env bI o.op.operands.toList)(aD : cx.op takes o env H lk df = some (r, s')) :
    s'.env = ou env (ko takes o) /\ cx.op takes o bI H lk df = some (r, { s' with env := ou bI (ko takes o) }) := by
  have JP := zgJ (P := cx.P) (gl := cx.gl) (H := H) h;obtain⟨dst, op, type, pos, after, guard⟩ := o;have hp := h.ak;have read : ko takes ⟨dst, op, type, pos, after, guard⟩ = none -> (match qZ cx.P cx.gl ⟨dst, op, type, pos, after, guard⟩ env H with | none => none | some v => some (OR.val v, (⟨env, H, lk, df⟩ : St))) = some (r, s') ->
      s'.env = ou env (ko takes ⟨dst, op, type, pos, after, guard⟩) /\ (match qZ cx.P cx.gl ⟨dst, op, type, pos, after, guard⟩ bI H with | none => none | some v => some (OR.val v, (⟨bI, H, lk, df⟩ : St))) = some (r, { s' with env := ou bI (ko takes ⟨dst, op, type, pos, after, guard⟩) }) := by
    intro mH hh;rw[<- JP, mH];split at hh <;> simp only[bu, reduceCtorEq, cw] at hh;rename_i v hv;obtain⟨rfl, rfl⟩ := hh;exact⟨rfl, rfl⟩
  have PS : (match qZ cx.P cx.gl ⟨dst, op, type, pos, after, guard⟩ env H with | none => none | some v => some (OR.val v, (⟨env, H, lk, df⟩ : St))) = some (r, s') ->
      s'.env = env /\ (match qZ cx.P cx.gl ⟨dst, op, type, pos, after, guard⟩ bI H with | none => none | some v => some (OR.val v, (⟨bI, H, lk, df⟩ : St))) = some (r, { s' with env := bI }) := by
    intro hh;rw[<- JP];split at hh <;> simp only[bu, reduceCtorEq, cw] at hh;obtain⟨rfl, rfl⟩ := hh;exact⟨rfl, rfl⟩
  cases op
  case pick => exact read rfl aD
  case build => exact read rfl aD
  case buildSlice => exact read rfl aD
  case nilCheck => exact read rfl aD
  case binOp => exact read rfl aD
  case unOp => exact read rfl aD
  case convert c d x =>
    simp only[Cx.op] at aD ⊢;cases hm : yb cx.P c d x env with
    | some ve =>
      obtain⟨v, e⟩ := ve;simp only[hm, bu, cw] at aD;obtain⟨rfl, rfl⟩ := aD;obtain⟨h1, h2⟩ := zcG (h.mono (by simp[Op.operands])) hm
      have tQ := zlj hm;simp only[h2, ko, tQ, aF];exact⟨h1, rfl⟩
    | none =>
      simp only[hm] at aD;have Dx := zh4 (h.mono (by simp[Op.operands])) hm
      simp only[Dx];cases CH : cx.uq (vg c) with
      | true =>
        simp only[CH] at aD ⊢;rw[<- hp x (by simp[Op.operands])]
        split at aD <;> simp only[bu, reduceCtorEq, cw] at aD;rename_i v hv;obtain⟨rfl, rfl⟩ := aD;cases tQ : Nat.beq c d with
        | false => simp[ko, tQ, ou]
        | true =>
          have hq : ∀e2 : aC, (∀t, x = .tmp t -> e2[t]? = env[t]?) -> kp e2 x = e2 := λe2 Ix => by
            cases x with
            | tmp t =>
              cases hn : env[t]? with
              | none => simp[kp, Ix t rfl, hn]
              | some v0 =>
                refine PO ((Ix t rfl).trans hn) λsz xs e e0 => ?_;subst e0;have : ak env (.tmp t) = some (.sl sz xs .no) := by simp[ak, zg, hn, aW]
                simp only[Li, this, znm, zeJ tQ, reduceCtorEq] at hv
            | _ => rfl
          have e1 : kp env x = env := hq env λ_ _ => rfl;have e2 : kp bI x = bI := hq bI λt e => (h t (by simp[e, Op.operands])).symm
          simp only[ko, tQ, aF, ou, e1, e2];exact⟨trivial, trivial⟩
      | false =>
      simp only[CH] at aD ⊢;cases tQ : Nat.beq c d with
      | false => exact read (by simp only[ko, tQ]; rfl) aD
      | true =>
        have hq : ∀e2, (∀t, x = .tmp t -> e2[t]? = env[t]?) -> kp e2 x = e2 := λe2 Ix => by
          cases x with
          | tmp t =>
            cases hn : env[t]? with
            | none => simp[kp, Ix t rfl, hn]
            | some v0 =>
              refine PO ((Ix t rfl).trans hn) λsz xs e e0 => ?_;subst e0;have : ak env (.tmp t) = some (.sl sz xs .no) := by simp[ak, zg, hn, aW]
              simp only[qZ, this, Option.bind_eq_bind, aU, zeJ tQ] at aD;cases aD
          | _ => rfl
        have := PS aD;obtain⟨h1, h2⟩ := this;have e1 : kp env x = env := hq env λ_ _ => rfl;have e2 : kp bI x = bI := hq bI λt e => (h t (by simp[e, Op.operands])).symm
        simp only[ko, tQ, aF, ou, e1, e2];exact⟨h1, h2⟩
  case makeInterface => exact read rfl aD
  case makeFunc => exact read rfl aD
  case slice t x lo hi mx =>
    cases mx with
    | some m => exact read rfl aD
    | none =>
      simp only[Cx.op] at aD ⊢;cases hf : xy takes x lo hi with
      | true =>
        simp only[hf] at aD ⊢;split at aD <;> simp only[bu, reduceCtorEq, cw] at aD;rename_i v e hv;obtain⟨rfl, rfl⟩ := aD
        obtain⟨k1, k2⟩ := zfx (h.mono (by simp[Op.operands])) (by
          cases lo with
          | none => rfl
          | some z => simp only[cX]; rw[hp z (by simp[Op.operands])]) hv
        simp only[k2, ko, hf, aF];exact⟨k1, rfl⟩
      | false =>
      simp only[hf] at aD ⊢;have hnt : ko takes ⟨dst, .slice t x lo hi none, type, pos, after, guard⟩ = none := by simp[ko, hf]
      cases hu : q_ cx.P cx.uq t with
      | false =>
        simp only[hu] at aD;exact read hnt aD
      | true =>
        simp only[hu] at aD;rw[hnt];have ho : ∀y : Option aX, (∀z, y = some z -> z ∈ (Op.slice t x lo hi none).operands.toList) -> cX env y = cX bI y := λy hy => by
          cases y with
          | none => rfl
          | some z => simp only[cX]; rw[hp z (hy z rfl)]
        obtain⟨e1, e2⟩ := zfw (hp x (by simp[Op.operands])) (ho lo λz e => by subst e; simp[Op.operands]) (ho hi λz e => by subst e; simp[Op.operands]) aD
        exact⟨e1, e2⟩
  case fieldAddr => exact read rfl aD
  case field => exact read rfl aD
  case indexAddr => exact read rfl aD
  case index => exact read rfl aD
  case lookup => exact read rfl aD
  case typeAssert => exact read rfl aD
  case extract => exact read rfl aD
  case ready => exact read rfl aD
  case waits => exact read rfl aD
  case sliceToArrayPointer => exact read rfl aD
  case makeChan => exact read rfl aD
  case mapEntry => exact read rfl aD
  case entryStore => exact read rfl aD
  case entry => exact read rfl aD
  case go => exact read rfl aD
  case send => exact read rfl aD
  case recv => exact read rfl aD
  case select => exact read rfl aD
  case assign x =>
    simp only[Cx.op] at aD ⊢;split at aD <;> simp only[bu, reduceCtorEq, cw] at aD;rename_i v e ht;obtain⟨rfl, rfl⟩ := aD;obtain⟨t1, t2⟩ := wD (h.mono (by simp[Op.operands])) ht
    simp only[t2];exact⟨t1, rfl⟩
  case box t x =>
    simp only[Cx.op] at aD ⊢;split at aD <;> try (cases aD; done)
    rename_i v e ht;split at aD <;> try (cases aD; done)
    rename_i hk;simp only[qm, di, qn, bu, cw] at aD;obtain⟨rfl, rfl⟩ := aD;obtain⟨t1, t2⟩ := wD (h.mono (by simp[Op.operands])) ht
    simp only[t2, hk, qm, di, qn];exact⟨t1, rfl⟩
  case move x =>
    have yes : ko takes ⟨dst, .move x, type, pos, after, guard⟩ = some x -> (match take env x with | none => none | some (v, env) => some (OR.val v, (⟨env, H, lk, df⟩ : St))) = some (r, s') ->
        s'.env = ou env (ko takes ⟨dst, .move x, type, pos, after, guard⟩) /\ (match take bI x with | none => none | some (v, env) => some (OR.val v, (⟨env, H, lk, df⟩ : St))) = some (r, { s' with env := ou bI (ko takes ⟨dst, .move x, type, pos, after, guard⟩) }) := by
      intro mH aD;split at aD <;> simp only[bu, reduceCtorEq, cw] at aD;rename_i v e ht;obtain⟨rfl, rfl⟩ := aD;obtain⟨t1, t2⟩ := wD (h.mono (by simp[Op.operands])) ht
      simp only[t2, mH];exact⟨t1, rfl⟩
    cases dst with
    | none => exact read rfl aD
    | some d =>
      cases hb : takes.any (Nat.beq d) with
      | true =>
        simp only[Cx.op, hb] at aD ⊢;exact yes (by simp only[ko, hb, aF]) aD
      | false =>
        simp only[Cx.op, hb] at aD ⊢;exact read (by simp only[ko, hb]; rfl) aD
  case alloc t =>
    simp only[Cx.op] at aD ⊢;split at aD <;> try (cases aD; done)
    rename_i z hz;split at aD <;> try (cases aD; done)
    rename_i hk;simp only[qm, qn, bu, cw] at aD;obtain⟨rfl, rfl⟩ := aD;simp only[hk, qm, qn];exact⟨rfl, rfl⟩
  case makeMap t rr =>
    simp only[Cx.op] at aD ⊢;split at aD <;> try (cases aD; done)
    simp only[qn, bu, cw] at aD;obtain⟨rfl, rfl⟩ := aD;simp only[qn];exact⟨rfl, rfl⟩
  case range t x =>
    simp only[Op.operands] at hp;simp only[Cx.op] at aD ⊢;rw[<- hp x (by simp)]
    split at aD <;> try (cases aD; done)
    rename_i l h1 h2;simp only[qn, bu, cw] at aD;obtain⟨rfl, rfl⟩ := aD;simp only[qn];exact⟨rfl, rfl⟩
  case panic x =>
    simp only[Op.operands] at hp;simp only[Cx.op] at aD ⊢;rw[<- hp x (by simp)]
    split at aD <;> simp only[bu, reduceCtorEq, cw] at aD;rename_i t v h1;obtain⟨rfl, rfl⟩ := aD;simp only[];exact⟨rfl, rfl⟩
  case mapUpdate t m k x =>
    simp only[Op.operands] at hp;simp only[Cx.op] at aD ⊢;rw[<- hp m (by simp), <- hp k (by simp), <- hp x (by simp)]
    split at aD <;> try (cases aD; done)
    rename_i b kv v h1 h2 h3
    try simp only[h1, h2, h3]
    split at aD <;> try (cases aD; done)
    rename_i hk;rw[if_neg hk];simp only[qm, eJ, jc] at aD ⊢;split at aD <;> try (cases aD; done)
    rename_i es h4
    try simp only[h4]
    split at aD <;> simp only[bu, reduceCtorEq, cw] at aD;rename_i iL h5;obtain⟨rfl, rfl⟩ := aD
    try simp only[]
    exact⟨rfl, rfl⟩
  case insert t m k x =>
    simp only[Op.operands] at hp;simp only[Cx.op] at aD ⊢;rw[<- hp m (by simp), <- hp k (by simp), <- hp x (by simp)]
    split at aD <;> try (cases aD; done)
    rename_i b kv v h1 h2 h3
    try simp only[h1, h2, h3]
    split at aD <;> try (cases aD; done)
    rename_i hk;rw[if_neg hk];simp only[qm, eJ, jc] at aD ⊢;split at aD <;> try (cases aD; done)
    rename_i es h4
    try simp only[h4]
    split at aD <;> simp only[bu, reduceCtorEq, cw] at aD;rename_i iL h5;obtain⟨rfl, rfl⟩ := aD
    try simp only[]
    exact⟨rfl, rfl⟩
  case defer c =>
    simp only[Op.operands] at hp h;simp only[Cx.op] at aD ⊢;split at aD <;> try (cases aD; done)
    rename_i f gW;simp only[Call.operands, gW] at hp h;rw[<- hp f (by simp), <- h.az (ys := c.args.toList) (λy hy => by simp at hy ⊢; exact .inr hy)]
    split at aD <;> simp only[bu, reduceCtorEq, cw] at aD;rename_i f' first cap args h1 h2
    obtain⟨rfl, rfl⟩ := aD;simp only[];exact⟨rfl, rfl⟩
  case makeSlice t l c =>
    simp only[Op.operands] at hp;simp only[Cx.op] at aD ⊢;rw[<- hp l (by simp), <- hp c (by simp)]
    split at aD <;> try (cases aD; done)
    rename_i e k1 l' k2 c' h1 h2 h3
    try simp only[h1, h2, h3]
    split at aD <;> try (cases aD; done)
    rename_i n i z g1 g2 g3
    try simp only[g1, g2, g3]
    split at aD <;> try (cases aD; done)
    rename_i g4;rw[if_neg g4];split at aD
    · rename_i g5
      try simp only[g5]
      simp only[di, qA, qn, bu, cw] at aD ⊢;obtain⟨rfl, rfl⟩ := aD;exact⟨rfl, rfl, rfl⟩
    rename_i g5'
    try simp only[g5']
    split at aD
    · rename_i g5
      rw[if_pos g5];simp only[bu, cw] at aD;obtain⟨rfl, rfl⟩ := aD;exact⟨rfl, rfl⟩
    · rename_i g5
      rw[if_neg g5];split at aD <;> try (cases aD; done)
      rename_i g6;rw[if_pos g6];simp only[di, qn, bu, cw] at aD ⊢;obtain⟨rfl, rfl⟩ := aD;exact⟨rfl, rfl, rfl⟩
  case next it b =>
    cases b with
    | false => exact read rfl aD
    | true =>
      simp only[Op.operands] at hp;simp only[Cx.op] at aD ⊢;rw[<- hp it (by simp)]
      split at aD <;> try (cases aD; done)
      rename_i bb h1
      try simp only[h1]
      split at aD <;> try (cases aD; done)
      rename_i l pos h2
      try simp only[h2]
      split at aD
      · rename_i g5
        rw[if_pos g5];simp only[qA, jc, bu, cw] at aD ⊢;obtain⟨rfl, rfl⟩ := aD;exact⟨rfl, rfl, rfl⟩
      · rename_i g5
        rw[if_neg g5];simp only[bu, cw] at aD ⊢;obtain⟨rfl, rfl⟩ := aD;exact⟨rfl, rfl, rfl⟩
  case store t a x =>
    simp only[Op.operands] at hp h;simp only[Cx.op] at aD ⊢;rw[<- hp a (by simp)]
    split at aD <;> try (cases aD; done)
    · rename_i b off h1
      try simp only[h1]
      split at aD <;> try (cases aD; done)
      rename_i v e n cs ty h2 h3 h4;obtain⟨t1, t2⟩ := wD (h.mono (by simp)) h2
      try simp only[t2, h3, h4]
      simp only[qm, di, eJ, jc] at aD ⊢;split at aD <;> try (cases aD; done)
      rename_i g5;rw[if_pos g5];simp only[bu, cw] at aD ⊢;obtain⟨rfl, rfl⟩ := aD;exact⟨t1, rfl, rfl⟩
    · rename_i b u k h1
      try simp only[h1]
      split at aD <;> try (cases aD; done)
      rename_i v e n eO sz cs ty h2 h3 h4;obtain⟨t1, t2⟩ := wD (h.mono (by simp)) h2
      try simp only[t2, h3, h4]
      simp only[qm, eJ, jc] at aD ⊢;split at aD <;> try (cases aD; done)
      rename_i g5;rw[if_pos g5];simp only[bu, cw] at aD ⊢;obtain⟨rfl, rfl⟩ := aD;exact⟨t1, rfl, rfl⟩
  case load t a =>
    have yes : ko takes ⟨dst, .load t a, type, pos, after, guard⟩ = none := rfl;have WQ : ak env a = ak bI a := hp a (by simp[Op.operands])
    cases dst with
    | none => exact read yes aD
    | some d =>
      cases hb : takes.any (Nat.beq d) with
      | false =>
        simp only[Cx.op, hb] at aD ⊢;exact read yes aD
      | true =>
        simp only[Cx.op, hb] at aD ⊢;rw[<- WQ];split at aD <;> try (cases aD; done)
        · rename_i b off h1 h2
          try simp only[h1, h2]
          split at aD <;> try (cases aD; done)
          rename_i cs ty h3
          try simp only[h3]
          split at aD <;> try (cases aD; done)
          · rename_i sz xs e h4
            try simp only[h4]
            simp only[eW, jc, bu, cw] at aD ⊢;obtain⟨rfl, rfl⟩ := aD;exact⟨rfl, rfl, rfl⟩
          · rename_i h4
            try simp only[h4]
            simp only[bu, cw] at aD ⊢;obtain⟨rfl, rfl⟩ := aD;exact⟨rfl, rfl, rfl⟩
          · rename_i h4
            try simp only[h4]
            simp only[bu, cw] at aD ⊢;obtain⟨rfl, rfl⟩ := aD;exact⟨rfl, rfl, rfl⟩
        · rename_i cs h1 h2
          try simp only[h1, h2]
          split at aD <;> try (cases aD; done)
          rename_i h3
          try simp only[h3]
          simp only[bu, cw] at aD ⊢;obtain⟨rfl, rfl⟩ := aD;exact⟨rfl, rfl, rfl⟩
  case call c =>
    simp only[Op.operands] at hp h;simp only[Cx.op] at aD ⊢;cases gW : c.callee with
    | value f =>
      simp only[gW] at aD ⊢;simp only[Call.operands, gW] at hp h;rw[<- hp f (by simp), <- h.az (ys := c.args.toList) (λy hy => by simp at hy ⊢; exact .inr hy)]
      split at aD <;> try (cases aD; done)
      rename_i f' args h1 h2
      try simp only[h1, h2]
      split at aD <;> simp only[bu, reduceCtorEq, cw] at aD;rename_i r' H' h3;obtain⟨rfl, rfl⟩ := aD
      try simp only[]
      refine⟨?_, ?_⟩ <;> simp[ko, gW, ou]
    | invoke rc m =>
      simp only[gW] at aD ⊢;simp only[Call.operands, gW] at hp h;rw[<- hp rc (by simp), <- h.az (ys := c.args.toList) (λy hy => by simp at hy ⊢; exact .inr hy)]
      split at aD <;> try (cases aD; done)
      rename_i f' args h1 h2
      try simp only[h1, h2]
      split at aD <;> simp only[bu, reduceCtorEq, cw] at aD;rename_i r' H' h3;obtain⟨rfl, rfl⟩ := aD
      try simp only[]
      refine⟨?_, ?_⟩ <;> simp[ko, gW, ou]
    | builtin b =>
      simp only[gW] at aD ⊢;simp only[Call.operands, gW] at hp h;have plain : (match cx.builtin b c.argTypes c.args env H with | none => none | some (r, env) => some (r, (⟨env, H, lk, df⟩ : St))) = some (r, s') ->
          s'.env = ou env (ko takes ⟨dst, .call c, type, pos, after, guard⟩) /\ (match cx.builtin b c.argTypes c.args bI H with | none => none | some (r, env) => some (r, (⟨env, H, lk, df⟩ : St))) = some (r, { s' with env := ou bI (ko takes ⟨dst, .call c, type, pos, after, guard⟩) }) := by
        intro aD;split at aD <;> simp only[bu, reduceCtorEq, cw] at aD;rename_i r' e h1;obtain⟨rfl, rfl⟩ := aD;have hg : e = ou env (ko takes ⟨dst, .call c, type, pos, after, guard⟩) /\ cx.builtin b c.argTypes c.args bI H = some (r', ou bI (ko takes ⟨dst, .call c, type, pos, after, guard⟩)) := by
          exact zex (xs := c.args.toList) (h.mono λy hy => by simpa using hy) (λy hy => hy) h1 (by cases b <;> simp[ko, gW])
        obtain⟨rfl, hg⟩ := hg;refine⟨rfl, ?_⟩;simp only[hg]
      split at aD
      · rename_i x y t ts fM CK
        obtain⟨e1, e2⟩ := zgL (hp x (by have : x ∈ c.args.toList := by rw[fM]; simp
                                        simpa using this)) (hp y (by have : y ∈ c.args.toList := by rw[fM]; simp
                                                                     simpa using this)) aD
        have : ko takes ⟨dst, .call c, type, pos, after, guard⟩ = none := by simp[ko, gW]
        rw[this];exact⟨e1, e2⟩
      · rename_i x y t u fM CK
        have : ko takes ⟨dst, .call c, type, pos, after, guard⟩ = some x := by simp[ko, gW, fM]
        split at aD
        · rename_i hu
          split at aD <;> try (cases aD; done)
          rename_i LF
          obtain⟨e1, e2⟩ := zey (hp x (by have : x ∈ c.args.toList := by rw[fM]; simp
                                          simpa using this)) (hp y (by have : y ∈ c.args.toList := by rw[fM]; simp
                                                                       simpa using this)) aD
          simp only[LF, aF, this, ou];exact⟨e1, e2⟩
        · exact plain aD
      · exact plain aD
end
section
variable{P:aQ}
theorem CM:∀{a b:bL},om a b=true->a=b
 | [],[],_=>rfl
 | [],_::_,h=>by simp[om] at h
 | _::_,[],h=>by simp[om] at h
 | x::xs,y::ys,h=>by
  simp only[om,ei] at h;rw[eR h.1,CM h.2]
mutual
theorem V.iY:∀{a b:V},V.same a b=true->a=b
 | .bool a,b,h=>by cases b<;>simp[V.same] at h<;>simp[h]
 | .int k n,b,h=>by cases b<;>simp[V.same] at h;simp[h]
 | .str a,b,h=>by cases b<;>simp[V.same] at h;simp[CM h]
 | .fE,b,h=>by cases b<;>simp[V.same] at h;rfl
 | .ptr x y,b,h=>by cases b<;>simp[V.same] at h;simp[h]
 | .eN x y,b,h=>by cases b<;>simp[V.same] at h;simp[h]
 | .obj x,b,h=>by cases b<;>simp[V.same] at h;simp[h]
 | .vp xs,b,h=>by cases b<;>simp[V.same] at h;rw[gb h]
 | .aG,b,h=>by cases b<;>simp[V.same] at h;rfl
 | .sl z xs o,b,h=>by cases b<;>simp[V.same] at h;rw[h.1,gb h.2.2,h.2.1]
 | .sr x y z u,b,h=>by cases b<;>simp[V.same] at h;simp[h]
 | .iX,b,h=>by cases b<;>simp[V.same] at h;rfl
 | .map x,b,h=>by cases b<;>simp[V.same] at h;simp[h]
 | .nt,b,h=>by cases b<;>simp[V.same] at h;rfl
 | .fn f as cs,b,h=>by
  cases b<;>try (simp[V.same] at h;done)
  rename_i f' as' cs';simp only[V.same,ei] at h;obtain⟨⟨h1,h2⟩,h3⟩:=h;split at h1
  next e=>rw[e,gb h2,gb h3]
  ·cases h1
 | .bT,b,h=>by cases b<;>simp[V.same] at h;rfl
 | .ec t v,b,h=>by cases b<;>simp[V.same] at h;rw[h.1,V.iY h.2]
 | .agg xs,b,h=>by cases b<;>simp[V.same] at h;rw[gb h]
 | .br xs,b,h=>by cases b<;>simp[V.same] at h;rw[gb h]
 | .ee,b,h=>by cases b<;>simp[V.same] at h;rfl
 | .dw x y z,b,h=>by cases b<;>simp[V.same] at h;simp[h]
 | .gm x y z,b,h=>by cases b<;>simp[V.same] at h;simp[h]
theorem gb:∀{a b:aC},fB a b=true->a=b
 | [],[],_=>rfl
 | [],_::_,h=>by simp[fB] at h
 | _::_,[],h=>by simp[fB] at h
 | x::xs,y::ys,h=>by
  simp only[fB,ei] at h;rw[V.iY h.1,gb h.2]
end
theorem Bp:∀(a:bL),om a a=true
 | []=>rfl
 | x::xs=>by simp[om,Bp xs]
mutual
theorem V.dx:∀(a:V),V.same a a=true
 | .bool a=>by simp[V.same]
 | .int k n=>by simp[V.same]
 | .str a=>by simp[V.same,Bp]
 | .fE=>rfl
 | .ptr x y=>by simp[V.same]
 | .eN x y=>by simp[V.same]
 | .obj x=>by simp[V.same]
 | .vp xs=>by simp[V.same,dO xs]
 | .aG=>rfl
 | .sl z xs o=>by simp[V.same,dO xs]
 | .sr x y z u=>by simp[V.same]
 | .iX=>rfl
 | .map x=>by simp[V.same]
 | .nt=>rfl
 | .fn f as cs=>by simp[V.same,dO as,dO cs]
 | .bT=>rfl
 | .ec t v=>by simp[V.same,V.dx v]
 | .agg xs=>by simp[V.same,dO xs]
 | .br xs=>by simp[V.same,dO xs]
 | .ee=>rfl
 | .dw x y z=>by simp[V.same]
 | .gm x y z=>by simp[V.same]
theorem dO:∀(a:aC),fB a a=true
 | []=>rfl
 | x::xs=>by simp[fB,V.dx x,dO xs]
end
theorem LU(m i:Nat):bit m i=m.testBit i:=by
 unfold bit;rw[Nat.testBit_eq_decide_div_mod_eq];show Nat.beq ((m >>> i) % 2) 1=_;rw[Nat.shiftRight_eq_div_pow];cases h:Nat.beq (m / 2 ^ i % 2) 1 with
 | true=>simp[eR h]
 | false=>have:=Nat.ne_of_beq_eq_false h;simp;omega
theorem vb(a b i:Nat):bit (Nat.lor a b) i=(bit a i || bit b i):=by
 simp only[LU];exact AO a b i
theorem yg(k i:Nat):bit (Nat.pow 2 k) i=decide (k=i):=by
 rw[LU];exact E_
theorem zgM{a b i:Nat}(h:Nat.beq (Nat.land a b) 0=true)(ha:bit a i=true)(hb:bit b i=true):False:=by
 have h1:a &&& b=0:=eR h;have h2:(a &&& b).testBit i=(a.testBit i && b.testBit i):=Nat.testBit_and a b i;rw[LU] at ha hb;rw[h1,ha,hb] at h2;simp at h2
theorem yE(i:Nat):bit 0 i=false:=by rw[LU];simp
theorem vh{t:Nat}:∀{xs:List aX},Operand.tmp t∈xs->bit (gz xs) t=true
 | .tmp u::xs,h=>by
  simp only[gz,vb,yg,tX,decide_eq_true_eq];rcases dN.1 h with h|h
  ·cases h;exact .inl rfl
  ·exact .inr (vh h)
 | .const _::xs,h=>by
  simp only[gz];rcases dN.1 h with h|h
  ·cases h
  ·exact vh h
 | .global _::xs,h=>by
  simp only[gz];rcases dN.1 h with h|h
  ·cases h
  ·exact vh h
 | .func _::xs,h=>by
  simp only[gz];rcases dN.1 h with h|h
  ·cases h
  ·exact vh h
theorem zcH{j m:Nat}:∀{rs:List Rec},maskAt rs j=some m->∃q∈rs,q.idx=j/\q.m=m
 | [],h=>by simp[maskAt] at h
 | r::rs,h=>by
  simp only[maskAt] at h;split at h
  next hb=>cases h;exact⟨r,eT ..,eR hb,rfl⟩
  ·obtain⟨q,h1,h2⟩:=zcH h;exact⟨q,d_ _ h1,h2⟩
theorem WT{rs:List Rec}:∀{es:List Edge}{m:Nat},wA rs es=some m->(∀e∈es,Region.binds .any e=true->∃q∈rs,q.idx=e.on) /\
  ∀i,bit m i=true->∃e∈es,Region.binds .any e=true/\(e.on=i\/∃q∈rs,q.idx=e.on/\bit q.m i=true)
 | [],m,h=>by
  simp only[wA,bu] at h;subst h;exact⟨λe he=>by simp at he,λi hi=>by rw[yE] at hi;cases hi⟩
 | e::es,m,h=>by
  simp only[wA] at h;split at h
  ·rename_i hb;obtain⟨h1,h2⟩:=WT h;refine⟨λe' he dg=>?_,λi hi=>?_⟩
   ·rcases dN.1 he with rfl|he
    ·rw[hb] at dg;cases dg
    ·exact h1 e' he dg
   ·obtain⟨e',he,r⟩:=h2 i hi;exact⟨e',d_ _ he,r⟩
  ·rename_i hb;split at h<;>try (cases h;done)
   rename_i m1 AV;split at h<;>try (cases h;done)
   rename_i k hk;cases h;obtain⟨q,hq,Iy,hqm⟩:=zcH AV;obtain⟨h1,h2⟩:=WT hk;refine⟨λe' he dg=>?_,λi hi=>?_⟩
   ·rcases dN.1 he with rfl|he
    ·exact⟨q,hq,Iy⟩
    ·exact h1 e' he dg
   ·simp only[vb,yg,tX,decide_eq_true_eq] at hi;rcases hi with hi|hi|hi
    ·obtain⟨e',he,r⟩:=h2 i hi;exact⟨e',d_ _ he,r⟩
    ·exact⟨e,eT ..,hb,.inr ⟨q,hq,Iy,by rw[hqm];exact hi⟩⟩
    ·exact⟨e,eT ..,hb,.inl hi⟩
theorem yh{cx:Cx}{takes:cg}{o:Oper}{env:aC}{H:Hp}{lk:aN}{df:bP}{r:OR}{s':St}(hn:q9 cx.P cx.uq takes o=false)(aD:cx.op takes o env H lk df=some (r,s')) :
  ∃v,r=.val v/\s'=⟨ou env (ko takes o),H,lk,df⟩/\∀AX AY,cx.op takes o env H AX AY=some (.val v,⟨ou env (ko takes o),H,AX,AY⟩):=by
 have lC:=(PR (bI:=env) (λt _=>rfl) aD).1
 suffices h:∃v e,r=.val v/\s'=⟨e,H,lk,df⟩/\∀AX AY,cx.op takes o env H AX AY=some (.val v,⟨e,H,AX,AY⟩) by
  obtain⟨v,e,h1,h2,h3⟩:=h;rw[h2] at lC;simp only at lC;subst lC;exact⟨v,h1,h2,h3⟩
 have read:(match qZ cx.P cx.gl o env H with|none=>none|some v=>some (OR.val v,(⟨env,H,lk,df⟩:St)))=some (r,s')->∃v e,r=.val v/\s'=⟨e,H,lk,df⟩/\∀AX AY,(match qZ cx.P cx.gl o env H with|none=>none|some v=>some (OR.val v,(⟨env,H,AX,AY⟩:St)))=some (.val v,⟨e,H,AX,AY⟩):=by
  intro hh;split at hh<;>simp only[bu,reduceCtorEq,cw] at hh;rename_i v hv;obtain⟨rfl,rfl⟩:=hh;exact⟨v,env,rfl,rfl,λ_ _=>rfl⟩
 have mv:∀x,(match take env x with|none=>none|some (v,env)=>some (OR.val v,(⟨env,H,lk,df⟩:St)))=some (r,s')->∃v e,r=.val v/\s'=⟨e,H,lk,df⟩/\∀AX AY,(match take env x with|none=>none|some (v,env)=>some (OR.val v,(⟨env,H,AX,AY⟩:St)))=some (.val v,⟨e,H,AX,AY⟩):=by
  intro x hh;split at hh<;>simp only[bu,reduceCtorEq,cw] at hh;rename_i v e hv;obtain⟨rfl,rfl⟩:=hh;exact⟨v,e,rfl,rfl,λ_ _=>rfl⟩
 obtain⟨dst,op,type,pos,after,guard⟩:=o;cases op<;>simp only[q9,Pf] at hn
 case load t a =>
  cases dst with
  | none=>exact read aD
  | some d =>
   simp only at hn;simp only[Cx.op,hn] at aD ⊢;exact read aD
 case move x =>
  cases dst with
  | none=>exact read aD
  | some d =>
   cases hb:takes.any (Nat.beq d) with
   | true =>
    simp only[Cx.op,hb] at aD ⊢;exact mv x aD
   | false =>
    simp only[Cx.op,hb] at aD ⊢;exact read aD
 case assign x =>
  simp only[Cx.op] at aD ⊢;exact mv x aD
 case slice t x lo hi mx =>
  cases mx with
  | some m=>exact read aD
  | none =>
   simp only at hn;simp only[Cx.op,hn] at aD ⊢;cases hf:xy takes x lo hi with
   | false =>
    simp only[hf] at aD ⊢;exact read aD
   | true =>
    simp only[hf] at aD ⊢;split at aD<;>simp only[bu,reduceCtorEq,cw] at aD;rename_i v e hv;obtain⟨rfl,rfl⟩:=aD;exact⟨v,e,rfl,rfl,λ_ _=>rfl⟩
 case call c =>
  cases gW:c.callee<;>simp only[gW,Pf] at hn;rename_i bi;have Fy:∀lk df,cx.op takes ⟨dst,.call c,type,pos,after,guard⟩ env H lk df=(match cx.builtin bi c.argTypes c.args env H with|none=>none|some (r,env)=>some (r,(⟨env,H,lk,df⟩:St))):=by
   intro lk df;simp only[Cx.op,gW];split
   ·simp at hn
   next x y t u fM CK=>simp only[CK] at hn;simp only[hn];cases cx.builtin .append c.argTypes c.args env H<;>rfl
   ·rfl
  simp only[Fy] at aD ⊢;clear Fy;split at aD<;>simp only[bu,reduceCtorEq,cw] at aD;rename_i r' e h1;obtain⟨rfl,rfl⟩:=aD;have:∃v,r'=.val v:=by
   unfold Cx.builtin at h1;split at h1<;>try (cases h1;done)
   ·simp only[Option.bind_eq_bind,eL,bu,cw] at h1;obtain⟨u,_,v,_,h3,rfl⟩:=h1;exact⟨_,h3.symm⟩
   ·split at h1<;>try (cases h1;done)
    simp only[Option.bind_eq_bind,eL,bu,cw] at h1;obtain⟨y',_,⟨v,e'⟩,_,w,_,h4,rfl⟩:=h1;exact⟨_,h4.symm⟩
   all_goals
    simp only[Option.bind_eq_bind,eL] at h1;obtain⟨u,_,v,_,h3⟩:=h1;split at h3<;>simp only[bu,reduceCtorEq,cw] at h3;exact⟨_,h3.1.symm⟩
  obtain⟨v,rfl⟩:=this
  try simp only[h1]
  exact⟨v,e,rfl,rfl,λ_ _=>rfl⟩
 case convert c d x =>
  simp only[Cx.op] at aD ⊢;split at aD
  next v e hv=>simp only[bu,cw] at aD;obtain⟨rfl,rfl⟩:=aD;exact⟨v,e,rfl,rfl,λ_ _=>rfl⟩
  ·split at aD
   ·split at aD<;>simp only[bu,reduceCtorEq,cw] at aD;rename_i v hv;obtain⟨rfl,rfl⟩:=aD;exact⟨v,env,rfl,rfl,λ_ _=>rfl⟩
   ·exact read aD
 all_goals exact read aD
theorem zns{cx:Cx}{takes:cg}{o:Oper}{env:aC}{H H2:Hp}{lk:aN}{df:bP}{v:V}{s':St}(hn:q9 cx.P cx.uq takes o=false)(hf:kV cx.P cx.uq o=false)(aD:cx.op takes o env H lk df=some (.val v,s')) :
  ∀AX AY,∃s2,cx.op takes o env H2 AX AY=some (.val v,s2):=by
 intro AX AY;have read:qZ cx.P cx.gl o env H2=qZ cx.P cx.gl o env H->(match qZ cx.P cx.gl o env H with|none=>none|some v=>some (OR.val v,(⟨env,H,lk,df⟩:St)))=some (.val v,s')->∃s2,(match qZ cx.P cx.gl o env H2 with|none=>none|some v=>some (OR.val v,(⟨env,H2,AX,AY⟩:St)))=some (.val v,s2):=by
  intro e hh;rw[e];split at hh<;>simp only[bu,reduceCtorEq,cw] at hh;rename_i u hv;obtain⟨h1,rfl⟩:=hh;cases h1;exact⟨_,rfl⟩
 have mv:∀x,(match take env x with|none=>none|some (v,env)=>some (OR.val v,(⟨env,H,lk,df⟩:St)))=some (.val v,s')->∃s2,(match take env x with|none=>none|some (v,env)=>some (OR.val v,(⟨env,H2,AX,AY⟩:St)))=some (.val v,s2):=by
  intro x hh;split at hh<;>simp only[bu,reduceCtorEq,cw] at hh;rename_i u e hv;obtain⟨h1,rfl⟩:=hh;cases h1;exact⟨_,rfl⟩
 obtain⟨dst,op,type,pos,after,guard⟩:=o;cases op<;>simp only[q9,kV,Pf] at hn hf
 case move x =>
  cases dst with
  | none=>exact read rfl aD
  | some d =>
   cases hb:takes.any (Nat.beq d) with
   | true =>
    simp only[Cx.op,hb] at aD ⊢;exact mv x aD
   | false =>
    simp only[Cx.op,hb] at aD ⊢;exact read rfl aD
 case assign x =>
  simp only[Cx.op] at aD ⊢;exact mv x aD
 case slice t x lo hi mx =>
  cases mx with
  | some m=>exact read rfl aD
  | none =>
   simp only at hn;simp only[Cx.op,hn] at aD ⊢;cases PT:xy takes x lo hi with
   | false =>
    simp only[PT] at aD ⊢;exact read rfl aD
   | true =>
    simp only[PT] at aD ⊢;split at aD<;>simp only[bu,reduceCtorEq,cw] at aD;obtain⟨h1,rfl⟩:=aD;cases h1;exact⟨_,rfl⟩
 case convert c d x =>
  simp only[Cx.op] at aD ⊢;split at aD
  next v' e hv=>simp only[bu,cw] at aD;obtain⟨h1,rfl⟩:=aD;cases h1;exact⟨_,rfl⟩
  ·simp only[hf] at aD ⊢;exact read rfl aD
 all_goals exact read rfl aD
end
section
variable{cx:Cx}{all:Array Oper}{takes:cg}
def G6(all:Array Oper)(takes:cg)(r:Rec):aC :=
 if z0 all r.o r.env=some true then aq (ou r.env (ko takes r.o)) r.o.dst r.v else aq r.env r.o.dst r.v
def yR(rs:List Rec)(q:Rec)(D:Nat):Prop:=∀d∈rs,d.hp=true->bit q.m d.idx=true->bit D d.idx=true
structure RI(cx:Cx)(all:Array Oper)(takes:cg)(s0:St)(Ev:Nat->aC)(i:Nat)(rs:List Rec)(cs:List eD)(s:St):Prop where
 ex:∀j,j<i->∃r∈rs,r.idx=j
 lt:∀r∈rs,r.idx<i
 uniq:∀r∈rs,∀q∈rs,r.idx=q.idx->r=q
 get:∀r∈rs,all[r.idx]?=some r.o
 tm:∀r∈rs,∀t,(r.o.dst=some t\/ko takes r.o=some (.tmp t))->bit r.tm t=true
 lm:∀r∈rs,∀t,(bit r.tm t=true\/t∈r.o.looksAt all)->bit r.lm t=true
 bQ:∀r∈rs,∀e∈r.o.after,Region.binds .any e=true->e.on<r.idx
 mlt:∀r∈rs,∀b,bit r.m b=true->b<r.idx
 mask:∀r∈rs,∀b,bit r.m b=true->∃e∈r.o.after,Region.binds .any e=true/\(e.on=b\/∃q∈rs,q.idx=e.on/\bit q.m b=true)
 slots:∀r∈rs,∀q∈rs,q.idx<r.idx->kz r q=true
 ev:∀r∈rs,Ev r.idx=r.env
 TF:Ev 0=s0.env
 TG:Ev i=s.env
 PU:∀r∈rs,Ev (r.idx+1)=G6 all takes r
 off:∀r∈rs,z0 all r.o r.env≠some true->z0 all r.o r.env=some false/\r.hp=false/\r.v=.br []
 calm:∀r∈rs,z0 all r.o r.env=some true->r.hp=q9 cx.P cx.uq takes r.o/\(q9 cx.P cx.uq takes r.o=false->∃H lk df s1,cx.op takes r.o r.env H lk df=some (.val r.v,s1))
 free:∀r∈rs,z0 all r.o r.env=some true->r.free=true->kV cx.P cx.uq r.o=false
 c0:∃c∈cs,c.D=0/\c.H=s0.H/\c.lk=s0.lk/\c.df=s0.defers
 top:∃c cs',cs=c::cs'/\c.D=eP rs/\c.H=s.H/\c.lk=s.lk/\c.df=s.defers
 cD:∀c∈cs,∀b,bit c.D b=true->∃q∈rs,q.hp=true/\q.idx=b
 uO:∀c∈cs,∀d∈cs,c.D=d.D->c=d
 g1:∀c∈cs,∀q∈rs,q.hp=true->bit c.D q.idx=false->yR rs q c.D->∃c3∈cs,c3.D=Nat.lor c.D (Nat.pow 2 q.idx)/\cx.ej takes q.o q.env c c3.D=some (q.v,c3)
 g2:∀c∈cs,∀q∈rs,q.hp=false->q.free=false->yR rs q c.D->(∀d∈rs,d.hp=true->bit c.D d.idx=true->bit d.m q.idx=false)->∃c2,cx.ej takes q.o q.env c 0=some (q.v,c2)
theorem Bq:∀{a b:List (V×V)},rN a b=true->a=b
 | [],[],_=>rfl
 | [],_::_,h=>by simp[rN] at h
 | _::_,[],h=>by simp[rN] at h
 | (x,y)::xs,(z,u)::ys,h=>by
  simp only[rN,ei] at h;rw[V.iY h.1.1,V.iY h.1.2,Bq h.2]
theorem rA:∀{a b:aN},mB a b=true->a=b
 | [],[],_=>rfl
 | [],_::_,h=>by simp[mB] at h
 | _::_,[],h=>by simp[mB] at h
 | (x,y)::xs,(z,u)::ys,h=>by
  simp only[mB,ei] at h;rw[eR h.1.1,eR h.1.2,rA h.2]
theorem uP:∀{a b:bP},nL a b=true->a=b
 | [],[],_=>rfl
 | [],_::_,h=>by simp[nL] at h
 | _::_,[],h=>by simp[nL] at h
 | (x,y)::xs,(z,u)::ys,h=>by
  simp only[nL,ei] at h;rw[V.iY h.1.1,gb h.1.2,uP h.2]
theorem CN:∀{a b:aT},gC a b=true->a=b
 | .cells a t,b,h=>by
  cases b<;>simp only[gC,ei,f_] at h;rw[eR h.1,gb h.2]
 | .map a,b,h=>by
  cases b<;>simp only[gC,f_] at h;rw[Bq h]
 | .iter a i,b,h=>by
  cases b<;>simp only[gC,ei,f_] at h;rw[eR h.1,CM h.2]
 | .ul v z a e,b,h=>by
  cases b<;>simp only[gC,ei,f_] at h;rw[eR h.1.1.1,eR h.1.1.2,eR h.1.2,gb h.2]
theorem uQ:∀{a b:List aT},mW a b=true->a=b
 | [],[],_=>rfl
 | [],_::_,h=>by simp[mW] at h
 | _::_,[],h=>by simp[mW] at h
 | x::xs,z::ys,h=>by
  simp only[mW,ei] at h;rw[CN h.1,uQ h.2]
theorem zh5{a b:eD}(h:yd a b=true):a.H=b.H/\a.lk=b.lk/\a.df=b.df:=by
 obtain⟨D,⟨bs,es⟩,lk,df⟩:=a;obtain⟨D',⟨sL,iL⟩,Ir,Is⟩:=b;simp only[yd,ei] at h;exact⟨by rw[uQ h.2,rA h.1.2],rA h.1.1.1,uP h.1.1.2⟩
theorem zby{D:Nat}{c:eD}:∀{cs:List eD},ye D cs=some c->c∈cs/\c.D=D
 | [],h=>by simp[ye] at h
 | d::cs,h=>by
  simp only[ye] at h;split at h
  next hb=>cases h;exact⟨eT ..,eR hb⟩
  ·obtain⟨h1,h2⟩:=zby h;exact⟨d_ _ h1,h2⟩
theorem yo{α:Type}{f:α->Bool}:∀{l:List α},kE f l=true->∀x∈l,f x=true
 | [],_,x,hx=>by simp at hx
 | y::l,h,x,hx=>by
  simp only[kE] at h;split at h
  ·rename_i hy;rcases dN.1 hx with rfl|hx
   ·exact hy
   ·exact yo h x hx
  ·cases h
theorem lJ{b:Nat}:∀{rs:List Rec},bit (eP rs) b=true ↔ ∃q∈rs,q.hp=true/\q.idx=b
 | []=>by simp[eP,yE]
 | r::rs=>by
  have ih:=lJ (b:=b) (rs:=rs);simp only[eP];split
  ·rename_i h;simp only[vb,yg,tX,decide_eq_true_eq,ih,dN];constructor
   ·rintro(h1|⟨q,h1,h2⟩)
    ·exact⟨r,.inl rfl,h,h1⟩
    ·exact⟨q,.inr h1,h2⟩
   ·rintro⟨q,rfl|h1,h2⟩
    ·exact .inl h2.2
    ·exact .inr ⟨q,h1,h2⟩
  ·rename_i h;rw[ih];simp only[dN];constructor
   ·rintro⟨q,h1,h2⟩;exact⟨q,.inr h1,h2⟩
   ·rintro⟨q,rfl|h1,h2⟩
    ·rw[h] at h2;cases h2.1
    ·exact⟨q,h1,h2⟩
theorem xA{a b:Nat}(h:∀i,bit a i=bit b i):a=b:=by
 apply Nat.eq_of_testBit_eq;intro i;rw[<- LU,<- LU];exact h i
theorem N7(a b i:Nat):bit (Nat.land a b) i=(bit a i && bit b i):=by
 simp only[LU];exact Nat.testBit_and a b i
theorem rB{a b:Nat}:vO a b=true ↔ ∀i,bit a i=true->bit b i=true:=by
 unfold vO;constructor
 ·intro h i hi;have h1:=eR h;rw[<- h1,N7,ei] at hi;exact hi.2
 ·intro h;have:Nat.land a b=a:=by
   apply xA;intro i;rw[N7];cases hi:bit a i with
   | false=>rfl
   | true=>simp[h i hi]
  rw[this];exact lu a
theorem mK{rs:List Rec}{q:Rec}{D:Nat}:vO (Nat.land q.m (eP rs)) D=true ↔ yR rs q D:=by
 rw[rB];constructor
 ·intro h d hd hh hb;exact h d.idx (by rw[N7,hb,tE];exact lJ.2 ⟨d,hd,hh,rfl⟩)
 ·intro h i hi;rw[N7,ei] at hi;obtain⟨d,h1,h2,rfl⟩:=lJ.1 hi.2;exact h d h1 h2 hi.1
theorem zcI{D:Nat}{q:Rec}:∀{rs:List Rec},(∀d∈rs,d.hp=true->bit D d.idx=true->bit d.m q.idx=false)->Ll D q rs=false
 | [],_=>rfl
 | c::cs,h=>by
  simp only[Ll,zcI λd hd=>h d (d_ _ hd),Bool.or_false];cases h1:c.hp with
  | false=>rfl
  | true=>cases h2:bit D c.idx with
   | false=>rfl
   | true=>simp[h c (eT ..) h1 h2]
theorem zlk{o:Oper}{env:aC}{c:eD}{D:Nat}{v:V}{c2:eD}(h:cx.ej takes o env c D=some (v,c2))(D':Nat):c2.D=D/\cx.ej takes o env c D'=some (v,{ c2 with D:=D' }):=by
 unfold Cx.ej at h ⊢;split at h<;>simp only[bu,reduceCtorEq,cw] at h
 ·obtain⟨rfl,rfl⟩:=h;exact⟨rfl,by simp only[*]⟩
 ·obtain⟨rfl,rfl⟩:=h;exact⟨rfl,by simp only[*]⟩
theorem WU{o:Oper}{env:aC}{v:V}{m b:Nat}:∀{cs l:List eD},cx.iJ takes o env v m b cs=some l ->
  (∀c∈cs,vO m c.D=true->∃c2∈l,c2.D=Nat.lor c.D b/\cx.ej takes o env c c2.D=some (v,c2))/\(∀c2∈l,∃c∈cs,vO m c.D=true/\c2.D=Nat.lor c.D b/\cx.ej takes o env c c2.D=some (v,c2))
 | [],l,h=>by
  simp only[Cx.iJ,bu] at h;subst h;exact⟨λc hc=>by simp at hc,λc hc=>by simp at hc⟩
 | c::cs,l,h=>by
  simp only[Cx.iJ] at h;split at h
  ·rename_i hs;obtain⟨h1,h2⟩:=WU h;refine⟨λc' hc hb=>?_,λc2 hc=>?_⟩
   ·rcases dN.1 hc with rfl|hc
    ·rw[hs] at hb;cases hb
    ·exact h1 c' hc hb
   ·obtain⟨c',h3,h4⟩:=h2 c2 hc;exact⟨c',d_ _ h3,h4⟩
  ·rename_i hs;split at h<;>try (cases h;done)
   rename_i u c2 hr;split at h<;>try (cases h;done)
   rename_i iR;have:=V.iY iR;subst this;split at h<;>try (cases h;done)
   rename_i l' hl;simp only[bu] at h;subst h;obtain⟨h1,h2⟩:=WU hl;have hD:=(zlk hr 0).1;refine⟨λc' hc hb=>?_,λc3 hc=>?_⟩
   ·rcases dN.1 hc with rfl|hc
    ·exact⟨c2,eT ..,hD,by rw[hD];exact hr⟩
    ·obtain⟨c3,h3,h4⟩:=h1 c' hc hb;exact⟨c3,d_ _ h3,h4⟩
   ·rcases dN.1 hc with rfl|hc
    ·exact⟨c,eT ..,hs,hD,by rw[hD];exact hr⟩
    ·obtain⟨c',h3,h4⟩:=h2 c3 hc;exact⟨c',d_ _ h3,h4⟩
end
end Go.Vm
