/- Vm: maps, texts gone through, rows of zeros. Conditions: none but those named. -/
import Derived.Laws.MakeOwn
import Derived.Scope
import Derived.LoopN
import Derived.Recover
import Derived.Test.YthohlnmcjkjeiaaGreatDoorVmA
namespace Go.Vm
open Go
section
variable{P:aQ}{B:dR}{g:Gh}{s:St}{a:Act}{w:aP}
theorem zgQ{_kd:TypeDesc}{k x:V}{ck cx:bt}(h:JP k x=some true)(h1:aR g k ck)(h2:aR g x cx)(n:Nat):Instr.sameBits n cx ck=true:=by
 unfold JP at h;split at h
 ·split at h<;>simp only[bq,reduceCtorEq] at h;rename_i e;subst e;cases h1;cases h2;have:=beq_iff_eq.1 h;subst this;simp[Instr.sameBits]
 ·simp only[bq] at h;cases h1 with
  | str b1=>cases h2 with
   | str b2 =>
    have:=pK _ _ b1 b2;rw[h] at this;simp only[Instr.sameBits,beq_toListBytes,vo];rw[beq_iff_eq] at this ⊢;exact this.symm
 ·simp only[bq] at h;cases h1;cases h2;have:=beq_iff_eq.1 h;subst this;simp[Instr.sameBits]
 ·cases h
theorem zjj{kd:TypeDesc}{k x:V}{ck cx:bt}(hk:v6 kd k=true)(h1:aR g k ck)(h2:aR g x cx):∀{es iC:List (V×V)}{en:List MapEntry}(i:Nat),nJ g es en->HY k x es=some iC ->
  (Instr.findNow kd ck en i=some none/\iC=es++[(k,x)]) \/
  ∃j e cv,Instr.findNow kd ck en i=some (some (i+j,cv))/\en[j]?=some e/\Instr.sameBits 10000 e.key ck=true/\iC=es.set j (k,x)/\j<es.length
 | [],_,[],i,_,h=>by simp only[HY,bq] at h;subst h;exact .inl ⟨rfl,rfl⟩
 | [],_,_::_,i,hr,h=>by have:=hr.len;simp at this
 | _::_,_,[],i,hr,h=>by have:=hr.len;simp at this
 | (y,v)::es,iC,e::en,i,hr,h=>by
  obtain⟨ht,hy,hv⟩:=hr.tail;simp only[HY] at h;split at h
  next pM=>simp only[bq] at h;subst h;exact .inr ⟨0,e,e.val,by simp[Instr.findNow,yy hk pM h1 hy],rfl,zgQ (_kd:=kd) pM h1 hy _,rfl,by simp⟩
  ·rename_i pM;simp only[mQ] at h;obtain⟨r,Dl,rfl⟩:=h;rcases zjj hk h1 h2 (i+1) ht Dl with⟨h3,h4⟩|⟨j,e',cv,h3,h4,h5,h6,h7⟩
   ·exact .inl ⟨by simp[Instr.findNow,yy hk pM h1 hy,h3],by simp[h4]⟩
   ·refine .inr ⟨j+1,e',cv,?_,by simpa using h4,h5,by simp[h6],by simp;omega⟩
    simp only[Instr.findNow,yy hk pM h1 hy,h3];rw[show i+1+j=i+(j+1) by omega]
  ·cases h
theorem zcL{w:aP}{r:Nat}{o:Obj}{c:Nat}(h:c≠r):({ w with heap:=w.heap.setIfInBounds r o }:aP).heap[c]?=w.heap[c]?:=by
 simp[Ne.symm h]
theorem xi{w:aP}{r:Nat}{o o':Obj}(h:w.heap[r]?=some o'):({ w with heap:=w.heap.setIfInBounds r o }:aP).heap[r]?=some o:=by
 have:=(tK.1 h).1;simp[this]
theorem nJ.push{es:List (V×V)}{en:List MapEntry}(h:nJ g es en){x:V×V}{e:MapEntry}(h1:aR g x.1 e.key)(h2:aR g x.2 e.val):nJ g (es++[x]) (en++[e]):=by
 refine⟨by simp[h.len],λj y f hy hf=>?_⟩
 rcases eM j es.length with hj|hj
 ·rw[gb hj] at hy;rw[gb (by rw[<- h.len];exact hj)] at hf
  exact h.rel j y f hy hf
 ·rw[fI hj] at hy;rw[fI (by rw[<- h.len];exact hj),<- h.len] at hf
  cases hk:j - es.length with
  | zero=>rw[hk] at hy hf;simp at hy hf;subst hy;subst hf;exact⟨h1,h2⟩
  | succ k=>rw[hk] at hy;simp at hy
theorem zbD(h:Rel B g s a w){t:aB}{m k x:aW}{b:Nat}{kv v:V}{es iC:List (V×V)}(hm:ak s.env m=some (.map b))(hk:ak s.env k=some kv)(hx:ak s.env x=some v)(tU:NQ P t kv=true)
  (hb:s.H.get b=some (.map es)) (hs:HY kv v es=some iC) :
  ∃w',(Instr.mapUpdate t (a.eval m) (a.eval k) (a.eval x)).run P w=.ok () w'/\Rel B g { s with H:=(s.H.set b (.map iC)).bQ b (.br [kv,v]) } a w':=by
 have m1:=(zI h hm).1;obtain⟨k1,k2,_⟩:=zI h hk;obtain⟨v1,v2,_⟩:=zI h hx;generalize Ll:a.eval m=cm at m1;cases m1;obtain⟨en,ck,e1,e2,e3,e4⟩:=xZ h hb;unfold NQ at tU;split at tU<;>try (cases tU;done)
 rename_i kt et ht;split at tU<;>try (cases tU;done)
 rename_i kd G3;have oe:s.H.az[b]?=some (.map es):=by simpa[Hp.get,zg] using hb
 have q_:∀off,¬D6 B b off:=λoff hl=>by
  obtain⟨cs,t2,sz,xs,c1,_⟩:=h.lP b off hl;rw[oe] at c1;cases c1
 have dx:∀og:List (V×V),(∀p∈og,p∈es\/p=(kv,v))->(aY.map og).top<=max (aY.map es).top (V.br [kv,v]).top:=λog hp=>by
  refine uf.2 ⟨qK λy hy=>?_,qK λy hy=>?_⟩
  ·obtain⟨p,Wi,rfl⟩:=mg.1 hy;rcases hp p Wi with h1|h1
   ·exact cN (zn (HQ (f:=(·.1)) h1)) (cN (D2 _ _) (D2 _ _))
   ·subst h1;exact cN (D2 _ _) (HV _ _)
  ·obtain⟨p,Wi,rfl⟩:=mg.1 hy;rcases hp p Wi with h1|h1
   ·exact cN (zn (HQ (f:=(·.2)) h1)) (cN (HV _ _) (D2 _ _))
   ·subst h1;simp only[V.top,aI];omega
 have lg:max (aY.map es).top (V.br [kv,v]).top<=s.H.az.length:=uf.2 ⟨uf.2 ⟨e3,e4⟩,by simp only[V.top,aI];omega⟩
 have fin:∀(og:List (V×V))(Pt:Array MapEntry)(clock:Nat),(∀p∈og,p∈es\/p=(kv,v))->nJ g og Pt.toList ->
   Rel B g { s with H:=(s.H.set b (.map og)).bQ b (.br [kv,v]) } a { w with heap:=w.heap.setIfInBounds (g.bO b) (.map Pt clock) }:=λog Pt clock hp Tw=>by
  have:=h.write (l:=s.lk) (b:=b) (x0:=.map es) (x:=.map og) (v:=.br [kv,v]) (w':={ w with heap:=w.heap.setIfInBounds (g.bO b) (.map Pt clock) }) rfl hb (λc hc=>zcL hc) (by simp) rfl rfl rfl
   ⟨Pt,clock,xi e1,by simpa using Tw.len,λj y e hy he=>Tw.rel j y e hy (by simpa using he)⟩ (cN (dx og hp) lg) (.inr (.inr (.inr (dx og hp)))) (λoff hl=>absurd hl (q_ off)) h.ou
  exact this
 have hg:(getObj (g.bO b)).run P w=.ok (.map en ck) w:=by simp[getObj,Sem.run,e1]
 have sj:∀o,(setObj (g.bO b) o).run P w=.ok () { w with heap:=w.heap.setIfInBounds (g.bO b) o }:=λo=>by simp[setObj,Sem.run,e1]
 have oQ:=zcK (P:=P) G3 tU k1 false w;rcases zjj tU k1 v1 0 e2 hs with⟨h3,h4⟩|⟨j,e,cv,h3,h4,h5,h6,h7⟩
 ·subst h4;refine⟨{ w with heap:=w.heap.setIfInBounds (g.bO b) (.map (en.push { key:=a.eval k,val:=a.eval x,born:=ck }) (ck+1)) },?_,fin _ _ _ (λp hp=>?_) (by simpa using e2.push (x:=(kv,v)) (e:={ key:=a.eval k,val:=a.eval x,born:=ck }) k1 v1)⟩
  ·unfold Instr.mapUpdate;simp[run_underlying ht,hg,oQ,Instr.findKey,run_underlying G3,h3,sj]
  ·rcases sw.1 hp with hp|hp
   ·exact .inl hp
   ·exact .inr (by simpa using hp)
 ·subst h6;rw[nY] at h3;have Wj:en[j]?=some e:=by simpa using h4
  have ai9:j<en.size:=(tK.1 Wj).1;refine⟨{ w with heap:=w.heap.setIfInBounds (g.bO b) (.map (en.modify j λe=>{ e with key:=a.eval k,val:=a.eval x }) ck) },?_,fin _ _ _ (λp hp=>List.mem_or_eq_of_mem_set hp) ?_⟩
  ·have uP:(Instr.keyThatStays e.key (a.eval k)).run P w=.ok (a.eval k) w:=by unfold Instr.keyThatStays;simp[h5]
   unfold Instr.mapUpdate;simp[run_underlying ht,hg,oQ,Instr.findKey,run_underlying G3,h3,sj,Wj,uP]
  ·refine⟨by simp[e2.len],λi y f hy hf=>?_⟩
   have Fq:(en.modify j λe=>{ e with key:=a.eval k,val:=a.eval x })[i]?=some f:=by rw[<- E9];exact hf
   rw[Array.getElem?_modify] at Fq
   by_cases Im:j=i
   ·subst Im;rw[Cn h7] at hy;cases hy;rw[if_pos rfl,Wj] at Fq;simp only[aS,bq] at Fq;subst Fq;exact⟨k1,v1⟩
   ·rw[su Im] at hy;rw[if_neg Im] at Fq;exact e2.rel i y f hy (by simpa using Fq)
theorem zkr{l:bM}{pos:Nat}(hl:∀b:Nat,b∈l->b<256)(hp:pos<l.length):Utf8.decode (bytes l) pos=HZ (l.drop pos):=by
 have N0:∀k,((bytes l).get! (pos+k)).toNat=(l.drop pos).getD k 0:=by
  intro k;have e1:(bytes l).get! (pos+k)=(bytes l).data[pos+k]!:=by cases l<;>rfl
  rw[e1]
  by_cases hk:pos+k<l.length
  ·have hb:=hl _ (List.getElem_mem hk);simp[bytes,List.getD,hk,UInt8.toNat_ofNat',Fb hb]
  ·simp[bytes,List.getD,uI (by omega:l.length<=pos+k)]
   rfl
 have Pu:∀k,(decide (pos+k<(bytes l).size) && ((bytes l).get! (pos+k)).toNat / 64 == 2)=(Nat.blt k (l.drop pos).length && Nat.beq ((l.drop pos).getD k 0 / 64) 2):=by
  intro k;rw[N0]
  congr 1
  ·rw[kI,List.length_drop,EI,decide_eq_true_iff,Nat.blt_eq];omega
  ·rw[EI,beq_iff_eq,Nat.beq_eq]
 have Pv:=N0 0;rw[nZ] at Pv;have Lt:∀k,(decide (pos+k<(bytes l).size) && (l.drop pos).getD k 0 / 64 == 2)=(Nat.blt k (l.drop pos).length && Nat.beq ((l.drop pos).getD k 0 / 64) 2):=λk=>by
  have:=Pu k;rw[N0] at this;exact this
 unfold Utf8.decode HZ;simp only[nZ,N0,Pv,Lt]
theorem znH(h:Rel B g s a w){it:aW}{b pos:Nat}{l:bM}(hi:ak s.env it=some (.ptr b 0))(hb:s.H.get b=some (.iter l pos))(ty:aB) :
  if Nat.blt pos l.length=true then
   ∃cv w',(Instr.next (a.eval it) true ty).run P w=.ok cv w'/\aR g (.br [.bool true,.int .i64 pos,.int .i32 (HZ (l.drop pos)).1]) cv/\Rel B g { s with H:=(s.H.set b (.iter l (pos+(HZ (l.drop pos)).2))).bQ b .fT } a w'
  else ∃cv,(Instr.next (a.eval it) true ty).run P w=.ok cv w/\aR g (.br [.bool false]) cv:=by
 have i1:=(zI h hi).1;generalize hie:a.eval it=ci at i1;cases i1;have oe:s.H.az[b]?=some (.iter l pos):=by simpa[Hp.get,zg] using hb
 obtain⟨e1,e2⟩:=h.cX.ok b _ oe;have hg:(getObj (g.bO b)).run P w=.ok (.stringIter (bytes l) pos) w:=by simp[getObj,Sem.run,e1]
 have sj:∀o,(setObj (g.bO b) o).run P w=.ok () { w with heap:=w.heap.setIfInBounds (g.bO b) o }:=λo=>by simp[setObj,Sem.run,e1]
 have q_:∀off,¬D6 B b off:=λoff hl=>by
  obtain⟨cs,t2,sz,xs,c1,_⟩:=h.lP b off hl;rw[oe] at c1;cases c1
 split
 ·rename_i bR;rw[Nat.blt_eq] at bR;refine⟨.tuple #[.bool true,goInt pos,.int .i32 (HZ (l.drop pos)).1],{ w with heap:=w.heap.setIfInBounds (g.bO b) (.stringIter (bytes l) (pos+(HZ (l.drop pos)).2)) },?_,?_,?_⟩
  ·unfold Instr.next
   simp[hg,kI,bR,zkr e2 bR,sj]
  ·refine .br rfl λj x u hx hu=>?_;rcases j with _|_|_|j
   ·simp at hx hu;subst hx;subst hu;exact .bool true
   ·simp at hx hu;subst hx;subst hu;exact .int _ _
   ·simp at hx hu;subst hx;subst hu;exact .int _ _
   ·simp at hx
  ·exact h.write (l:=s.lk) (b:=b) (x0:=.iter l pos) (x:=.iter l (pos+(HZ (l.drop pos)).2)) (v:=.fT) (w':={ w with heap:=w.heap.setIfInBounds (g.bO b) (.stringIter (bytes l) (pos+(HZ (l.drop pos)).2)) }) rfl hb (λc hc=>zcL hc) (by simp) rfl rfl rfl
    ⟨xi e1,e2⟩ (ec _) (.inl (ec _)) (λoff hl=>absurd hl (q_ off)) h.ou
 ·rename_i bR;rw[Nat.blt_eq] at bR;refine⟨.tuple #[.bool false],?_,?_⟩
  ·unfold Instr.next
   simp[hg,kI,bR]
  ·refine .br rfl λj x u hx hu=>?_;rcases j with _|j
   ·simp at hx hu;subst hx;subst hu;exact .bool false
   ·simp at hx
end
section
variable{P:aQ}{B:dR}{g:Gh}{s:St}{a:Act}{w:aP}
theorem w5{t ty e:aB}{n:Nat}(ht:P.underlying t=some (.slice e))(hn:z4 P e=some n)(v:bt)(base:Option Addr)(oR sR:Nat)(hv:v=.slice base oR sR)(hle:oR<=sR)(ad:Option Addr)(c:Nat)(w:aP) :
  (Builtin.append_ #[t,t] ty #[v,.slice ad 0 c]).run P w=.ok v w:=by
 subst hv;simp only[z4,mQ] at hn;obtain⟨i,hi,rfl⟩:=hn;cases ad<;>cases base<;>simp[Builtin.append_,run_underlying ht,sizeOf,typeInfo,hi,Builtin.lenOf,Builtin.firstCells,hle,loadCells,loadCellsFrom,Go.storeCells]
def Gh.grown(g:Gh)(c:Nat)(vs:dw)(l:Option Loc):Gh :=
 {g with M:=λc' o=>if c'=c then vs[o]? else g.M c' o,own:=λc'=>if c'=c then l else g.own c' }
theorem Rel.Io(h:Rel B g s a w){c:Nat}{t0:Nat}(N1:s.env.length<=t0)(Pw:t0<=s.env.length)(iB:g.own c=some (.slot B.d t0))(hc:c<w.heap.size)(vs:dw)(l:Option Loc){w':aP}
  (hold:∀c',c'≠c->w'.heap[c']?=w.heap[c']?) (fq:w'.heap.size=w.heap.size) (cU:∀o v,vs[o]?=some v->w'.cell? ⟨c,o,none⟩=some v) (Ip:∀o v,g.M c o=some v->vs[o]?=some v)
  (pN:w'.os=w.os) (ht:w'.tape=w.tape) (nK:w'.output=w.output):Rel B (g.grown c vs l) s a w':=by
 have cH:∀c',(∀l',some (Loc.slot B.d t0)=some l'->g.own c'≠some l')->c'≠c:=λc' h' e=>h' _ rfl (e ▸ iB);have aja:∀b,b<s.H.az.length->g.bO b≠c:=λb hb e=>by
  have:=h.cX.dN b hb;rw[e,iB] at this;cases this
 refine h.i_ (b0:=none) (l0:=some (.slot B.d t0)) ?_ (dA _) (λ_ _ _=>rfl) (λb x hb hx=>?_) (λb h1 h2=>?_) (λb b' h1 h2=>?_) (λc' o v hv=>?_) (λc' l' ei=>?_) (λb j e=>by cases e) rfl rfl
  (λt x hx=>⟨x,hx,.inl ⟨rfl,λe=>?_⟩⟩) h.bG h.lP h.ou (λt e=>by cases e;exact Pw)
 ·refine⟨⟨λc' o v hv=>?_,λ_ _=>rfl,rfl,λ_ _ _ _ e=>e⟩,λc' _ _ h2=>hold c' (cH c' h2),λc' _ h2=>?_,λc' _ h2 o=>?_,by omega,λ_ _ _=>rfl,λl' mT=>?_,λb hb=>(by cases hb),λ_ _ _ _=>rfl,pN,ht,nK⟩
  ·simp only[Gh.grown];split
   next e=>subst e;exact Ip o v hv
   ·exact hv
  ·simp only[Gh.grown];rw[if_neg (cH c' h2)]
  ·simp only[Gh.grown];rw[if_neg (cH c' h2)]
  ·cases mT;exact .inl ⟨t0,rfl⟩
 ·rcases hb with hb|hb
  ·cases hb
  ·have:=(cZ.1 hx).1;omega
 ·omega
 ·omega
 ·simp only[Gh.grown] at hv;split at hv
  next e=>subst e;exact cU o v hv
  next e=>rw[yz (hold c' e)];exact h.cX.mem c' o v hv
 ·simp only[Gh.grown] at ei;split at ei
  next e=>omega
  ·have:=h.cX.eD c' l' ei;omega
 ·cases e;have:=(cZ.1 hx).1;omega
end
section
variable{P:aQ}{B:dR}{g:Gh}{s:St}{a:Act}{w:aP}
theorem zeQ(h:Rel B g s a w){e sz:Nat}{xs:aD}{ow:uN}{cv:bt}{vs:dw}(hr:aR g (.sl sz xs ow) cv)(ho:rowAt w e sz cv xs.length vs):bK g (zH xs) vs:=by
 cases hr with
 | sl f h1 h2 h3 h4 h5 h6 =>
  rename_i ad cap c o;refine⟨by rw[qJ h1,ho.1],h4,λj x v hx hv=>?_⟩
  have cH:xs≠[]:=by rintro rfl;simp[zH] at hx
  have e1:=h3 cH;subst e1;have:=ho.cells j v hv;rw[h.cX.mem _ _ _ (h5 j x hx)] at this;cases this;exact h6 j x hx
theorem Gh.Lu(n:Nat){g:Gh}{w:aP}(hm:∀c o v,g.M c o=some v->w.cell? ⟨c,o,none⟩=some v)(vs:dw)(l:Option Loc):Gh.Le n g (g.row w.heap.size vs l):=by
 refine⟨λc o v hv=>?_,λ_ _=>rfl,rfl,λ_ _ _ _ e=>e⟩;have:=vq (hm c o v hv);simp only[Gh.row];rw[if_neg (by omega)]
 exact hv
theorem zgR(h:Rel B g s a w){e sz:Nat}{z:bt}{zs:aD}{vs:dw}(EN:∀y:V,y∈zs->y.cells.length=sz)(ef:bK g (zH zs) vs)(ht:aI zs<=s.H.az.length)(hz:z.cells.size=sz)(Lv:zs.length<=maxLen)(old:Nat)(l:Loc){arr:dM}(nq:arr.toList=vs) :
  ∃g',Rel B g' s a (w.drew.alloc (.cells (arr++Builtin.zeroCells z.cells (grownCap w zs.length old e - zs.length)) e))/\aR g' (.sl sz zs (.yes e)) (.slice (some ⟨w.heap.size,0,none⟩) zs.length (grownCap w zs.length old e)) /\
   fO g' s.H.az.length (w.drew.alloc (.cells (arr++Builtin.zeroCells z.cells (grownCap w zs.length old e - zs.length)) e)) l e sz zs.length (.slice (some ⟨w.heap.size,0,none⟩) zs.length (grownCap w zs.length old e)):=by
 have hlen:vs.length=zs.length * sz:=by rw[<- ef.len,qJ EN]
 have od:arr.size=zs.length * sz:=by rw[<- hlen,<- nq];simp
 have AN:=grownCap_ge w zs.length old e;generalize oc:grownCap w zs.length old e=cap at AN ⊢;have rq:cap<=maxLen:=by rw[<- oc];exact grownCap_le_maxLen w _ old e Lv
 generalize lg:arr++Builtin.zeroCells z.cells (cap - zs.length)=cur;have dX:(w.drew.alloc (.cells cur e)).heap[w.heap.size]?=some (.cells cur e (0,0)):=heap_alloc_new w.drew _;have cU:∀o v,vs[o]?=some v->(w.drew.alloc (.cells cur e)).cell? ⟨w.heap.size,o,none⟩=some v:=λo v hv=>by
  rw[cell_of_row _ _ _ cur _ _ dX,<- lg];have ho:o<arr.size:=by rw[od,<- hlen];exact(cZ.1 hv).1
  rw[Array.getElem?_append_left ho,<- E9,nq];exact hv
 have hR:=h.settle vs (some l) (w':=w.drew.alloc (.cells cur e)) (by simp) (λc hc=>Go.heap_alloc_old w.drew _ hc) cU rfl rfl rfl
 refine⟨_,hR,aR.settled (n:=s.H.az.length) EN AN ef (cN yk ht) (Gh.Lu _ h.cX.mem _ _),vs,⟨hlen,.inr ⟨w.heap.size,0,cap,cur,rfl,dX,AN,rq,.inr ?_,?_⟩⟩,λc hc=>?_⟩
 ·rw[<- lg,Array.size_append,od,size_zeroCells,hz,<- ue,nY];congr 1;omega
 ·rw[mu,<- lg,Array.toList_append,List.take_append_of_le_length (by simp;omega),nq]
  exact r9 (by omega)
 ·simp only[Value.ownBlock,bq] at hc;subst hc;refine⟨by simp[Gh.row],λo ho _=>?_,λb hb e=>?_⟩
  ·simp only[Gh.row,aF];simp only at ho;exact uI (by omega)
  ·have:=h.cX.lt b hb;simp only[Gh.row] at e;omega
theorem bK.append{xs ys:aD}{vs news:dw}(hold:bK g (zH xs) vs)(ef:bK g (zH ys) news):bK g (zH (xs++ys)) (vs++news):=by
 simp only[zH,List.flatMap_append] at *;refine⟨by simp only[aU,hold.len,ef.len],λj x hx=>?_,λj x v hx k_=>?_⟩
 ·rcases eM j (xs.flatMap V.cells).length with h1|h1
  ·rw[gb h1] at hx;exact hold.one j x hx
  ·rw[fI h1] at hx;exact ef.one _ x hx
 ·rcases eM j (xs.flatMap V.cells).length with h1|h1
  ·rw[gb h1] at hx;rw[gb (by rw[<- hold.len];exact h1)] at k_
   exact hold.rel j x v hx k_
  ·rw[fI h1] at hx;rw[fI (by rw[<- hold.len];exact h1),<- hold.len] at k_
   exact ef.rel _ x v hx k_
theorem zia(h:Rel B g s a w){e sz:Nat}{xs ys:aD}{news:dw}{cv:bt}(hv:aR g (.sl sz xs (.yes e)) cv){t0:Nat}(N1:s.env.length<=t0)(Pw:t0<=s.env.length)(ho:fO g s.H.az.length w (.slot B.d t0) e sz xs.length cv)
  (EN:∀y:V,y∈xs++ys->y.cells.length=sz) (ef:bK g (zH ys) news) (ht:aI (xs++ys)<=s.H.az.length) (l:Loc) {c o cap:Nat} {cur:dM} (iT:cv=.slice (some ⟨c,o,none⟩) xs.length cap)
  (lg:w.heap[c]?=some (.cells cur e (0,0))) (fP:xs.length+ys.length<=cap) (cH:ys≠[]) :
  ∃g',Rel B g' s a (w.setRow c (cur.toList.take (o+xs.length * sz)++news++cur.toList.drop (o+xs.length * sz+news.length)).toArray)/\aR g' (.sl sz (xs++ys) (.yes e)) (.slice (some ⟨c,o,none⟩) (xs.length+ys.length) cap) /\
   fO g' s.H.az.length (w.setRow c (cur.toList.take (o+xs.length * sz)++news++cur.toList.drop (o+xs.length * sz+news.length)).toArray) l e sz (xs.length+ys.length) (.slice (some ⟨c,o,none⟩) (xs.length+ys.length) cap):=by
 subst iT;obtain⟨vs,Tx,N2⟩:=ho;have hold:=zeQ h hv Tx;obtain⟨B8,ho3⟩:=Tx;rcases ho3 with⟨e2,_⟩|⟨c',o',oM,ajd,e2,sy,hn,rq,fq,Px⟩
 ·cases e2
 cases e2;rw[lg] at sy;cases sy;obtain⟨Wk,Wl,Wn⟩:=N2 c rfl;have hyl:0<ys.length:=K6.2 cH;have fq:cur.size=o+cap * sz:=by rcases fq with h|h;omega;exact h
 have lf:news.length=ys.length * sz:=by rw[<- ef.len,qJ λy hy=>EN y (Dc _ hy)]
 have CF:xs.length * sz+ys.length * sz<=cap * sz:=by rw[<- ue];exact K5 _ fP
 have gG:cur.toList.length=cur.size:=AJ;have Ii:(cur.toList.take (o+xs.length * sz)).length=o+xs.length * sz:=by rw[uL];omega
 have gv:cur.toList.take (o+xs.length * sz)=cur.toList.take o++vs:=by rw[<- Px,List.take_add]
 generalize CG:cur.toList.take (o+xs.length * sz)++news++cur.toList.drop (o+xs.length * sz+news.length)=L;have bR:c<w.heap.size:=(tK.1 lg).1;have dX:(w.setRow c L.toArray).heap[c]?=some (.cells L.toArray e (0,0)):=setRow_heap w c _ _ _ _ lg;have sS:∀c',c'≠c->(w.setRow c L.toArray).heap[c']?=w.heap[c']?:=λc' cH=>setRow_other w c c' _ cH
 have oz:(w.setRow c L.toArray).heap.size=w.heap.size:=setRow_size w c _;generalize hF:cur.toList.take (o+xs.length * sz)++news=F at CG;have cU:∀k v,F[k]?=some v->(w.setRow c L.toArray).cell? ⟨c,k,none⟩=some v:=λk v k_=>by
  rw[cell_of_row _ _ _ _ _ _ dX,List.getElem?_toArray,<- CG,gb (cZ.1 k_).1];exact k_
 have Ip:∀k v,g.M c k=some v->F[k]?=some v:=λk v hm=>by
  have:=h.cX.mem _ _ _ hm;rw[cell_of_row w _ _ _ _ _ lg] at this;have hk:k<cur.size:=(tK.1 this).1;have bR:k<o+xs.length * sz:=by
   rcases eM k (o+xs.length * sz) with h1|h1
   ·exact h1
   ·rw[Wl k h1 (by simp only;omega)] at hm;cases hm
  rw[<- hF,gb (by rw[Ii];exact bR),AK,if_pos bR]
  simpa using this
 have hR:=h.Io N1 Pw Wk bR F (some l) sS oz cU Ip rfl rfl rfl
 have hle:Gh.Le s.H.az.length g (g.grown c F (some l)):=⟨λc' o v hm=>by
  simp only[Gh.grown];split
  next e=>subst e;exact Ip o v hm
  ·exact hm,λ_ _=>rfl,rfl,λ_ _ _ _ e=>e⟩
 have di:bK g (zH (xs++ys)) (vs++news):=hold.append ef;have hFl:F.length=o+xs.length * sz+news.length:=by rw[<- hF,aU,Ii]
 have Ec:(cur.toList.take o).length=o:=by rw[uL];omega
 have hFo:∀j,F[o+j]?=(vs++news)[j]?:=λj=>by
  rw[<- hF,gv,a_,fI (by omega),Ec,NM]
 refine⟨_,hR,?_,vs++news,⟨by rw[aU,B8,lf,ue],.inr ⟨c,o,cap,L.toArray,rfl,dX,fP,rq,.inr ?_,?_⟩⟩,λc' ei=>?_⟩
 ·rw[show xs.length+ys.length=(xs++ys).length by simp]
  refine .sl (c:=c) (o:=o) (λj=>(vs++news).getD j .nilFunc) EN (by simpa using fP) (λ_=>rfl) di.one (λj x hj=>?_) (λj x hj=>?_)
  ·obtain⟨v,k_,_⟩:=di.get hj;simp[Gh.grown,hFo,k_,List.getD]
  ·obtain⟨v,k_,hr⟩:=di.get hj;have:=hr.le hle (cN (zn (zv hj)) (cN yk ht));simpa[List.getD,k_] using this
 ·rw[<- fq];simp only[List.size_toArray,<- CG,aU,hFl,List.length_drop,AJ];omega
 ·rw[ue,<- lf,<- B8];simp only[<- CG,<- hF,gv];rw[a_,a_,List.drop_append_of_le_length (by omega),List.drop_of_length_le (by omega),aZ,<- a_,List.take_append_of_le_length (by simp)]
  exact r9 (by simp)
 ·simp only[Value.ownBlock,bq] at ei;subst ei;refine⟨by simp[Gh.grown],λj ho _=>?_,λb hb e=>Wn b hb e⟩
  simp only[Gh.grown,aF];simp only[ue] at ho;exact uI (by rw[hFl,lf];omega)
end
section
variable{P:aQ}{B:dR}{g:Gh}{s:St}{a:Act}{w:aP}
theorem Wo{e:aB}{n:Nat}{i:TypeInfo}(hn:z4 P e=some n)(hi:P.info? e=some i):i.size=n:=by
 simpa[z4,hi] using hn
theorem aR.Fs{sz:Nat}{xs:aD}{ow:uN}{cv:bt}(h:aR g (.sl sz xs ow) cv):∃base cap,cv=.slice base xs.length cap/\xs.length<=cap:=by
 cases h;exact⟨_,_,rfl,by assumption⟩
theorem aR.pP{cv:bt}(h:aR g .aG cv):cv=.slice none 0 0:=by
 cases h;rfl
theorem zcl{w:aP}(t ty e:aB)(i:TypeInfo)(ht:P.underlying t=some (.slice e))(hi:P.info? e=some i)
  (g o oR sR:Nat) (cur:dM) (hg:w.heap[g]?=some (.cells cur e (0,0)))
  (a:Addr) (m c:Nat) (news:dw) (hl:news.length=m * i.size) (Py:∀j u,news[j]?=some u->w.cell? (a.add j)=some u) (h1:∀u∈news,u.oneCell'=true)
  (fP:oR+m<=sR) (Iq:o+oR * i.size+news.length<=cur.size) :
  (Builtin.append_ #[t,t] ty #[.slice (some ⟨g,o,none⟩) oR sR,.slice (some a) m c]).run P w =
   .ok (.slice (some ⟨g,o,none⟩) (oR+m) sR) (w.setRow g (cur.toList.take (o+oR * i.size)++news++cur.toList.drop (o+oR * i.size+news.length)).toArray):=by
 have hf:=run_firstCells_some (P:=P) w i.size m a m c news hl Py;have eZ:=run_storeCells_at P g (o+oR * i.size) e news 0 cur w hg (by simpa using Iq) h1
 simp only[nZ] at eZ;simp[Builtin.append_,run_underlying ht,sizeOf,typeInfo,hi,Builtin.lenOf,fP,hf,Addr.add_lit,eZ]
theorem zks(h:Rel B g s a w){t ty:aB}{x y:aW}{yv v r:V}{cW:aD}
  (hy:ak s.env y=some yv) (hx:take s.env x=some (v,cW)) (hr:j9 P s.H t v yv=some r) (l0:Nat) :
  ∃g' cv w',(Builtin.append_ #[t,t] ty #[a.eval x,a.eval y]).run P w=.ok cv w'/\Rel B g' { s with env:=cW } a w'/\aR g' r cv/\cL g' s.H.az.length w' (.slot B.d l0) r cv/\r.top<=s.H.az.length:=by
 obtain⟨y1,y3,_⟩:=zI h hy;unfold j9 at hr;simp only[Option.bind_eq_bind,eF] at hr;obtain⟨td,ht,hr⟩:=hr;split at hr<;>try (cases hr;done)
 rename_i e;simp only[eF] at hr;obtain⟨n,hn,i,hi,z,hz,hr⟩:=hr;have sU:=Wo hn hi;split at hr<;>try (cases hr;done)
 rename_i Wp;have EN:z.cells.size=n:=eG (by simpa using Wp)
 simp only[eF] at hr;obtain⟨ys,tQ,hr⟩:=hr;have Pz:=yl h hn tQ y1 y3
 by_cases cH:ys=[]
 ·subst cH;obtain⟨ad,cap,nV,_⟩:=Pz.form;obtain⟨g1,h1,v1,v2,v3,sQ⟩:=vG h hx (.slot B.d l0);have hzero:∃base oR sR,a.eval x=.slice base oR sR/\oR<=sR/\aR g1 r (a.eval x)/\cL g1 s.H.az.length w (.slot B.d l0) r (a.eval x)/\r.top<=s.H.az.length:=by
   split at hr
   ·simp only[bq] at hr;subst hr;have e:=v1.pP;exact⟨_,_,_,e,dA _,v1,trivial,ec _⟩
   ·split at hr<;>simp only[bq,reduceCtorEq] at hr;rename_i hc;simp only[d_] at hc;have e1:=eG hc.1.1.1;have e2:=eG hc.1.1.2;subst e1;subst e2;subst hr;simp only[m7];obtain⟨base,cap,f1,f2⟩:=v1.Fs;exact⟨_,_,_,f1,f2,v1,v2,v3⟩
   ·cases hr
  obtain⟨base,oR,sR,e1,e2,r1,r2,r3⟩:=hzero;refine⟨g1,a.eval x,w,?_,h1,r1,r2,r3⟩;rw[nV];have:=w5 (P:=P) (ty:=ty) ht hn (a.eval x) base oR sR e1 e2 ad cap w;exact this
 ·obtain⟨g1,h1,v1,v2,v3,sQ⟩:=vG h hx (.slot B.d s.env.length);have gq:=yl h1 (s:={ s with env:=cW }) hn tQ (sQ.rel y1) y3;obtain⟨ad,cy,nV,j_⟩:=gq.form;obtain⟨a0,news,rfl,ef,gw⟩:=j_ cH;have sk:0<ys.length:=K6.2 cH;have lf:news.length=ys.length * i.size:=by rw[<- ef.len,qJ gq.sized,sU]
  have pO:∀u∈news,u.oneCell'=true:=λu hu=>by
   obtain⟨j,hj⟩:=List.getElem?_of_mem hu;have sO:j<(zH ys).length:=by rw[ef.len];exact(cZ.1 hj).1
   have hx:=gj sO;exact(ef.rel j _ u hx hj).nT (ef.one j _ hx)
  have ru:∀m,kx m i.bytes=true->m<=maxLen/\m * i.bytes<=140737488355328:=λm hm=>by
   simp only[kx,d_] at hm;exact⟨by have:=r_ hm.1;simp only[maxLen];omega,r_ hm.2⟩
  have iZ:({ s with env:=cW }:St).env.length<=s.env.length:=by
   rw[h1.len,h.len];exact dA _
  have PA:s.env.length<=({ s with env:=cW }:St).env.length:=by
   rw[h1.len,h.len];exact dA _
  have fresh:∀(zs:aD),zs=ys->a.eval x=.slice none 0 0->kx ys.length i.bytes=true->r=.sl n ys (.yes e) ->
    ∃g' cv w',(Builtin.append_ #[t,t] ty #[a.eval x,a.eval y]).run P w=.ok cv w'/\Rel B g' { s with env:=cW } a w'/\aR g' r cv/\cL g' s.H.az.length w' (.slot B.d l0) r cv/\r.top<=s.H.az.length:=by
   intro _ _ JS Ed er;obtain⟨m1,m2⟩:=ru _ Ed;obtain⟨g2,k1,k2,k3⟩:=zgR h1 (e:=e) (sz:=n) (z:=z) gq.sized ef gq.aI EN m1 0 (.slot B.d l0) (arr:=news.toArray) (by simp)
   refine⟨g2,_,_,?_,k1,by rw[er];exact k2,by rw[er];exact k3,by rw[er];exact gq.aI⟩
   rw[JS,nV];exact run_append_nil (P:=P) w t ty e i z ht hi hz a0 ys.length cy news lf gw sk (by simp only[maxLen] at m1;omega) (by omega)
  split at hr
  ·split at hr
   ·exact absurd rfl cH
   ·split at hr<;>simp only[bq,reduceCtorEq] at hr;rename_i hc;simp only[d_] at hc;have JS:a.eval x=.slice none 0 0:=v1.pP;exact fresh ys rfl JS hc.1 hr.symm
  ·split at hr<;>simp only[bq,reduceCtorEq] at hr;rename_i sz xs e' hc;simp only[d_] at hc;have e1:=eG hc.1.1.1;have e2:=eG hc.1.1.2;subst e1;subst e2;obtain⟨m1,m2⟩:=ru _ hc.2;have iB:fO g1 s.H.az.length w (.slot B.d s.env.length) e n xs.length (a.eval x):=v2;obtain⟨vs,ho,_⟩:=id iB;have hold:=zeQ h1 v1 ho;have pz:∀y:V,y∈xs->y.cells.length=n:=by
    generalize a.eval x=c at v1;cases v1;assumption
   have di:∀y:V,y∈xs++ys->y.cells.length=n:=λy hy=>(sw.1 hy).elim (pz y) (gq.sized y);have uO:aI (xs++ys)<=s.H.az.length:=qK λy hy=>(sw.1 hy).elim (λh=>cN (zn h) v3) (λh=>cN (zn h) gq.aI);rcases id ho with⟨B8,⟨e3,e4⟩|⟨c,o,cap,cur,e3,lg,hle,rq,ry,mq⟩⟩
   ·have G5:xs=[]:=NN.1 e4;subst G5;exact fresh ys rfl e3 (by simpa using hc.2) (by simpa using hr.symm)
   ·by_cases Ft:xs.length+ys.length<=cap
    ·obtain⟨g2,k1,k2,k3⟩:=zia h1 v1 iZ PA iB di ef uO (.slot B.d l0) e3 lg Ft cH;refine⟨g2,_,_,?_,k1,by rw[<- hr];exact k2,by rw[<- hr];simpa[cL] using k3,by rw[<- hr];exact uO⟩
     rw[e3,nV];have ry:cur.size=o+cap * n:=by rcases ry with h|h;omega;exact h
     have:=zcl (P:=P) (w:=w) t ty e i ht hi c o xs.length cap cur lg a0 ys.length cy news lf gw pO Ft (by rw[lf,sU,ry,p8,<- ue];exact Nat.add_le_add_left (K5 _ Ft) _)
     rw[sU] at this;exact this
    ·have PC:bK g1 (zH (xs++ys)) (vs++news):=hold.append ef;obtain⟨g2,k1,k2,k3⟩:=zgR h1 (e:=e) (sz:=n) (z:=z) di PC uO EN (by simpa using m1) cap (.slot B.d l0) (arr:=vs.toArray++news.toArray) (by simp)
     simp only[aU] at k1 k2 k3;refine⟨g2,_,_,?_,k1,by rw[<- hr];exact k2,by rw[<- hr];simpa[cL] using k3,by rw[<- hr];exact uO⟩
     rw[e3,nV];exact run_append_grow (P:=P) w t ty e i z ht hi hz ⟨c,o,none⟩ xs.length cap vs (by rw[B8,sU]) (λj u hu=>by rw[Addr.add_lit];exact(show rowAt w e n (.slice (some ⟨c,o,none⟩) xs.length cap) xs.length vs from e3 ▸ ho).cells j u hu) a0 ys.length cy news lf gw (by omega) (by simp only[maxLen] at m1;omega) (growslice_fits (by omega) m2)
  ·cases hr
end
section
variable{P:aQ}{B:dR}{g:Gh}{s:St}{a:Act}{w:aP}
def fo(P:aQ)(B:dR)(s':St)(a:Act)(w:aP)(o:Oper)(v:V):Prop :=
 ∃g' cv w',(execOp a.eval o).run P w=.ok (.value cv) w'/\Ea B g' s' a w' o.dst v cv
theorem zib{w:aP}{c:Nat}{cs:dM}{t:aB}(h:w.heap[c]?=some (.cells cs t (0,0)))(k:Nat):(w.freeze { block:=c,off:=cs.size } 1).heap[k]?=if k=c then some (.cells cs t (cs.size,cs.size+1)) else w.heap[k]?:=by
 unfold World.freeze;simp only[Nat.one_ne_zero,bw,Array.getElem?_modify]
 by_cases hk:k=c
 ·subst hk;simp[h]
 ·simp[hk,Ne.symm hk]
theorem zeG{P:aQ}{t e:aB}{w:aP}{c o len cap:Nat}{cs:dM}{et:aB}(hs:P.underlying t=some (.slice e))(h8:P.underlying e=some (.int .u8))(h:w.heap[c]?=some (.cells cs et (0,0))) :
  (convert t t (.slice (some ⟨c,o,none⟩) len cap)).run P w=.ok (.slice (some ⟨c,o,none⟩) len cap) (w.freeze { block:=c,off:=cs.size } 1):=by
 have hsh:w.shape? c=some (et,cs.size):=by simp[World.shape?,h]
 simp[convert,run_underlying hs,run_underlying h8,markStringish,shape,freeze,Sem.run,hsh]
theorem znI(h:Rel B g s a w){src dst:aB}{x:aW}{o:Oper}{v:V}{cW:aD}(hm:v7 P src dst x s.env=some (v,cW))(ho:o.op=.convert src dst x):fo P B { s with env:=cW } a w o v:=by
 unfold v7 at hm;split at hm<;>try (cases hm;done)
 rename_i e Ty hs;have Wq:=eG Ty;subst Wq;split at hm<;>simp only[bq,reduceCtorEq,cq] at hm;rename_i sz y ys e' cK h8 ht;obtain⟨rfl,rfl⟩:=hm;obtain⟨g',k1,k2,k3,k4,_⟩:=vG h ht (.slot B.d s.env.length);have hlen:cK.length=s.env.length:=by
  have:=k1.len.trans h.len.symm;simpa using this
 have Wr:fO g' s.H.az.length w (.slot B.d s.env.length) e' sz (y::ys).length (a.eval x):=k3;obtain⟨vs,⟨_,cj⟩,iB⟩:=Wr;rcases cj with⟨_,h0⟩|⟨c,ro,cap,cur,iT,hc,_⟩
 ·simp at h0
 obtain⟨o1,o2,o3⟩:=iB c (by rw[iT];rfl)
 rw[iT] at k2;have dy:=zib hc;have cU:∀ad,(w.freeze { block:=c,off:=cur.size } 1).cell? ad=w.cell? ad:=λad=>by
  simp only[World.cell?,dy]
  by_cases e0:ad.block=c
  ·rw[if_pos e0,e0,hc]
  ·rw[if_neg e0]
 have oz:(w.freeze { block:=c,off:=cur.size } 1).heap.size=w.heap.size:=by simp[World.freeze]
 have hle:Gh.Le s.H.az.length g' { g' with own:=λk=>if k=c then none else g'.own k }:=⟨λ_ _ _ h=>h,λ_ _=>rfl,rfl,λ_ _ _ _ h=>h⟩
 have iJ:gK B.d none (some (.slot B.d s.env.length)) s.H.az.length g' w { g' with own:=λk=>if k=c then none else g'.own k } (w.freeze { block:=c,off:=cur.size } 1):=by
  refine⟨hle,λk _ _ hk=>?_,λk _ hk=>?_,λ_ _ _ _=>rfl,by rw[oz];exact dA _,λ_ _ _=>rfl,λl hl=>.inl ⟨_,(Ct hl).symm⟩,λb hb=>(by cases hb),λ_ _ _ _=>rfl,rfl,rfl,rfl⟩
  ·have cH:¬k=c:=λe0=>hk _ rfl (by rw[e0];exact o1)
   rw[dy,if_neg cH]
  ·have cH:¬k=c:=λe0=>hk _ rfl (by rw[e0];exact o1)
   simp only;rw[if_neg cH]
 refine⟨{ g' with own:=λk=>if k=c then none else g'.own k },.slice (some ⟨c,ro,none⟩) (y::ys).length cap,w.freeze { block:=c,off:=cur.size } 1,?_,?_,?_,λ_ _=>trivial,k4⟩
 ·simp only[execOp,ho,iT,Sem.run_bind,zeG hs h8 hc,Result.andThen_ok,Sem.run_pure]
 ·refine k1.i_ (b0:=none) (l0:=some (.slot B.d s.env.length)) iJ (dA _) (λ_ _ _=>rfl) (λb x hb hx=>?_) (λb h1 h2=>?_) (λb b' h1 h2=>?_) (λc' o' v' k_=>?_) (λc' l hl=>?_) (λb j e0=>by cases e0) rfl rfl (λt x hx=>⟨x,hx,.inl ⟨rfl,λe0=>?_⟩⟩) k1.bG k1.lP k1.ou (λt e0=>?_)
  ·rcases hb with hb|hb
   ·cases hb
   ·exact absurd (cZ.1 hx).1 (Nat.not_lt.2 hb)
  ·exact absurd h2 (Nat.not_lt.2 h1)
  ·exact absurd h2 (Nat.not_lt.2 h1)
  ·rw[cU];exact k1.cX.mem c' o' v' k_
  ·simp only at hl;rw[oz];split at hl
   ·cases hl
   ·exact k1.cX.eD c' l hl
  ·simp only[bq,Loc.slot.injEq,lM] at e0;have:=(cZ.1 hx).1;simp only at this;omega
  ·simp only[bq,Loc.slot.injEq,lM] at e0;simp only;omega
 ·exact(k2.le hle k4).aV
def oS(P:aQ)(B:dR)(s':St)(a:Act)(w:aP)(o:Oper):Prop :=
 ∃g' w',(execOp a.eval o).run P w=.ok .skip w'/\Rel B g' s' a w'
theorem Ws(g:Gh)(n N:Nat):aR (g.var n N) (.ptr n 0) (.pointer (some ⟨N,0,none⟩)):=by
 have:=aR.ptr (g:=g.var n N) n 0;simpa[Gh.var] using this
theorem zlt(h:Rel B g s a w){t:aB}{z:V}(hz:qP P t=some z)(hc:dz z=true){o:Oper}(ho:o.op=.alloc t) :
  fo P B { s with H:=s.H.push (.cells z.cells t) } a w o (.ptr s.H.az.length 0):=by
 obtain⟨cz,z1,z2,z3,_,z5⟩:=yx (g:=g) hz w;have ef:=vr z2 hc
 have lf:=λx hx=>Wd (v:=cz) (z:=z) (by
  simp only[qP,eF] at hz;obtain⟨i,hi,zz,NY,hv⟩:=hz;simp only[hi,aT] at z5
  rw[NY] at z5;cases z5;exact hv) x hx
 refine⟨g.var s.H.az.length w.heap.size,.pointer (some ⟨w.heap.size,0,none⟩),w.alloc (.cells cz.cells t),?_,?_,?_,λ_ _=>trivial,?_⟩
 ·simp[execOp,ho,Instr.alloc,z1,newVar,newRow]
 ·refine h.rm ef (qK λx hx=>cN (Tm hx) (by omega)) λj x v hx hv=>⟨?_,λsz xs e=>lf x (zv hx) _ _ _ e⟩
  cases x with
  | sl sz xs o=>exact absurd rfl (lf _ (zv hx) sz xs o)
  | _=>trivial
 ·exact Ws _ _ _
 ·simp[V.top,Hp.push]
theorem zpF(h:Rel B g s a w){t:aB}{x:aW}{v:V}{cW:aD}(ht:take s.env x=some (v,cW))(hc:dz v=true){o:Oper}(ho:o.op=.box t x) :
  fo P B { s with env:=cW,H:=s.H.push (.cells v.laid t) } a w o (.ptr s.H.az.length 0):=by
 obtain⟨g',h1,v1,v2,v3,sQ⟩:=vG h ht (.cell s.H.az.length 0);obtain⟨l1,l2,l3⟩:=We v1 hc v2 (y4 ht) v3;refine⟨g'.var s.H.az.length w.heap.size,.pointer (some ⟨w.heap.size,0,none⟩),w.alloc (.cells (a.eval x).cells t),?_,?_,?_,λ_ _=>trivial,?_⟩
 ·simp[execOp,ho,Instr.box,newVar,newRow]
 ·exact h1.rm l1 l2 λj y u hy hu=>by have:=l3 j y u hy hu;rw[nY] at this;exact this
 ·exact Ws _ _ _
 ·simp[V.top,Hp.push]
theorem zic(h:Rel B g s a w){t:aB}{o:Oper}(ho:o.op=.makeMap t none):fo P B { s with H:=s.H.push (.map []) } a w o (.map s.H.az.length):=by
 have hv:(g.var s.H.az.length w.heap.size).bO s.H.az.length=w.heap.size:=by simp[Gh.var]
 refine⟨g.var s.H.az.length w.heap.size,.map (some w.heap.size),w.alloc (.map #[] 0),?_,?_,?_,λ_ _=>trivial,?_⟩
 ·simp[execOp,ho,Instr.makeMap]
 ·refine h.push (.map []) rfl rfl rfl rfl ⟨#[],0,?_,rfl,λj x me hx=>by simp at hx⟩ (by simp[aY.top,aI])
  rw[hv];exact Wc (w':=w.alloc (.map #[] 0)) rfl
 ·have:=aR.map (g:=g.var s.H.az.length w.heap.size) s.H.az.length;rw[hv] at this;exact this
 ·simp[V.top,Hp.push]
theorem zlu(h:Rel B g s a w){t:aB}{x:aW}{l:bM}(ht:P.underlying t=some .string)(hx:ak s.env x=some (.str l)){o:Oper}(ho:o.op=.range t x) :
  fo P B { s with H:=s.H.push (.iter l 0) } a w o (.ptr s.H.az.length 0):=by
 have x1:=(zI h hx).1;generalize JT:a.eval x=cx at x1;cases x1 with
 | str hl =>
  have hv:(g.var s.H.az.length w.heap.size).bO s.H.az.length=w.heap.size:=by simp[Gh.var]
  refine⟨g.var s.H.az.length w.heap.size,.pointer (some ⟨w.heap.size,0,none⟩),w.alloc (.stringIter (bytes l) 0),?_,?_,?_,λ_ _=>trivial,?_⟩
  ·simp[execOp,ho,Instr.range,JT,run_underlying ht]
  ·refine h.push (.iter l 0) rfl rfl rfl rfl ⟨?_,hl⟩ (by simp[aY.top])
   rw[hv];exact Wc (w':=w.alloc (.stringIter (bytes l) 0)) rfl
  ·exact Ws _ _ _
  ·simp[V.top,Hp.push]
theorem zlv{n:Nat}{z:V}{cz:bt}(hz:aR g z cz)(ej:dz z=true)(hl:z.cells.length=n)(hn:n≠0)(len:Nat):bK g (zH (List.replicate len z)) (madeCells cz.cells (len * n)).toList:=by
 have B7:=vr hz ej;have Fl:cz.cells.size=n:=by rw[<- hl,B7.len];simp
 have nk:(zH (List.replicate len z)).length=len * n:=by rw[qJ (sz:=n) λy hy=>by rw[(List.mem_replicate.1 hy).2];exact hl];simp
 refine⟨by rw[nk];simp[madeCells],λj x hx=>?_,λj x v hx hv=>?_⟩
 ·have hj:j<len * n:=by rw[<- nk];exact(cZ.1 hx).1
  rw[wC hl len j hj] at hx;exact B7.one _ x hx
 ·have hj:j<len * n:=by rw[<- nk];exact(cZ.1 hx).1
  rw[wC hl len j hj] at hx;have hm:j % n<cz.cells.size:=by rw[Fl];exact Nat.mod_lt _ (by omega)
  simp only[madeCells,Array.toList_map,Array.toList_range,iX,GQ,hj,aS,bq,Fl] at hv;rw[getElem!_pos cz.cells (j % n) hm] at hv;refine B7.rel _ x v hx ?_;rw[E9,EH hm,hv]
theorem za7(z:V):∀n,(List.replicate n z.cells).flatten=zH (List.replicate n z)
 | 0=>rfl
 | n+1=>by simp only[HR,List.flatten_cons,za7 z n,zH,DZ]
theorem zfE(h:Rel B g s a w){t e:aB}{lx cx:aW}{k k':IntKind}{l c:Int}{n:Nat}{i:TypeInfo}{z:V}(ht:P.underlying t=some (.slice e))(hlx:ak s.env lx=some (.int k l))(iV:ak s.env cx=some (.int k' c))
  (hn:z4 P e=some n) (hi:P.info? e=some i) (hz:qP P e=some z) (hc:(Nat.beq n 0 || l<0 || c<l || !kx c.toNat i.bytes || !Nat.beq z.cells.length n || !dz z)=false) {o:Oper} (ho:o.op=.makeSlice t lx cx) :
  (l=0->fo P B s a w o (.sl n [] (.yes e)))/\fo P B { s with H:=s.H.push (.cells (List.replicate c.toNat z.cells).flatten e) } a w o (.sr s.H.az.length 0 l.toNat c.toNat):=by
 simp only[JJ,Bool.not_eq_false',decide_eq_false_iff_not] at hc;obtain⟨⟨⟨⟨⟨c1,c2⟩,c3⟩,c4⟩,c5⟩,ej⟩:=hc;have Be:n≠0:=by intro e;subst e;simp at c1
 have Wt:z.cells.length=n:=eG c5;simp only[kx,d_] at c4;have b1:=r_ c4.1;have b2:=r_ c4.2;obtain⟨cz,z1,z2,z3,_,z5⟩:=yx (g:=g) hz w;simp only[hi,aT] at z5;have l1:=(zI h hlx).1;have k1:=(zI h iV).1;generalize hle:a.eval lx=cl at l1;generalize Ah:a.eval cx=cc at k1;cases l1;cases k1;have sU:=Wo hn hi;have Lw:(i.bytes:Int) * c<=281474976710656:=by
  have h1:(i.bytes:Int) * c=((c.toNat * i.bytes:Nat):Int):=by
   rw[Int.natCast_mul,Int.toNat_of_nonneg (by omega),Int.mul_comm]
  rw[h1];omega
 have cw:=run_make (P:=P) w t e i cz ht hi z5 k k' l c (by omega) (by omega) Lw (by omega)
 have Fu:(execOp a.eval o).run P w=.ok (.value (.slice (some ⟨w.heap.size,0,none⟩) l.toNat c.toNat)) (w.alloc (.cells (madeCells cz.cells (c.toNat * i.size)) e)):=by
  simp[execOp,ho,hle,Ah,cw]
 constructor
 ·intro h0;subst h0;refine⟨_,_,_,Fu,h.settle [] (some (.slot B.d (o.dst.getD 0))) (by simp) (λj hj=>Go.heap_alloc_old w _ hj) (λ_ _ e=>by simp at e) rfl rfl rfl,?_,λd hd=>?_,ec _⟩
  ·exact .sl (c:=w.heap.size) (o:=0) (λ_=>.nilFunc) (λ_ e=>by simp at e) (ec _) (λe=>absurd rfl e) (λ_ _ e=>by simp[zH] at e) (λ_ _ e=>by simp[zH] at e) (λ_ _ e=>by simp[zH] at e)
  ·refine⟨[],zgF (World.ownsRow_made w _ c.toNat (ec _) (by simp only[maxLen];omega) (by rw[size_madeCells,sU])),λc' ei=>?_⟩
   simp only[Value.ownBlock,bq] at ei;subst ei;refine⟨by simp[Gh.row,hd],λo' _ _=>by simp[Gh.row],λb hb e=>?_⟩
   have:=h.cX.lt b hb;simp only[Gh.row] at e;omega
 ·have hm:=zlv z2 ej Wt Be c.toNat
  have lf:=λx hx=>Wd (v:=cz) (z:=z) (by
   simp only[qP,eF] at hz;obtain⟨i',sx,zz,NY,hv⟩:=hz;rw[hi] at sx;cases sx
   rw[NY] at z5;cases z5;exact hv) x hx
  have eH:∀x∈zH (List.replicate c.toNat z),∀sz xs o,x≠.sl sz xs o:=λx hx=>by
   obtain⟨y,hy,Ic⟩:=List.mem_flatMap.1 hx;rw[(List.mem_replicate.1 hy).2] at Ic;exact lf x Ic
  have hv:(g.var s.H.az.length w.heap.size).bO s.H.az.length=w.heap.size:=by simp[Gh.var]
  rw[sU] at Fu;refine⟨g.var s.H.az.length w.heap.size,_,_,Fu,?_,?_,λ_ _=>trivial,by simp[V.top,Hp.push]⟩
  ·rw[za7];refine h.rm hm (qK λx hx=>?_) λj x v hx k_=>⟨?_,λsz xs e=>eH x (zv hx) _ _ _ e⟩
   ·obtain⟨y,hy,Ic⟩:=List.mem_flatMap.1 hx;rw[(List.mem_replicate.1 hy).2] at Ic;exact cN (Tm Ic) (by omega)
   ·cases x with
    | sl sz xs o=>exact absurd rfl (eH _ (zv hx) sz xs o)
    | _=>trivial
  ·have:=aR.sr (g:=g.var s.H.az.length w.heap.size) (b:=s.H.az.length) (off:=0) (show l.toNat<=c.toNat by omega)
   rw[hv] at this;exact this
theorem Wu{sz:Nat}{xs:aD}(hs:∀y:V,y∈xs->y.cells.length=sz){c j:Nat}{y:V}(h:(zH (xs.drop c))[j]?=some y):(zH xs)[c * sz+j]?=some y :=
 yw (b:=xs.length) hs (by rw[D1];exact h)
theorem zlw(h:Rel B g s a w){t:aB}{x:aW}{lo:Option aW}{o:Oper}{v:V}{cW:aD}(hm:Ld P t x lo s.env=some (v,cW))(ho:o.op=.slice t x lo none none):fo P B { s with env:=cW } a w o v:=by
 unfold Ld at hm;split at hm<;>try (cases hm;done)
 rename_i e' sz xs e cK k i ht hx iy;split at hm<;>try (cases hm;done)
 rename_i n hn;split at hm<;>simp only[bq,reduceCtorEq,cq] at hm;rename_i hc;obtain⟨rfl,rfl⟩:=hm;simp only[d_,decide_eq_true_eq] at hc;obtain⟨⟨c1,c2⟩,c3⟩:=hc;obtain rfl:=eG c1;have c3:=r_ c3;have EO:=Ih h iy;obtain⟨g',k1,k2,k3,k4,_⟩:=vG h hx (.slot B.d (o.dst.getD 0));have Wr:fO g' s.H.az.length w (.slot B.d (o.dst.getD 0)) e n xs.length (a.eval x):=k3;obtain⟨vs,cj,iB⟩:=Wr
 have hu:=run_underlying ht w;generalize hi:i.toNat=j at *;generalize JS:a.eval x=cv at *;cases k2 with
 | sl f h1 h2 h3 h4 h5 h6 =>
  rename_i ad cap cb ro;have cY:=xg (P:=P) (isSlice:=true) (lo:=some (.int k i)) (hi:=none) (EL:=none) (len:=xs.length) (l:=j) (h:=xs.length) EO trivial rfl (by simp[j8,c2,hi]) c3 (dA _) h2 w
  have hlen:(xs.drop j).length=xs.length - j:=by simp
  have cw:(execOp a.eval o).run P w=.ok (.value (.slice (if cap=j then ad else ad.map (·.add (j * n))) (xs.length - j) (cap - j))) w:=by
   simp[execOp,ho,JS,Instr.sliceAt,hu,Instr.slice,cY,jv hn]
  refine⟨g',_,w,cw,k1,?_,λd hd=>?_,cN (qK λy hy=>zn (Cp hy)) k4⟩
  ·rw[<- hlen];refine .sl (c:=cb) (o:=ro+j * n) (λq=>f (j * n+q)) (λy hy=>h1 y (Cp hy)) (by rw[hlen];omega) (λcH=>?_) (λq y hq=>h4 _ y (Wu h1 hq)) (λq y hq=>?_) (λq y hq=>h6 _ y (Wu h1 hq))
   ·have:0<xs.length - j:=by rw[<- hlen];exact K6.2 cH
    rw[if_neg (by omega),h3 (by rintro rfl;simp at cH)]
    simp[Addr.add_lit]
   ·rw[p8];exact h5 _ y (Wu h1 hq)
  ·have G6:o.dst.getD 0=d:=by rw[hd];rfl
   subst G6;show fO g' s.H.az.length w _ e n (xs.drop j).length _;rw[hlen];obtain⟨r1,⟨r2,r3⟩|⟨c,Wv,oM,cur,r2,r3,r4,r5,r6,r7⟩⟩:=cj
   ·simp only[Value.slice.injEq] at r2;obtain⟨rfl,_,rfl⟩:=r2;have hj:j=0:=by omega
    subst hj;simp only[aF,r3,Nat.zero_sub];exact⟨[],⟨by simp,.inl ⟨rfl,rfl⟩⟩,λc hc=>(by cases hc)⟩
   ·simp only[Value.slice.injEq,lM] at r2;obtain⟨rfl,rfl⟩:=r2;obtain⟨o1,o2,o3⟩:=iB c rfl
    by_cases Ww:cap=j
    ·rw[if_pos Ww];have G5:xs.length - j=0:=by omega
     rw[G5,Ww,Cu];refine⟨[],⟨by simp,.inr ⟨c,Wv,0,cur,rfl,r3,dA _,by simp[maxLen],.inl rfl,by simp⟩⟩,λc' ei=>?_⟩
     cases ei;exact⟨o1,λq q1 q2=>by simp only at q1 q2;omega,o3⟩
    ·rw[if_neg Ww];simp only[aS,Addr.add_lit];have ef:cur.size=Wv+cap * n:=by rcases r6 with r6|r6;omega;exact r6
     refine⟨vs.drop (j * n),⟨by rw[List.length_drop,r1,Nat.sub_mul],.inr ⟨c,Wv+j * n,cap - j,cur,rfl,r3,by omega,by omega,.inr ?_,?_⟩⟩,λc' ei=>?_⟩
     ·rw[ef,p8,<- ue]
      congr 2
      omega
     ·rw[<- r7,<- List.drop_drop,List.drop_take,Nat.sub_mul]
     ·cases ei;refine⟨o1,λq q1 q2=>o2 q ?_ ?_,o3⟩
      ·simp only at q1 ⊢;have:j * n+(xs.length - j) * n=xs.length * n:=by rw[<- ue];congr 1;omega
       omega
      ·simp only at q2 ⊢;have:j * n+(cap - j) * n=cap * n:=by rw[<- ue];congr 1;omega
       omega
theorem znJ(h:Rel B g s a w){t:aB}{p:aW}{b off sz:Nat}{xs:aD}{e:aB}{cs:aD}{ty:aB}(Fm:qz P t=some false)(hp:ak s.env p=some (.ptr b off))(hb:s.H.get b=some (.cells cs ty))
  (hc:cs[off]?=some (.sl sz xs (.yes e))) {o:Oper} (ho:o.op=.load t p) :
  fo P B { s with H:=s.H.set b (.cells (cs.set off (.sl sz xs .lock)) ty),lk:=(b,off)::s.lk } a w o (.sl sz xs (.yes e)):=by
 have p1:=(zI h hp).1;generalize Pr:a.eval p=cp at p1;cases p1;have oe:s.H.az[b]?=some (.cells cs ty):=by simpa[Hp.get,zg] using hb
 have iU:b<s.H.az.length:=(cZ.1 oe).1;obtain⟨arr,a1,a2,a3⟩:=h.cX.ok b _ oe;have dx:=h.cX.aI b _ oe;have Ec:off<cs.length:=(cZ.1 hc).1;have hoa:off<arr.size:=by omega
 have iT:arr[off]?=some arr[off]:=EH hoa;generalize arr[off]=cv at iT;obtain⟨c1,c2,c3,_⟩:=a3 off _ cv hc iT;have iB:fO g s.H.az.length w (.cell b off) e sz xs.length cv:=c3;have cU:w.cell? ⟨g.bO b,off,none⟩=some cv:=by rw[cell_of_row w _ _ arr _ _ a1];exact iT
 have cw:(execOp a.eval o).run P w=.ok (.value cv) w:=by
  simp[execOp,ho,Pr,Instr.loadAt,Instr.sureAddr,loadVar,Tn Fm,cU]
 let l1:Loc:=.slot B.d (o.dst.getD 0)
 let g':Gh:={ g with own:=λc=>if cv.ownBlock=some c then some l1 else g.own c,lk:=λb' o'=>if b'=b/\o'=off then cv else g.lk b' o' }
 have Lx:∀c,(∀l,some (Loc.cell b off)=some l->g.own c≠some l)->cv.ownBlock≠some c:=λc ei e=>by
  obtain⟨vs,_,N2⟩:=iB;exact ei _ rfl (N2 c e).1
 have iJ:gK B.d (some b) (some (.cell b off)) s.H.az.length g w g' w :=
  ⟨⟨λ_ _ _ e=>e,λ_ _=>rfl,rfl,λ_ _ _ _ e=>e⟩,λ_ _ _ _=>rfl,λc _ ei=>by show(if _ then _ else _)=_;rw[if_neg (Lx c ei)],λ_ _ _ _=>rfl,dA _,
   λb' o' hl=>by show(if _ then _ else _)=_;rw[if_neg];rintro⟨rfl,rfl⟩;exact hl _ rfl rfl,λl hl=>.inr ⟨b,off,by cases hl;rfl,rfl⟩,λb' cY=>by cases cY;exact iU,λ_ _ _ _=>rfl,rfl,rfl,rfl⟩
 have lf:¬jo s.H.az b off:=by
  rintro⟨cs',t',Po,CC,h1,h2⟩;rw[oe] at h1;cases h1;rw[hc] at h2;cases h2
 have hlen:(s.H.set b (.cells (cs.set off (.sl sz xs .lock)) ty)).az.length=s.H.az.length:=by simp[Hp.set]
 have Dm:(s.H.set b (.cells (cs.set off (.sl sz xs .lock)) ty)).az[b]?=some (.cells (cs.set off (.sl sz xs .lock)) ty):=by simp[Hp.set,iU]
 have sS:∀b',b'≠b->(s.H.set b (.cells (cs.set off (.sl sz xs .lock)) ty)).az[b']?=s.H.az[b']?:=λb' cH=>by simp[Hp.set,su (Ne.symm cH)]
 have Dn:(aY.cells (cs.set off (.sl sz xs .lock)) ty).top<=(aY.cells cs ty).top :=
  V3 (cs:=cs) (dA _) (by show aI xs<=_;exact zn (zv hc))
 have PD:∀b' o',jo s.H.az b' o'->jo (s.H.set b (.cells (cs.set off (.sl sz xs .lock)) ty)).az b' o':=by
  rintro b' o' ⟨cs',t',Po,CC,h1,h2⟩
  by_cases e1:b'=b
  ·subst e1;rw[oe] at h1;cases h1
   by_cases e2:o'=off
   ·subst e2;exact⟨_,_,sz,xs,Dm,Cn Ec⟩
   ·exact⟨_,_,Po,CC,Dm,by rw[su (Ne.symm e2)];exact h2⟩
  ·exact⟨cs',t',Po,CC,by rw[sS b' e1];exact h1,h2⟩
 have hR:Rel B g' { s with H:=s.H.set b (.cells (cs.set off (.sl sz xs .lock)) ty),lk:=(b,off)::s.lk } a w:=by
  refine h.i_ (s':={ s with H:=s.H.set b (.cells (cs.set off (.sl sz xs .lock)) ty),lk:=(b,off)::s.lk }) iJ (by rw[hlen];exact dA _) (λb' _ cH=>sS b' λe=>cH (by rw[e])) (λb' x Dp hx=>?_) (λb' h1 h2=>?_) (λb1 b2 h1 h2=>?_) h.cX.mem (λc l gG=>?_)
   (λb' j e=>by cases e;exact lf) rfl rfl (λt x hx=>⟨x,hx,.inl ⟨rfl,λe=>by cases e⟩⟩) (λb' x hx=>?_) (λb' o' hl=>PD b' o' (h.lP b' o' hl)) (λq hq=>?_) (λ_ e=>by cases e)
  ·have cY:b'=b:=by
    rcases Dp with Dp|Dp
    ·cases Dp;rfl
    ·have:=(cZ.1 hx).1;rw[hlen] at this;omega
   subst cY;rw[Dm] at hx;cases hx;rw[hlen];refine⟨⟨arr,a1,by simpa using a2,λj x v hx hv=>?_⟩,cN Dn dx⟩
   by_cases e2:j=off
   ·subst e2;rw[Cn Ec] at hx;cases hx;rw[iT] at hv;cases hv;refine⟨rfl,?_,trivial,?_⟩
    ·have:=c2.le iJ.le (cN (zn (zv hc)) dx);cases this with
     | sl f h1 h2 h3 h4 h5 h6=>exact .sl f h1 h2 h3 h4 h5 h6
    ·show cv=(if _ then _ else _)
     rw[if_pos ⟨rfl,rfl⟩]
   ·rw[su (Ne.symm e2)] at hx;obtain⟨d1,d2,d3,d4⟩:=a3 j x v hx hv;refine⟨d1,d2.le iJ.le (cN (zn (zv hx)) dx),cL.same iJ (λe=>by cases e;exact e2 rfl) (λb1 h2 h3=>absurd h3 (Nat.not_lt.2 h2)) d3,?_⟩
    unfold Pj at *;split
    ·show v=(if _ then _ else _)
     rw[if_neg (λe=>e2 e.2)];exact d4
    ·trivial
  ·rw[hlen] at h2;omega
  ·rw[hlen] at h2;omega
  ·simp only[g'] at gG;split at gG
   next e=>exact iB.lt c e
   ·exact h.cX.eD c l gG
  ·by_cases e1:b'=b
   ·subst e1;rw[show({ s with H:=s.H.set b' (.cells (cs.set off (.sl sz xs .lock)) ty),lk:=(b',off)::s.lk }:St).H.az[b']?=_ from Dm] at hx;cases hx;rcases h.bG b' _ oe with h1|⟨m,h1,h2⟩|⟨y,h1,h2⟩
    ·exact .inl (cN Dn h1)
    ·exact .inr (.inl ⟨m,h1,cN Dn h2⟩)
    ·exact .inr (.inr ⟨y,h1,cN Dn h2⟩)
   ·rw[show({ s with H:=s.H.set b (.cells (cs.set off (.sl sz xs .lock)) ty),lk:=(b,off)::s.lk }:St).H.az[b']?=s.H.az[b']? from sS b' e1] at hx;exact h.bG b' x hx
  ·rcases dG.1 hq with rfl|hq
   ·exact λhl=>lf (h.lP b off hl)
   ·exact h.ou q hq
 have Wx:aI xs<=s.H.az.length:=cN (show(V.sl sz xs (.yes e)).top<=_ from zn (zv hc)) dx;refine⟨g',cv,w,cw,hR,c2.le iJ.le (cN (zn (zv hc)) dx),λd hd=>?_,by rw[hlen];exact Wx⟩
 obtain⟨vs,Tx,N2⟩:=iB;refine⟨vs,Tx,λc ei=>⟨?_,(N2 c ei).2.1,?_⟩⟩
 ·show(if _ then _ else _)=_
  rw[if_pos ei];simp only[l1,hd,fS]
 ·rw[hlen];exact(N2 c ei).2.2
end
section
variable{P:aQ}{B:dR}{g:Gh}{s:St}{a:Act}{w:aP}
theorem zpG{s':St}{o:Oper}{v:V}(h:fo P B s' a w o v){K:Act->aP->Prop}{Q:Exit->Act->aP->Prop}(hk:∀g' cv w',Ea B g' s' a w' o.dst v cv->K (a.put o.dst cv) w'):o.wp P a w K Q:=by
 obtain⟨g',cv,w',h1,h2⟩:=h;unfold Oper.wp;rw[h1,Oper.upon_value];exact hk g' cv w' h2
theorem wp_skip{s':St}{o:Oper}(h:oS P B s' a w o){K:Act->aP->Prop}{Q:Exit->Act->aP->Prop}(hk:∀g' w',Rel B g' s' a w'->K (a.put o.dst undef) w'):o.wp P a w K Q:=by
 obtain⟨g',w',h1,h2⟩:=h;unfold Oper.wp;rw[h1,Oper.upon_skip];exact hk g' w' h2
theorem zgS(h:Rel B g s a w){x:aW}{v:V}{cW:aD}(ht:take s.env x=some (v,cW)){o:Oper}(ho:o.op=.move x\/o.op=.assign x):fo P B { s with env:=cW } a w o v:=by
 obtain⟨g',h1,v1,v2,v3,_⟩:=vG h ht (.slot B.d (o.dst.getD 0));refine⟨g',a.eval x,w,by rcases ho with ho|ho<;>simp[execOp,ho],h1,v1,λd hd=>?_,v3⟩
 simpa[hd] using v2
theorem znK(h:Rel B g s a w){x:aW}{v:V}{t ty:aB}{n:Int}(hx:ak s.env x=some v)(hl:qX P s.H t v=some n):(Builtin.len_ #[t] ty #[a.eval x]).run P w=.ok (.int .i64 n) w:=by
 have x1:=(zI h hx).1;unfold qX at hl;split at hl
 next ht=>simp only[bq] at hl;subst hl;generalize a.eval x=c at x1;cases x1;simp[Builtin.len_,run_underlying ht,goInt,kI]
 next ht=>simp only[bq] at hl;subst hl;rw[x1.pP];simp[Builtin.len_,run_underlying ht,goInt]
 next ht=>simp only[bq] at hl;subst hl;obtain⟨b,c,e,_⟩:=x1.Fs;rw[e];simp[Builtin.len_,run_underlying ht,goInt]
 next ht=>simp only[bq] at hl;subst hl;generalize a.eval x=c at x1;cases x1;simp[Builtin.len_,run_underlying ht,goInt]
 next ht=>simp only[bq] at hl;subst hl;generalize a.eval x=c at x1;cases x1;simp[Builtin.len_,run_underlying ht,goInt]
 next ht=>simp only[bq] at hl;subst hl;generalize a.eval x=c at x1;cases x1;simp[Builtin.len_,run_underlying ht,goInt]
 ·rename_i b ht;split at hl<;>simp only[bq,reduceCtorEq] at hl;rename_i es hb;subst hl;obtain⟨en,ck,e1,e2,_⟩:=xZ h hb;generalize a.eval x=c at x1;cases x1;have hg:(getObj (g.bO b)).run P w=.ok (.map en ck) w:=by simp[getObj,Sem.run,e1]
  have:es.length=en.size:=by have:=e2.len;simpa using this
  simp[Builtin.len_,run_underlying ht,hg,goInt,this]
 ·cases hl
theorem zeR(h:Rel B g s a w){x y:aW}{k k':IntKind}{m n:Int}(hx:ak s.env x=some (.int k m))(hy:ak s.env y=some (.int k' n))(ps:Array aB)(ty:aB) :
  (Builtin.min_ ps ty #[a.eval x,a.eval y]).run P w=.ok (.int k (if n<m then n else m)) w/\(Builtin.max_ ps ty #[a.eval x,a.eval y]).run P w=.ok (.int k (if n > m then n else m)) w:=by
 have x1:=(zI h hx).1;have y1:=(zI h hy).1;generalize a.eval x=c at x1;generalize a.eval y=d at y1;cases x1;cases y1;constructor
 ·simp[Builtin.min_,Builtin.min2]
 ·simp[Builtin.max_,Builtin.max2]
end
section
variable{P:aQ}{B:dR}{g:Gh}{s:St}{a:Act}{w:aP}
structure lX(d:Nat)(H:Hp)(g:Gh)(w:aP)(H':Hp)(g':Gh)(w':aP):Prop where
 cX:rj g' H'.az w'
 fr:Fr d H.az g w g' w'
 len:H.az.length<=H'.az.length
 dY:∀b,H.az.length<=b->b<H'.az.length->w.heap.size<=g'.bO b
 bG:∀(b:Nat)(x:aY),H'.az[b]?=some x->x.top<=b+1\/(∃m,(b,m)∈H'.bG/\x.top<=m)\/∃y:aY,H.az[b]?=some y/\x.top<=y.top
 Ee:∀p∈H.bG,p∈H'.bG
 lP:∀b off,jo H.az b off->jo H'.az b off
def fB(d:Nat)(H:Hp)(g:Gh)(w:aP)(l:Loc)(out:Out)(H':Hp):Ending->aP->Prop
 | .returned cv,w'=>∃v g',out=.ret v/\lX d H g w H' g' w'/\aR g' v cv/\cL g' H'.az.length w' l v cv/\v.top<=H'.az.length
 | .panicked chain,w'=>∃v cv g',out=.p9 v/\chain=[{ v:=cv,recovered:=false }]/\lX d H g w H' g' w'/\aR g' v cv/\v.top<=H'.az.length
 | .outgrown,_=>False
def zgT(args:aD):Prop:=∀x∈args,∀sz xs e,x≠.sl sz xs (.yes e)
structure eP(g:Gh)(n:Nat)(args:aD)(bx:dM):Prop where
 len:args.length=bx.size
 rel:∀(j:Nat)(x:V)(v:bt),args[j]?=some x->bx[j]?=some v->aR g x v
 top:aI args<=n
 no:zgT args
def xB(P:aQ)(gl:Nat->Nat->b_)(call:FuncId->aD->Hp->Option (Out×Hp))(d:Nat):Prop :=
 ∀f args H out H',call f args H=some (out,H')->∀g w bx l,ij P gl g->rj g H.az w->eP g H.az.length args bx->Calls P f bx w (fB d H g w l out H')
theorem si.mono{d d' n:Nat}(h:d<=d'){c:Nat}(hp:si d' n g w c):si d n g w c :=
 ⟨hp.1,hp.2.1,hp.2.2.imp id λ⟨k,t,e,hk⟩=>⟨k,t,e,K7 h hk⟩⟩
theorem Fr.mono{d d':Nat}(h:d<=d'){bs:List aY}{g':Gh}{w':aP}(hf:Fr d bs g w g' w'):Fr d' bs g w g' w' :=
 ⟨hf.le,λc hc=>hf.heap c (hc.mono h),λc hc=>hf.own c (hc.mono h),λc hc=>hf.M c (hc.mono h),hf.size,hf.lk,hf.os,hf.tape,hf.output⟩
theorem cL.after{d dd t:Nat}(hd:d<dd){H H':Hp}{g':Gh}{w':aP}(hA:lX d H g w H' g' w'){x:V}{cv:bt}(h:cL g H.az.length w (.slot dd t) x cv):cL g' H'.az.length w' (.slot dd t) x cv:=by
 unfold cL at *;split
 ·rename_i sz xs e;have h':fO g H.az.length w (.slot dd t) e sz xs.length cv:=h;have bR:=h'.lt;obtain⟨vs,h1,h2⟩:=h';have hp:∀c,cv.ownBlock=some c->si d H.az.length g w c:=λc hc=>⟨bR c hc,(h2 c hc).2.2,.inr ⟨dd,t,(h2 c hc).1,hd⟩⟩;refine⟨vs,za6 h1 λc hc=>hA.fr.heap c (hp c hc),λc hc=>⟨?_,?_,λb hb e=>?_⟩⟩
  ·rw[hA.fr.own c (hp c hc)];exact(h2 c hc).1
  ·exact(h2 c hc).2.1.eq λo=>hA.fr.M c (hp c hc) o
  ·rcases eM b H.az.length with cY|cY
   ·exact(h2 c hc).2.2 b cY ((hA.fr.le.bO b cY).symm.trans e)
   ·have:=hA.dY b cY hb;have:=bR c hc;omega
 ·trivial
theorem Rel.call(h:Rel B g s a w){d:Nat}(hd:d<B.d){H':Hp}{g':Gh}{w':aP}(hA:lX d s.H g w H' g' w'):Rel B g' { s with H:=H' } a w':=by
 refine { cX:=hA.cX,len:=h.len,env:=λt x v hx hv=>?_,dO:=λt x hx=>cN (h.dO t x hx) hA.len,n0:=cN h.n0 hA.len,bG:=λb x hx=>?_,dY:=λb h1 h2=>?_,fr:=?_,lP:=λb off hl=>hA.lP b off (h.lP b off hl),ou:=h.ou,cR:=λp hp=>?_,eE:=h.eE,defers:=λj x q hx hq=>(h.defers j x q hx hq).le hA.fr.le hA.len,marks:=λdm hdd D hD=>?_,nG:=h.nG }
 ·obtain⟨h1,h2⟩:=h.env t x v hx hv;exact⟨h1.le hA.fr.le (h.dO t x hx),h2.after hd hA⟩
 ·rcases hA.bG b x hx with h1|h1|⟨y,h1,h2⟩
  ·exact .inl h1
  ·exact .inr (.inl h1)
  ·rcases h.bG b y h1 with h3|⟨m,h3,h4⟩|⟨z,h3,h4⟩
   ·exact .inl (cN h2 h3)
   ·exact .inr (.inl ⟨m,hA.Ee _ h3,cN h2 h4⟩)
   ·exact .inr (.inr ⟨z,h3,cN h2 h4⟩)
 ·rcases eM b s.H.az.length with h3|h3
  ·rw[hA.fr.le.bO b h3];exact h.dY b h1 h3
  ·exact cN h.fr.size (hA.dY b h3 h2)
 ·exact h.fr.trans h.n0 h.dY (λb off hl=>h.lP b off (.inl hl)) (hA.fr.mono (Nat.le_of_lt hd))
 ·obtain⟨p1,p2,p3,p4,p5⟩:=h.cR p hp;refine⟨p1,p2.le hA.fr.le p4,p3.after hd hA,cN p4 hA.len,λb off e=>?_⟩;rw[hA.fr.lk b off (h.lP b off (.inr ⟨p,hp,e⟩))];exact p5 b off e
 ·obtain⟨h0,h1,h2,h3⟩:=h.marks dm hdd D hD;have bR:D<w.heap.size:=(tK.1 h1).1;have hp:si d s.H.az.length g w D:=⟨bR,h2,.inl h3⟩;refine⟨h0,(hA.fr.heap D hp).trans h1,λb hb e=>?_,(hA.fr.own D hp).trans h3⟩;rcases eM b s.H.az.length with h4|h4
  ·rw[hA.fr.le.bO b h4] at e;exact h2 b h4 e
  ·have:=hA.dY b h4 hb;omega
structure Ends(P:aQ)(B:dR)(o:Oper)(r:OR)(s':St)(K:Act->aP->Prop)(Q:Exit->Act->aP->Prop):Prop where
 val:∀v,r=.val v->∀g' cv a' w',Ea B g' s' a' w' o.dst v cv->K (a'.put o.dst cv) w'
 skip:r=.skip->∀g' a' w',Rel B g' s' a' w'->K (a'.put o.dst undef) w'
 p9:∀v,r=.p9 v->∀g' cv a' w',Rel B g' s' a' w'->aR g' v cv->v.top<=s'.H.az.length->Q (.panic [{ v:=cv,recovered:=false }]) a' w'
def yB(P:aQ):Prop:=∀(f:FuncId)(fn:Func),P.funcs[f]?=some fn->(fn.name == "runtime.NumGoroutine")=false
def vd(P:aQ):Prop:=∀(f:FuncId)(fn:Func)(args:aD)(v:V),P.funcs[f]?=some fn->fn.body=none->VS fn.name args=some v ->
 ∀g n bx w,eP g n args bx->∃cv,(callFunc f bx).run P w=.ok (.value cv) w/\aR g v cv/\v.top=0/\(∀k l,cL g k w l v cv)
theorem zgU{cx:Cx}(hP:cx.P=P)(fQ:yB P)(dP:vd P){d:Nat}(hd:d<B.d)(rN:ij P cx.gl B.g)(dj:xB P cx.gl cx.call d)(h:Rel B g s a w){f:FuncId}{args:aD}{bx:dM}{r:OR}{H':Hp}
  (hc:cx.bB f args s.H=some (r,H')) (fD:eP g s.H.az.length args bx) {o:Oper} (ho:(execOp a.eval o).run P w=(callFunc f bx).run P w) {K:Act->aP->Prop} {Q:Exit->Act->aP->Prop} (hE:Ends P B o r { s with H:=H' } K Q):o.wp P a w K Q:=by
 have Fv:ij P cx.gl g:=rN.le h.fr.le;unfold Cx.bB at hc;rw[hP] at hc;cases hf:P.funcs[f]? with
 | none=>rw[hf] at hc;cases hc
 | some fn =>
  rw[hf] at hc;simp only at hc;cases hb:fn.body with
  | none =>
   rw[hb] at hc;simp only at hc;split at hc<;>simp only[bq,reduceCtorEq,cq] at hc;rename_i v hv;obtain⟨rfl,rfl⟩:=hc;obtain⟨cv,h1,h2,h3,h4⟩:=dP f fn args v hf hb hv g _ bx w fD;unfold Oper.wp;rw[ho,h1,Oper.upon_value];exact hE.val v rfl g cv a w ⟨h,h2,λ_ _=>h4 _ _,by omega⟩
  | some c =>
   rw[hb] at hc;simp only at hc;split at hc<;>simp only[bq,reduceCtorEq] at hc;rename_i res lQ;obtain⟨out,H1⟩:=res;have cw:(callFunc f bx).run P w=.ok (.enter f bx) w:=by
    have cH:fn.name≠ "runtime.NumGoroutine":=by simpa using fQ f fn hf
    simp[callFunc,hf,hb,cH]
   unfold Oper.wp;rw[ho,cw,Oper.upon_enter];refine Calls.mono (dj f args s.H out H1 lQ g w bx (.slot B.d (o.dst.getD 0)) Fv h.cX fD) λe w' hp=>?_;cases e with
   | returned cv =>
    obtain⟨v,g',rfl,hA,v1,v2,v3⟩:=hp;simp only[H_,cq] at hc;obtain⟨rfl,rfl⟩:=hc;exact hE.val v rfl g' cv a w' ⟨h.call hd hA,v1,λt ht=>by simpa[ht] using v2,v3⟩
   | panicked chain =>
    obtain⟨v,cv,g',rfl,rfl,hA,v1,v3⟩:=hp;simp only[H_,cq] at hc;obtain⟨rfl,rfl⟩:=hc;exact hE.p9 v rfl g' cv a w' (h.call hd hA) v1 v3
   | outgrown=>exact hp.elim
end
section
variable{P:aQ}{B:dR}{g:Gh}{s:St}{a:Act}{w:aP}
theorem zfF(l:aD):zgT (l.map aV):=λx hx sz xs e h=>by
 obtain⟨y,_,rfl⟩:=mg.1 hx;exact vO y sz xs e h
theorem eP.Fw{n:Nat}{l:aD}{arr:dM}(hl:l.length=arr.size)(hr:∀(j:Nat)(x:V)(v:bt),l[j]?=some x->arr[j]?=some v->aR g x v)(ht:aI l<=n):eP g n (l.map aV) arr :=
 ⟨by simpa using hl,λj x v hx hv=>by
  simp only[iX,mQ] at hx;obtain⟨y,hy,rfl⟩:=hx
  exact(hr j y v hy hv).aV,by rw[eO];exact ht,zfF l⟩
theorem vB{l m:aD}{x y:dM}(h1:l.length=x.size)(hl:∀(j:Nat)(z:V)(v:bt),l[j]?=some z->x[j]?=some v->aR g z v)(hm:∀(j:Nat)(z:V)(v:bt),m[j]?=some z->y[j]?=some v->aR g z v) :
  ∀(j:Nat)(z:V)(v:bt),(l++m)[j]?=some z->(x++y)[j]?=some v->aR g z v:=λj z v hz hv=>by
 rcases eM j l.length with h|h
 ·rw[gb h] at hz;rw[Array.getElem?_append_left (by omega)] at hv
  exact hl j z v hz hv
 ·rw[fI h] at hz;rw[Array.getElem?_append_right (by omega),<- h1] at hv
  exact hm _ z v hz hv
theorem wD{l m:aD}{n:Nat}(h1:aI l<=n)(h2:aI m<=n):aI (l++m)<=n :=
 qK λ_ hx=>(sw.1 hx).elim (λh=>cN (zn h) h1) (λh=>cN (zn h) h2)
theorem zkt{t:aB}{v rv:V}{cv:bt}{name:String}{f:FuncId}(hm:VR P t v name=some (f,rv))(k:Nat):rv=v/\(method (k+1) t cv name).run P w=.ok (f,cv) w:=by
 simp only[VR,Option.bind_eq_bind,eF] at hm;obtain⟨i,hi,m,Ir,hm⟩:=hm;split at hm<;>try (cases hm;done)
 rename_i hp;simp only[eF] at hm;obtain⟨⟨f',pr⟩,hf,ds,hds,hm⟩:=hm;have G7:m.path=#[]:=by simpa using hp
 simp only at hm;split at hm<;>simp only[bq,reduceCtorEq,cq] at hm
 ·obtain⟨rfl,rfl⟩:=hm;refine⟨rfl,?_⟩;simp[method,typeInfo,hi,Ir,G7,follow,hf,receiverAt,run_underlying hds,Place.get]
 ·obtain⟨rfl,rfl⟩:=hm;refine⟨rfl,?_⟩;cases ds<;>first
   |(simp[method,typeInfo,hi,Ir,G7,follow,hf,receiverAt,run_underlying hds,Place.get];done)
   |(exfalso;simp_all;done)
theorem zid(P:aQ):∃k,P.types.size+Made.depth=k+1:=⟨P.types.size+(Made.depth - 1),by simp[Made.depth]⟩
theorem zgV{cx:Cx}(hP:cx.P=P)(fQ:yB P)(dP:vd P){d:Nat}(hd:d<B.d)(rN:ij P cx.gl B.g)(dj:xB P cx.gl cx.call d)(h:Rel B g s a w){fv:V}{args:aD}{fn:Fn}{fa fc bx:dM}{r:OR}{H':Hp}
  (hc:cx.mz fv args s.H=some (r,H')) (EP:aR g fv (.func fn fa fc)) (G8:fv.top<=s.H.az.length) (hl:args.length=bx.size) (hr:∀(j:Nat)(x:V)(v:bt),args[j]?=some x->bx[j]?=some v->aR g x v) (ht:aI args<=s.H.az.length)
  {o:Oper} (ho:(execOp a.eval o).run P w=(invoke (.fn fn fc) (fa++bx)).run P w) {K:Act->aP->Prop} {Q:Exit->Act->aP->Prop} (hE:Ends P B o r { s with H:=H' } K Q):o.wp P a w K Q:=by
 unfold Cx.mz at hc;split at hc
 ·rename_i f first cap
  simp only[eC] at hc;cases EP with
  | fn f1 f2 f3 f4 =>
   have Tz:aI first<=s.H.az.length/\aI cap<=s.H.az.length:=uf.1 G8
   refine zgU hP fQ dP hd rN dj h hc (bx:=fa++bx++fc) (eP.Fw (by simp[f1,f2,hl]) (vB (by simp[f1,hl]) (vB f1 f3 hr) f4) (wD (wD Tz.1 ht) Tz.2)) ?_ hE
   rw[ho];rfl
 ·rename_i name first cap
  split at hc<;>try (cases hc;done)
  rename_i t v rest PF;split at hc<;>try (cases hc;done)
  rename_i f rv hm;rw[hP] at hm;simp only[eC] at hc;cases EP with
  | fn f1 f2 f3 f4 =>
   have Tz:aI first<=s.H.az.length/\aI cap<=s.H.az.length:=uf.1 G8
   have di:=vB f1 f3 hr;have hlen:(first++args).length=(fa++bx).size:=by simp[f1,hl]
   have dx:=wD Tz.1 ht;rw[PF] at di hlen dx;have h0:0<(fa++bx).size:=by rw[<- hlen];simp
   have Bf:=di 0 _ _ rfl (EH h0);generalize G9:(fa++bx)[0]=cr at Bf;cases Bf with
   | dF hv =>
    rename_i cv;obtain⟨k,hk⟩:=zid P;obtain⟨rfl,hmr⟩:=zkt (P:=P) (w:=w) (cv:=cv) hm k;have Bg:(fa++bx)[0]?=some (.iface t cv):=by rw[EH h0,G9]
    refine zgU hP fQ dP hd rN dj h hc (bx:=#[cv]++(fa++bx).extract 1 (fa++bx).size) (eP.Fw ?_ (λj x u hx hu=>?_) ?_) ?_ hE
    ·simp only[aX] at hlen;simp only[aX,Array.size_append,Array.size_extract,List.size_toArray,List.length_nil] at *;omega
    ·cases j with
     | zero =>
      rw[Array.getElem?_append_left (by simp)] at hu
      simp only[K2,bq,List.getElem?_toArray] at hx hu;subst hx;subst hu;exact hv
     | succ j =>
      refine di (j+1) x u (by simpa using hx) ?_
      rw[Array.getElem?_append_right (by simp)] at hu
      simp only[List.size_toArray,aX,List.length_nil,nY,Nat.add_sub_cancel] at hu;rw[Array.getElem?_extract] at hu;split at hu
      ·rw[JM] at hu;exact hu
      ·cases hu
    ·exact qK λx hx=>by
      rcases dG.1 hx with rfl|hx
      ·exact cN (show _<=(V.dF t x).top from dA _) (cN (zn (eK ..)) dx)
      ·exact cN (zn (dU _ hx)) dx
    ·rw[ho];simp only[invoke,Bg,callMethod];simp[hk,hmr]
 ·cases hc
end
section
variable{P:aQ}{B:dR}{g:Gh}{s:St}{a:Act}{w:aP}
theorem rQ{args:sg}{x y:aW}(h:args.toList=[x,y]):args=#[x,y]:=by
 apply Array.ext';simpa using h
theorem zqG{args:sg}{x:aW}(h:args.toList=[x]):args=#[x]:=by
 apply Array.ext';simpa using h
theorem zlx{args:Array aB}{x y:aB}(h:args.toList=[x,y]):args=#[x,y]:=by
 apply Array.ext';simpa using h
theorem zpH{args:Array aB}{x:aB}(h:args.toList=[x]):args=#[x]:=by
 apply Array.ext';simpa using h
theorem zie{cx:Cx}(hP:cx.P=P)(h:Rel B g s a w){b:Builtin}{ts:Array aB}{args:sg}{r:OR}{cW:aD}(hb:cx.builtin b ts args s.env s.H=some (r,cW)){o:Oper}{c:Call}(ho:o.op=.call c)(hc:c.callee=.builtin b)(hts:c.argTypes=ts)(fD:c.args=args) :
  ∃v,r=.val v/\fo P B { s with env:=cW } a w o v:=by
 have cw:∀m:Sem bt,(∀x,builtin b ts o.type x (args.map a.eval)=(do pure (.value (<- m))))->∀cv w',m.run P w=.ok cv w'->(execOp a.eval o).run P w=.ok (.value cv) w':=by
  intro m hm cv w' hr;simp[execOp,ho,resolve,hc,hts,fD,invoke,hm,hr]
 unfold Cx.builtin at hb;split at hb
 next x t hx ht=>have e1:=zqG hx;have e2:=zpH ht;subst e1;subst e2;simp only[Option.bind_eq_bind,eF,bq,cq] at hb;obtain⟨v,hv,n,hn,rfl,rfl⟩:=hb;rw[hP] at hn;exact⟨_,rfl,g,.int .i64 n,w,cw (Builtin.len_ #[t] o.type #[a.eval x]) (λ_=>by simp[builtin]) _ _ (znK h hv hn),h,.int _ _,λ_ _=>trivial,ec _⟩
 ·rename_i x y t u hx ht;have e1:=rQ hx;have e2:=zlx ht;subst e1;subst e2;split at hb<;>try (cases hb;done)
  rename_i Ly;have e3:t=u:=eG (by simpa using Ly)
  subst e3;simp only[Option.bind_eq_bind,eF,bq,cq] at hb;obtain⟨yv,hy,⟨v,bH⟩,pL,r',Dl,rfl,rfl⟩:=hb;rw[hP] at Dl;obtain⟨g',cv,w',h1,h2,h3,h4,h5⟩:=zks (ty:=o.type) h hy pL Dl (o.dst.getD 0);exact⟨_,rfl,g',cv,w',cw (Builtin.append_ #[t,t] o.type #[a.eval x,a.eval y]) (λ_=>by simp[builtin]) _ _ h1,h2,h3,λd hd=>by simpa[hd] using h4,h5⟩
 next x y hx=>have e1:=rQ hx;subst e1;simp only[Option.bind_eq_bind,eF] at hb;obtain⟨u,hu,v,hv,hb⟩:=hb;split at hb<;>simp only[bq,reduceCtorEq,cq] at hb;obtain⟨rfl,rfl⟩:=hb;exact⟨_,rfl,g,_,w,cw (Builtin.min_ ts o.type #[a.eval x,a.eval y]) (λ_=>by simp[builtin]) _ _ (zeR h hu hv ts o.type).1,h,.int _ _,λ_ _=>trivial,ec _⟩
 next x y hx=>have e1:=rQ hx;subst e1;simp only[Option.bind_eq_bind,eF] at hb;obtain⟨u,hu,v,hv,hb⟩:=hb;split at hb<;>simp only[bq,reduceCtorEq,cq] at hb;obtain⟨rfl,rfl⟩:=hb;exact⟨_,rfl,g,_,w,cw (Builtin.max_ ts o.type #[a.eval x,a.eval y]) (λ_=>by simp[builtin]) _ _ (zeR h hu hv ts o.type).2,h,.int _ _,λ_ _=>trivial,ec _⟩
 ·cases hb
end
section
variable{P:aQ}{B:dR}{g:Gh}{s:St}{a:Act}{w:aP}
def Gh.eI(g:Gh)(b u:Nat)(v:bt)(own:Nat->Option Loc):Gh :=
 {g with eY:=λb' u'=>if b'=b/\u'=u then some v else g.eY b' u',own:=own }
theorem zgW{H:Hp}{EK:List aY}(h:Pk EK H){b:Nat}{x0 x:aY}{v:V}(hb:H.az[b]?=some x0)(gH:x.top<=max x0.top v.top):Pk EK ((H.set b x).bQ b v):=by
 have iU:b<H.az.length:=(cZ.1 hb).1;have m_:((H.set b x).bQ b v).az=H.az.set b x:=by simp only[Hp.bQ,Hp.set];split<;>rfl
 have dI:∀p∈H.bG,p∈((H.set b x).bQ b v).bG:=by
  intro p hp;simp only[Hp.bQ,Hp.set];split
  ·exact hp
  ·exact dU _ hp
 intro b' y hy;rw[m_] at hy
 by_cases e:b'=b
 ·subst e;rw[Cn iU] at hy;cases hy;rcases Nat.le_total x0.top v.top with h2|h2
  ·rw[Nat.max_eq_right h2] at gH
   by_cases h3:v.top<=b'+1
   ·exact .inl (cN gH h3)
   ·refine .inr (.inl ⟨v.top,?_,gH⟩);simp only[Hp.bQ,Hp.set];rw[if_neg h3];exact eK ..
  ·rw[Nat.max_eq_left h2] at gH;rcases h b' x0 hb with h1|⟨m,h1,h2⟩|⟨y,h1,h2⟩
   ·exact .inl (cN gH h1)
   ·exact .inr (.inl ⟨m,dI _ h1,cN gH h2⟩)
   ·exact .inr (.inr ⟨y,h1,cN gH h2⟩)
 ·rw[su (λe'=>e e'.symm)] at hy;rcases h b' y hy with h1|⟨m,h1,h2⟩|h1
  ·exact .inl h1
  ·exact .inr (.inl ⟨m,dI _ h1,h2⟩)
  ·exact .inr (.inr h1)
theorem Rel.Fy(h:Rel B g s a w){b eI sz:Nat}{cs:aD}{e:aB}{x:aY}{v:V}{g':Gh}{w':aP}(hb:s.H.get b=some (.ul eI sz cs e))
  (hs:gK B.d (some b) (some (.cell b 0)) s.H.az.length g w g' w') (hM:g'.M=g.M) (ov:∀c o v,g.M c o=some v->w'.heap[c]?=w.heap[c]?) (sK:∀c l,g'.own c=some l->c<w'.heap.size)
  (ej:fU g' s.H.az.length w' b x) (dx:x.top<=s.H.az.length) (gH:x.top<=max (aI cs) v.top):Rel B g' { s with H:=(s.H.set b x).bQ b v } a w':=by
 simp only[Hp.get,zg] at hb;have iU:b<s.H.az.length:=(cZ.1 hb).1;have m_:((s.H.set b x).bQ b v).az=s.H.az.set b x:=by
  simp only[Hp.bQ,Hp.set];split<;>rfl
 have hlen:((s.H.set b x).bQ b v).az.length=s.H.az.length:=by rw[m_];simp
 have lf:∀off,¬jo s.H.az b off:=by
  rintro off ⟨cs',t',Po,CC,h1,h2⟩;rw[hb] at h1;cases h1
 refine h.i_ (s':={ s with H:=(s.H.set b x).bQ b v }) hs (by rw[hlen];exact dA _) (λb' cY cH=>?_) (λb' y Ik hy=>?_) (λb' h1 h2=>?_) (λb1 b2 h1 h2=>?_) (λc o u hu=>?_) sK
  (λb' j e=>by cases e;exact lf 0) rfl rfl (λt y hy=>⟨y,hy,.inl ⟨rfl,λe=>by cases e⟩⟩) (zgW h.bG hb gH) (λb' off Il=>?_) h.ou (λ_ e=>by cases e)
 ·rw[m_,su (λe=>cH (by rw[e]))]
 ·have cY:b'=b:=by
   rcases Ik with Ik|Ik
   ·cases Ik;rfl
   ·have:=(cZ.1 hy).1;rw[hlen] at this;omega
  subst cY;rw[m_,Cn iU] at hy;cases hy;rw[hlen];exact⟨ej,dx⟩
 ·rw[hlen] at h2;omega
 ·rw[hlen] at h2;omega
 ·rw[hM] at hu;rw[yz (ov c o u hu)];exact h.cX.mem c o u hu
 ·have h0:=h.lP b' off Il;have cH:b'≠b:=λe=>lf off (e ▸ h0);obtain⟨cs,t,sz,xs,h1,h2⟩:=h0;exact⟨cs,t,sz,xs,by rw[m_,su (λe'=>cH e'.symm)];exact h1,h2⟩
theorem TA(h:Rel B g s a w){b eI sz:Nat}{cs:aD}{e:aB}(hb:s.H.get b=some (.ul eI sz cs e)):b<s.H.az.length/\(g.own (g.bO b)=none):=by
 simp only[Hp.get,zg] at hb;have iU:b<s.H.az.length:=(cZ.1 hb).1;exact⟨iU,h.cX.dN b iU⟩
theorem Gh.Lz{n:Nat}{g:Gh}{b u:Nat}{v:bt}{own:Nat->Option Loc}(hf:g.eY b u=none):Gh.Le n g (g.eI b u v own):=by
 refine⟨λ_ _ _ e=>e,λ_ _=>rfl,rfl,λb' u' v' _ e=>?_⟩;simp only[Gh.eI];split
 next e'=>obtain⟨rfl,rfl⟩:=e';rw[hf] at e;cases e
 ·exact e
theorem eU:∀(l:aD),bY l=zH l
 | []=>rfl
 | x::xs=>by simp[bY,zH,eU xs]
theorem TB(h:Rel B g s a w){b eI sz:Nat}{cs cs':aD}{e:aB}{c len cap c' CH oM:Nat}{vs LA:dw}{v:V}{w':aP}(hb:s.H.get b=some (.ul eI sz cs e))(hu:Ia g s.H.az.length w b eI sz cs e c len cap vs)
  (sS:∀k,k<w.heap.size->k≠c->w'.heap[k]?=w.heap[k]?) (fq:w.heap.size<=w'.heap.size) (pN:w'.os=w.os) (ht:w'.tape=w.tape) (nK:w'.output=w.output) (ei:c'=c\/c'=w.heap.size)
  (cj:w'.ownsRow 0 e sz (.slice (some ⟨c',0,none⟩) CH oM) CH LA) (ef:bK g cs' LA) (dx:aI cs'<=s.H.az.length) (gH:aI cs'<=max (aI cs) v.top) :
  ∃g',Rel B g' { s with H:=(s.H.set b (.ul (eI+1) sz cs' e)).bQ b v } a w'/\aR g' (.dB b (eI+1) CH) (.slice (some ⟨c',0,none⟩) CH oM):=by
 obtain⟨iU,uj⟩:=TA h hb;have bR:c<w.heap.size:=(hu.row.lt c rfl).2;have Wy:c'<w'.heap.size:=(cj.lt c' rfl).2;have eH:∀k,k<w.heap.size->(∀b',some b=some b'->g.bO b'≠k)->(∀l,some (Loc.cell b 0)=some l->g.own k≠some l)->k≠c:=λk _ h1 h2 e=>by
  subst e;rcases hu.Cw with h3|h3
  ·exact h1 b rfl h3.symm
  ·exact h2 _ rfl h3
 let own:Nat->Option Loc:=λk=>if c'≠c/\k=c' then some (.cell b 0) else g.own k
 let g':Gh:=g.eI b (eI+1) (.slice (some ⟨c',0,none⟩) CH oM) own
 have iB:∀k,k<w.heap.size->own k=g.own k:=λk hk=>by
  show(if _ then _ else _)=_
  rw[if_neg];rintro⟨h1,rfl⟩;rcases ei with h2|h2
  ·exact h1 h2
  ·omega
 have hle:Gh.Le s.H.az.length g g':=Gh.Lz (hu.fresh _ (HW _));have Fz:g'.eY b (eI+1)=some (.slice (some ⟨c',0,none⟩) CH oM):=by simp[g',Gh.eI]
 have hS:gK B.d (some b) (some (.cell b 0)) s.H.az.length g w g' w' :=
  ⟨hle,λk hk h1 h2=>sS k hk (eH k hk h1 h2),λk hk _=>iB k hk,λ_ _ _ _=>rfl,fq,λ_ _ _=>rfl,λl hl=>.inr ⟨b,0,by cases hl;rfl,rfl⟩,λb' cY=>by cases cY;exact iU,
   λb' u cY cH=>by
    show(if _ then _ else _)=_
    rw[if_neg];rintro⟨rfl,_⟩;exact cH rfl,pN,ht,nK⟩
 refine⟨g',h.Fy hb hS rfl (λk o x hx=>?_) (λk l hk=>?_) ⟨c',CH,oM,LA,Fz,hu.pos,cj,?_,λo=>?_,λb' cY cH e'=>?_,ef.len,λj x u hx hv=>⟨ef.one j x hx,?_⟩,λu hlu=>?_⟩ dx gH,.dB Fz⟩
 ·refine sS k (vq (h.cX.mem k o x hx)) λe=>?_;subst e;rw[hu.M o] at hx;cases hx
 ·have:(if c'≠c/\k=c' then some (Loc.cell b 0) else g.own k)=some l:=hk
  split at this
  next e=>rw[e.2];exact Wy
  ·exact uc (h.cX.eD k l this) fq
 ·rcases ei with e'|e'
  ·subst e';rcases hu.Cw with h1|h1
   ·exact .inl h1
   ·refine .inr ?_;show(if _ then _ else _)=_
    rw[if_neg (λe=>e.1 rfl)];exact h1
  ·refine .inr ?_;show(if _ then _ else _)=_
   rw[if_pos ⟨by omega,rfl⟩]
 ·show g.M c' o=none;rcases ei with e'|e'
  ·subst e';exact hu.M o
  ·cases hm:g.M c' o with
   | none=>rfl
   | some x=>have:=vq (h.cX.mem _ _ _ hm);omega
 ·rcases ei with e2|e2
  ·subst e2;exact hu.others b' cY cH e'
  ·have:=h.cX.lt b' cY;have e3:g.bO b'=c':=e';omega
 ·exact(ef.rel j x u hx hv).le hle (cN (zn (zv hx)) dx)
 ·show(if _ then _ else _)=_
  rw[if_neg (λe=>by omega)]
  exact hu.fresh u (by omega)
theorem zgX{w:aP}{e:aB}{sz c len cap k:Nat}{vs:dw}(h:w.ownsRow 0 e sz (.slice (some ⟨c,0,none⟩) len cap) len vs)(hk:k<=len):w.ownsRow 0 e sz (.slice (some ⟨c,0,none⟩) k cap) k (vs.take (k * sz)):=by
 obtain⟨hl,h|⟨c',oM,cur,hv,h0,hb,h1,h2,h3,hx⟩⟩:=h
 ·cases h.1
 ·cases hv;have hm:k * sz<=len * sz:=K5 _ hk;refine⟨by rw[uL,hl];omega,.inr ⟨c,cap,cur,rfl,h0,hb,by omega,h2,h3,?_⟩⟩
  rw[<- hx,List.take_take,Nat.min_eq_left hm]
theorem Wz(cs:aD)(k:Nat):aI (cs.take k)<=aI cs:=qK λ_ hx=>zn (Cq hx)
theorem zku{cx:Cx}(hP:cx.P=P)(h:Rel B g s a w){t:aB}{x:aW}{lo hi:Option aW}{r:OR}{s':St}(aC:cx.oK t x lo hi s.env s.H s.lk s.defers=some (r,s')){o:Oper}(ho:o.op=.slice t x lo hi none) :
  ∃v,r=.val v/\fo P B s' a w o v:=by
 unfold Cx.oK at aC;rw[hP] at aC;split at aC<;>try (cases aC;done)
 rotate_left
 next b off len cap Th sx hx iy AO=>split at aC<;>simp only[bq,reduceCtorEq,cq] at aC;rename_i v hv;obtain⟨rfl,rfl⟩:=aC;obtain⟨x1,x2,_⟩:=zI h hx;obtain⟨cv,e1,e2,e3,e4⟩:=zeP (P:=P) (n:=s.H.az.length) hv x1 (Ih h iy) (Ih h AO) x2 w;exact⟨v,rfl,g,cv,w,by simp[execOp,ho,e1],h,e2,λd _=>e4 _ _,e3⟩
 rename_i e' b u len k hh ht hx iy AO;split at aC<;>try (cases aC;done)
 rename_i m eI sz cs e hm hb;split at aC<;>try (cases aC;done)
 rename_i hc;simp only[eC,qA,jd,bq,cq] at aC;obtain⟨rfl,rfl⟩:=aC;simp only[d_,decide_eq_true_eq] at hc;obtain⟨⟨hv,h0⟩,hle⟩:=hc;have hv:=eG hv;have hle:=r_ hle;subst hv;obtain⟨x1,x2,_⟩:=zI h hx;obtain⟨c,l0,cap,vs,hu,h2,h3⟩:=Tp h hb;have WA:=Ih h iy;have WC:=Ih h AO;have oc:l0<=cap:=by
  obtain⟨_,hr|⟨_,_,_,hr,_,_,h5,_⟩⟩:=hu.row
  ·cases hr.1
  ·cases hr;exact h5
 generalize JT:a.eval x=TC at x1;cases x1 with
 | dB hh' =>
  rw[hu.eY] at hh';cases hh';have cY:=xg (P:=P) (isSlice:=true) (len:=len) (cap:=cap) (l:=0) (h:=hh.toNat) WA WC (by simp[j8,h0]) rfl (ec _) hle oc w
  obtain⟨g',r1,r2⟩:=TB (v:=.fT) h hb hu (λ_ _ _=>rfl) (dA _) rfl rfl rfl (.inl rfl) (zgX hu.row hle) (h2.take _) (cN (Wz _ _) h3) (cN (Wz _ _) (D2 _ _));refine⟨_,rfl,g',_,w,?_,r1,r2,λ_ _=>trivial,?_⟩
  ·have hs:(Instr.sliceAt t (.slice (some ⟨c,0,none⟩) len cap) (lo.map a.eval) (hi.map a.eval) none).run P w=.ok (.slice (some ⟨c,0,none⟩) hh.toNat cap) w:=by
    simp[Instr.sliceAt,run_underlying ht,Instr.slice,cY,jv hm,Addr.add_lit]
   simp[execOp,ho,JT,hs]
  ·have:((s.H.set b (.ul (eI+1) sz (cs.take (hh.toNat * sz)) e)).bQ b .fT).az.length=s.H.az.length:=by
    simp only[Hp.bQ,Hp.set];split<;>simp
   rw[this];have:=(TA h hb).1;simp only[V.top];omega
end
section
variable{P:aQ}{B:dR}{g:Gh}{s:St}{a:Act}{w:aP}
theorem zc4{α:Type}(l vs:List α)(off m:Nat)(h:off+vs.length<=m)(hm:m<=l.length):(storeCells l off vs).take m=storeCells (l.take m) off vs:=by
 apply Fa;intro j;rw[AK,qE _ _ _ _ (by omega),qE _ _ _ _ (by rw[uL];omega),AK]
 by_cases hj:j<m
 ·simp[hj]
 ·have:¬(off<=j/\j<off+vs.length):=by omega
  simp[hj,this]
theorem zgY(H:Hp)(b:Nat)(x:aY)(v:V):((H.set b x).bQ b v).az.length=H.az.length:=by
 simp only[Hp.bQ,Hp.set];split<;>simp
theorem zkv{w:aP}{e:aB}{sz c len cap off:Nat}{vs news:dw}(h:w.ownsRow 0 e sz (.slice (some ⟨c,0,none⟩) len cap) len vs)(hf:off+news.length<=vs.length)(h1:∀u∈news,u.oneCell'=true) :
  ∃w',(Go.storeCells ⟨c,off,none⟩ news 0).run P w=.ok () w'/\w'.ownsRow 0 e sz (.slice (some ⟨c,0,none⟩) len cap) len (storeCells vs off news)/\(∀k,k≠c->w'.heap[k]?=w.heap[k]?)/\w'.heap.size=w.heap.size/\w'.os=w.os/\w'.tape=w.tape/\w'.output=w.output:=by
 obtain⟨hl,h|⟨c',oM,cur,hv,h0,hb,Ij,h2,h3,hx⟩⟩:=h
 ·cases h.1
 ·cases hv;have B8:vs.length<=cur.toList.length:=by rw[<- hx];simp;omega
  have nq:cur.toList.take off++news++cur.toList.drop (off+news.length)=storeCells cur.toList off news:=by
   have oP:cur.toList=cur.toList.take off++(cur.toList.drop off).take news.length++cur.toList.drop (off+news.length):=by
    rw[a_,<- List.drop_drop,Co,Co]
   have hlen:(cur.toList.take off).length=off:=by rw[uL];omega
   have:=kR news ((cur.toList.drop off).take news.length) (cur.toList.take off) (cur.toList.drop (off+news.length)) (by rw[uL,List.length_drop];omega)
   rw[hlen,<- oP] at this;rw[this]
  have eZ:=run_storeCells_at P c off e news 0 cur w hb (by simp at B8 ⊢;omega) h1
  simp only[nZ] at eZ;rw[nq] at eZ;refine⟨_,eZ,⟨by rw[kC];exact hl,.inr ⟨c,cap,_,rfl,h0,setRow_heap w c _ _ _ _ hb,Ij,h2,by simp[kC,h3],?_⟩⟩,λk hk=>setRow_other w c k _ hk,setRow_size w c _,rfl,rfl,rfl⟩
  show(storeCells cur.toList off news).take (len * sz)=_;have hle:len * sz<=cur.toList.length:=by rw[<- hl];exact B8
  rw[zc4 _ _ _ _ (by omega) hle,hx]
theorem Rel.eg(h:Rel B g s a w){b eI sz:Nat}{cs cs':aD}{e:aB}{c len cap:Nat}{vs LA:dw}{v:V}{w':aP}(hb:s.H.get b=some (.ul eI sz cs e))(hu:Ia g s.H.az.length w b eI sz cs e c len cap vs)
  (sS:∀k,k≠c->w'.heap[k]?=w.heap[k]?) (fq:w'.heap.size=w.heap.size) (pN:w'.os=w.os) (ht:w'.tape=w.tape) (nK:w'.output=w.output)
  (cj:w'.ownsRow 0 e sz (.slice (some ⟨c,0,none⟩) len cap) len LA) (ef:bK g cs' LA) (dx:aI cs'<=s.H.az.length) (gH:aI cs'<=max (aI cs) v.top) :
  Rel B g { s with H:=(s.H.set b (.ul eI sz cs' e)).bQ b v } a w':=by
 obtain⟨iU,uj⟩:=TA h hb;have eH:∀k,k<w.heap.size->(∀b',some b=some b'->g.bO b'≠k)->(∀l,some (Loc.cell b 0)=some l->g.own k≠some l)->k≠c:=λk _ h1 h2 e=>by
  subst e;rcases hu.Cw with h3|h3
  ·exact h1 b rfl h3.symm
  ·exact h2 _ rfl h3
 have hS:gK B.d (some b) (some (.cell b 0)) s.H.az.length g w g w' :=
  ⟨.refl _ _,λk hk h1 h2=>sS k (eH k hk h1 h2),λk hk _=>rfl,λ_ _ _ _=>rfl,by omega,λ_ _ _=>rfl,λl hl=>.inr ⟨b,0,by cases hl;rfl,rfl⟩,λb' cY=>by cases cY;exact iU,
   λb' u cY cH=>rfl,pN,ht,nK⟩
 refine h.Fy hb hS rfl (λk o x hx=>?_) (λk l hk=>?_) ⟨c,len,cap,LA,hu.eY,hu.pos,cj,hu.Cw,hu.M,hu.others,ef.len,λj x u hx hv=>⟨ef.one j x hx,ef.rel j x u hx hv⟩,hu.fresh⟩ dx gH
 ·refine sS k λe=>?_;subst e;rw[hu.M o] at hx;cases hx
 ·rw[fq];exact h.cX.eD k l hk
theorem bK.pQ{cs:aD}{vs:dw}(h:bK g cs vs):∀u∈vs,u.oneCell'=true:=λu hu=>by
 obtain⟨j,hj⟩:=List.getElem?_of_mem hu;have sO:j<cs.length:=by rw[h.len];exact(cZ.1 hj).1
 have hx:=gj sO;exact(h.rel j _ u hx hj).nT (h.one j _ hx)
theorem zkw(h:Rel B g s a w){t:aB}{p x:aW}{b eI k n sz:Nat}{v0 v:V}{cW:aD}{cs:aD}{e:aB}(hp:ak s.env p=some (.gh b eI k))(hx:take s.env x=some (v0,cW))(hv:aV v0=v)(hn:z4 P t=some n)
  (hb:s.H.get b=some (.ul eI sz cs e)) (ej:dz v=true) (hl:v.cells.length=n) (hle:k+n<=cs.length) :
  ∃g' w',(Instr.storeAt t (a.eval p) (a.eval x)).run P w=.ok () w'/\Rel B g' { s with env:=cW,H:=(s.H.set b (.ul eI sz (storeCells cs k v.cells) e)).bQ b v } a w':=by
 obtain⟨p1,p2,_⟩:=zI h hp;obtain⟨g',h1,v1,_,v2,sQ⟩:=vG h hx .ret;have v1:=v1.aV;rw[hv] at v1;have v2:v.top<=s.H.az.length:=by rw[<- hv,jl];exact v2
 have p1:=sQ.rel p1;have cY:({ s with env:=cW }:St).H.get b=some (.ul eI sz cs e):=hb;obtain⟨c,len,cap,vs,hu,h2,h3⟩:=Tp h1 cY;generalize Pr:a.eval p=cp at p1;cases p1 with
 | gh _ hh =>
  rw[hu.eY] at hh;cases hh;have ef:=vr v1 ej;have nL:(a.eval x).cells.size=n:=by rw[<- hl,ef.len];simp
  obtain⟨w',e1,e2,e3,e4,e5,e6,e7⟩:=zkv (P:=P) (off:=k) hu.row (by rw[<- hu.len,AJ,nL];exact hle) ef.pQ
  refine⟨g',w',?_,h1.eg (v:=v) cY hu e3 e4 e5 e6 e7 e2 (h2.store k ef) (vA h3 (cN (yA v) v2)) (cN y5 (uf.2 ⟨D2 _ _,cN (yA v) (HV _ _)⟩))⟩;unfold Instr.storeAt storeVar;simp[Instr.sureAddr,jv hn,nL,e1]
def Gh.pR(g:Gh)(n N:Nat)(v:bt):Gh:={ g.var n N with eY:=λb u=>if b=n then (if u=0 then some v else none) else g.eY b u }
theorem Gh.Dq(g:Gh)(n N:Nat)(v:bt):Gh.Le n g (g.pR n N v) :=
 ⟨λ_ _ _ h=>h,λb hb=>by simp only[Gh.pR,Gh.var];rw[if_neg (by omega)],rfl,λb u x hb e=>by simp only[Gh.pR];rw[if_neg (by omega)];exact e⟩
theorem Rel.PG(h:Rel B g s a w)(bO:aY){obj:Obj}{w':aP}{v:bt}(hw:w'.heap=w.heap.push obj)(pN:w'.os=w.os)(ht:w'.tape=w.tape)(nK:w'.output=w.output)
  (ej:fU (g.pR s.H.az.length w.heap.size v) (s.H.az.length+1) w' s.H.az.length bO) (dx:bO.top<=s.H.az.length+1):Rel B (g.pR s.H.az.length w.heap.size v) { s with H:=s.H.push bO } a w':=by
 have hl:(s.H.push bO).az.length=s.H.az.length+1:=by simp[Hp.push]
 have dy:∀b,b<s.H.az.length->(s.H.push bO).az[b]?=s.H.az[b]?:=λb hb=>by simp only[Hp.push];rw[gb hb]
 have rP:(s.H.push bO).az[s.H.az.length]?=some bO:=by simp[Hp.push]
 have hv:(g.pR s.H.az.length w.heap.size v).bO s.H.az.length=w.heap.size:=by simp[Gh.pR,Gh.var]
 have fq:w'.heap.size=w.heap.size+1:=by rw[hw];simp
 have hS:gK B.d none none s.H.az.length g w (g.pR s.H.az.length w.heap.size v) w' :=
  ⟨g.Dq _ _ _,λc hc _ _=>Tu hw hc,λ_ _ _=>rfl,λ_ _ _ _=>rfl,by rw[hw];simp,λ_ _ _=>rfl,λl hl=>(by cases hl),λb hb=>(by cases hb),λb u hb _=>by simp only[Gh.pR];rw[if_neg (by omega)],pN,ht,nK⟩
 refine h.i_ (s':={ s with H:=s.H.push bO }) hS (by rw[hl];omega) (λb hb _=>dy b hb) (λb x hb hx=>?_) (λb h1 h2=>?_) (λb b' h1 h2 h3 h4 _=>?_) (λc o v hv=>?_) (λc l hc=>?_)
  (λb j e=>by cases e) rfl rfl (λt x hx=>⟨x,hx,.inl ⟨rfl,λe=>by cases e⟩⟩) ?_ (λb off q_=>yZ dy (h.lP b off q_)) h.ou (λ_ e=>by cases e)
 ·have cY:b=s.H.az.length:=by
   rcases hb with hb|hb
   ·cases hb
   ·have:=(cZ.1 hx).1;rw[hl] at this;omega
  subst cY;rw[rP] at hx;cases hx;rw[hl];exact⟨ej,dx⟩
 ·have:b=s.H.az.length:=by rw[hl] at h2;omega
  subst this;rw[hv];refine⟨dA _,by omega,?_,λo=>?_⟩
  ·show g.own w.heap.size=none;cases ho:g.own w.heap.size with
   | none=>rfl
   | some l=>have:=h.cX.eD _ _ ho;omega
  ·show g.M w.heap.size o=none;cases hm:g.M w.heap.size o with
   | none=>rfl
   | some v=>have:=vq (h.cX.mem _ _ _ hm);omega
 ·rw[hl] at h2 h4;omega
 ·rw[yz (Tu hw (vq (h.cX.mem c o v hv)))];exact h.cX.mem c o v hv
 ·have:=h.cX.eD c l hc;omega
 ·intro b x hx;rcases eM b s.H.az.length with h1|h1
  ·rw[show({ s with H:=s.H.push bO }:St).H.az[b]?=s.H.az[b]? from dy b h1] at hx;exact h.bG b x hx
  ·have cY:b=s.H.az.length:=by
    have:=(cZ.1 hx).1;have mT:({ s with H:=s.H.push bO }:St).H.az.length=s.H.az.length+1:=hl;omega
   subst cY;rw[show({ s with H:=s.H.push bO }:St).H.az[s.H.az.length]?=some bO from rP] at hx;cases hx;exact .inl dx
theorem zly(h:Rel B g s a w){cs:aD}{vs:dw}{e:aB}{sz len cap:Nat}{cur:dM}{w':aP}(hw:w'.heap=w.heap.push (.cells cur e (0,0)))(pN:w'.os=w.os)(ht:w'.tape=w.tape)(nK:w'.output=w.output)
  (sk:0<sz) (cj:w'.ownsRow 0 e sz (.slice (some ⟨w.heap.size,0,none⟩) len cap) len vs) (ef:bK g cs vs) (dx:aI cs<=s.H.az.length) :
  ∃g',Rel B g' { s with H:=s.H.push (.ul 0 sz cs e) } a w'/\aR g' (.dB s.H.az.length 0 len) (.slice (some ⟨w.heap.size,0,none⟩) len cap):=by
 have Fz:(g.pR s.H.az.length w.heap.size (.slice (some ⟨w.heap.size,0,none⟩) len cap)).eY s.H.az.length 0=some (.slice (some ⟨w.heap.size,0,none⟩) len cap):=by simp[Gh.pR]
 refine⟨_,h.PG (.ul 0 sz cs e) hw pN ht nK ⟨w.heap.size,len,cap,vs,Fz,sk,cj,.inl (by simp[Gh.pR,Gh.var]),λo=>?_,λb' cY cH e'=>?_,ef.len,λj x u hx hv=>⟨ef.one j x hx,?_⟩,λu hu=>?_⟩ (K8 dx),.dB Fz⟩
 ·show g.M w.heap.size o=none;cases hm:g.M w.heap.size o with
  | none=>rfl
  | some v=>have:=vq (h.cX.mem _ _ _ hm);omega
 ·have h1:b'<s.H.az.length:=by omega
  have:=h.cX.lt b' h1;simp only[Gh.pR,Gh.var] at e';rw[if_neg cH] at e';omega
 ·exact(ef.rel j x u hx hv).le (g.Dq _ _ _) (cN (zn (zv hx)) dx)
 ·simp only[Gh.pR,aF];rw[if_neg (by omega)]
theorem y6{w:aP}{e:aB}{sz k old:Nat}{z:bt}{vs:dw}{arr:dM}(nq:arr.toList=vs)(hl:vs.length=k * sz)(hz:z.cells.size=sz)(Lv:k<=maxLen) :
  (w.drew.alloc (.cells (arr++Builtin.zeroCells z.cells (grownCap w k old e - k)) e)).ownsRow 0 e sz (.slice (some ⟨w.heap.size,0,none⟩) k (grownCap w k old e)) k vs:=by
 have AN:=grownCap_ge w k old e;have rq:grownCap w k old e<=maxLen:=grownCap_le_maxLen w k old e Lv;have od:arr.size=k * sz:=by rw[<- hl,<- nq];simp
 refine⟨hl,.inr ⟨w.heap.size,_,_,rfl,ec _,heap_alloc_new w.drew _,AN,rq,?_,?_⟩⟩
 ·rw[Array.size_append,od,size_zeroCells,hz,<- ue];congr 1;omega
 ·rw[Array.toList_append,List.take_append_of_le_length (by simp;omega),nq]
  exact r9 (by omega)
end
section
variable{P:aQ}{B:dR}{g:Gh}{s:St}{a:Act}{w:aP}
theorem zlz(v:V):aV (aV v)=aV v:=by cases v<;>rfl
theorem WE(h:Rel B g s a w){b off:Nat}{cs L:aD}{tt:aB}{arr:dM}{news:dw}(hb:s.H.get b=some (.cells cs tt))(a1:w.heap[g.bO b]?=some (.cells arr tt (0,0)))(a2:bK g cs arr.toList)(a3:aI cs<=s.H.az.length)
  (a4:∀(j:Nat)(x:V)(v:bt),cs[j]?=some x->arr[j]?=some v->cL g s.H.az.length w (.cell b j) x v/\Pj g b j x v) (dX:bK g L news) (gG:∀q∈L,aV q=q) (WG:aI L<=s.H.az.length) (c3:off+L.length<=cs.length) (oO:wz s.lk b off L.length (cs.drop off)=true) :
  Rel B g { s with H:=(s.H.set b (.cells (storeCells cs off L) tt)).bQ b (.br L) } a (w.setRow (g.bO b) (storeCells arr.toList off news).toArray):=by
 have od:cs.length=arr.size:=by have:=a2.len;simpa using this
 have iU:b<s.H.az.length:=by simp only[Hp.get,zg] at hb;exact(cZ.1 hb).1
 have lf:news.length=L.length:=dX.len.symm;have hLc:∀q∈L,(∀sz xs o,q=.sl sz xs o->o=.no):=λq hq sz xs o e=>by
  have:=gG q hq;subst e;simp[aV] at this;exact this.symm
 have CE:(w.setRow (g.bO b) (storeCells arr.toList off news).toArray).heap[g.bO b]?=some (.cells (storeCells arr.toList off news).toArray tt (0,0)):=setRow_heap w _ _ _ tt _ a1;have iJ:gK B.d (some b) none s.H.az.length g w g (w.setRow (g.bO b) (storeCells arr.toList off news).toArray) :=
  ⟨.refl _ _,λc _ hc _=>setRow_other w _ c _ (λe=>hc b rfl e.symm),λ_ _ _=>rfl,λ_ _ _ _=>rfl,by simp[World.setRow],λ_ _ _=>rfl,λl hl=>(by cases hl),λb' cY=>(by cases cY;exact iU),λ_ _ _ _=>rfl,rfl,rfl,rfl⟩
 refine Rel.write (l:=s.lk) (v:=.br L) h (b:=b) (x0:=.cells cs tt) (x:=.cells (storeCells cs off L) tt) (N:=g.bO b) rfl hb (λc hc=>setRow_other w _ c _ hc) (by simp[World.setRow]) rfl rfl rfl
  ⟨_,CE,by simp[kC,od],λj y u hy hu=>?_⟩ (vA a3 WG) (.inr (.inr (.inr (cN y5 (uf.2 ⟨D2 _ _,HV _ _⟩))))) (λo iy=>?_) h.ou
 ·have eZ:=a2.store off dX;have hr:=eZ.rel j y u hy (by simpa using hu)
  refine⟨eZ.one j y hy,hr,?_,?_⟩
  ·rw[qE _ _ _ _ (by omega)] at hy
   have ny:(storeCells arr.toList off news)[j]?=some u:=by simpa using hu
   rw[qE _ _ _ _ (by have:arr.toList.length=arr.size:=AJ;omega)] at ny
   by_cases hj:off<=j/\j<off+L.length
   ·rw[if_pos hj] at hy;have:=hLc y (zv hy);cases y with
    | sl sz xs o=>have e:=this sz xs o rfl;subst e;trivial
    | _=>trivial
   ·rw[if_neg hj] at hy;rw[if_neg (by rw[lf];exact hj)] at ny
    exact cL.same iJ (λe=>by cases e) (λb1 h2 h3=>absurd (show b1<s.H.az.length from h3) (Nat.not_lt.2 h2)) (a4 j y u hy (by simpa using ny)).1
  ·rw[qE _ _ _ _ (by omega)] at hy
   have ny:(storeCells arr.toList off news)[j]?=some u:=by simpa using hu
   rw[qE _ _ _ _ (by have:arr.toList.length=arr.size:=AJ;omega)] at ny
   by_cases hj:off<=j/\j<off+L.length
   ·rw[if_pos hj] at hy;have:=hLc y (zv hy);cases y with
    | sl sz xs o=>have e:=this sz xs o rfl;subst e;trivial
    | _=>trivial
   ·rw[if_neg hj] at hy;rw[if_neg (by rw[lf];exact hj)] at ny
    exact(a4 j y u hy (by simpa using ny)).2
 ·obtain⟨Wh,t2',sz,xs,d1,d2⟩:=h.lP b o iy;have oe:s.H.az[b]?=some (.cells cs tt):=by simpa[Hp.get,zg] using hb
  rw[oe] at d1;cases d1;refine⟨_,_,sz,xs,rfl,?_⟩;rw[qE _ _ _ _ (by omega)]
  by_cases hj:off<=o/\o<off+L.length
  ·have:=Wg oO (o - off) (.sl sz xs .lock) (by omega) (by rw[HT,show off+(o - off)=o by omega];exact d2) rfl
   rw[show off+(o - off)=o by omega] at this
   exact absurd iy (h.ou _ this)
  ·rw[if_neg hj];exact d2
theorem zif{cx:Cx}(hP:cx.P=P)(h:Rel B g s a w){t ty:aB}{x y:aW}{r:OR}{s':St}(aC:cx.mU t x y s.env s.H s.lk s.defers=some (r,s')) :
  ∃v g' cv w',r=.val v/\(Builtin.append_ #[t,t] ty #[a.eval x,a.eval y]).run P w=.ok cv w'/\Rel B g' s' a w'/\aR g' v cv/\(∀n l,cL g' n w' l v cv)/\v.top<=s'.H.az.length:=by
 unfold Cx.mU at aC;rw[hP] at aC;simp only[Option.bind_eq_bind,eF] at aC;obtain⟨td,ht,aC⟩:=aC;split at aC<;>try (cases aC;done)
 rename_i e;simp only[eF] at aC;obtain⟨n,hn,i,hi,z,hz,yv,hy,ys,tQ,aC⟩:=aC;have sU:=Wo hn hi;split at aC<;>try (cases aC;done)
 rename_i rR;simp only[p7,not_or,GR,Bool.not_eq_false'] at rR;have EN:z.cells.size=n:=eG (by simpa using rR.1)
 have Be:0<n:=by
  rcases HU n with e|e
  ·subst e;simp at rR
  ·exact e
 simp only[eF] at aC;obtain⟨xv,hx,aC⟩:=aC;obtain⟨y1,y3,_⟩:=zI h hy;obtain⟨x1,x3,x4⟩:=zI h hx;clear x4;have gq:=yl h hn tQ y1 y3;have ru:∀m,kx m i.bytes=true->m<=maxLen/\m * i.bytes<=140737488355328:=λm hm=>by
  simp only[kx,d_] at hm;exact⟨by have:=r_ hm.1;simp only[maxLen];omega,r_ hm.2⟩
 split at aC
 ·have JS:=x1.pP;split at aC
  ·simp only[bq,cq] at aC;obtain⟨rfl,rfl⟩:=aC;obtain⟨ad,cap,nV,_⟩:=gq.form;refine⟨.aG,g,.slice none 0 0,w,rfl,?_,h,.aG,λ_ _=>trivial,ec _⟩;rw[JS,nV];exact w5 (P:=P) (ty:=ty) ht hn _ none 0 0 rfl (dA _) ad cap w
  ·rename_i cH;have cH:ys≠[]:=λe=>cH e;split at aC<;>try (cases aC;done)
   rename_i Ed;simp only[c_,qA,qn,bq,cq] at aC;obtain⟨rfl,rfl⟩:=aC;obtain⟨ad,cy,nV,j_⟩:=gq.form;obtain⟨a0,news,rfl,ef,gw⟩:=j_ cH;obtain⟨m1,m2⟩:=ru _ Ed;have sk:0<ys.length:=K6.2 cH;have lf:news.length=ys.length * i.size:=by rw[<- ef.len,qJ gq.sized,sU]
   have cj:=y6 (w:=w) (e:=e) (old:=0) (k:=ys.length) (sz:=n) (z:=z) (arr:=news.toArray) (vs:=news) (by simp) (by rw[lf,sU]) EN m1
   have ry:bK g (bY ys) news:=by rw[eU];exact ef
   obtain⟨g',r1,r2⟩:=zly (w':=w.drew.alloc (.cells (news.toArray++Builtin.zeroCells z.cells (grownCap w ys.length 0 e - ys.length)) e)) h rfl rfl rfl rfl Be cj ry (by rw[eU];exact cN yk gq.aI)
   refine⟨_,g',_,_,rfl,?_,r1,r2,λ_ _=>trivial,by simp[V.top,Hp.push]⟩
   rw[JS,nV];exact run_append_nil (P:=P) w t ty e i z ht hi hz a0 ys.length cy news lf gw sk (by simp only[maxLen] at m1;omega) (by omega)
 ·rename_i b u len;split at aC<;>try (cases aC;done)
  rename_i eI sz cs e' hb;split at aC<;>try (cases aC;done)
  rename_i hc;simp only[c_,qA,jd,bq,cq] at aC;obtain⟨rfl,rfl⟩:=aC;simp only[d_] at hc;obtain⟨⟨⟨c1,c2⟩,c3⟩,Ed⟩:=hc;have c1:=eG c1;have c2:=eG c2;have c3:=eG c3;subst c1;subst c2;subst c3;obtain⟨m1,m2⟩:=ru _ Ed;obtain⟨c,l0,cap,vs,hu,h2,h3⟩:=Tp h hb;have Ai:aI (cs++bY ys)<=max (aI cs) (V.br ys).top:=by
   refine qK λq hq=>?_;rcases sw.1 hq with hq|hq
   ·exact cN (zn hq) (D2 _ _)
   ·rw[eU] at hq;exact cN (xX hq) (HV _ _)
  have LC:aI (cs++bY ys)<=s.H.az.length:=cN Ai (uf.2 ⟨h3,gq.aI⟩);have dx:(V.dB b (eI+1) (len+ys.length)).top<=((s.H.set b (.ul (eI+1) n (cs++bY ys) e)).bQ b (.br ys)).az.length:=by
   rw[zgY];have:=(TA h hb).1;simp only[V.top];omega
  generalize JT:a.eval x=TC at x1;cases x1 with
  | dB hh =>
   rw[hu.eY] at hh;cases hh
   by_cases cH:ys=[]
   ·subst cH;obtain⟨ad,oM,nV,_⟩:=gq.form;have Bc:len<=cap:=by
     obtain⟨_,hr|⟨_,_,_,hr,_,_,h5,_⟩⟩:=hu.row
     ·cases hr.1
     ·cases hr;exact h5
    obtain⟨g',r1,r2⟩:=TB (v:=.br []) h hb hu (λ_ _ _=>rfl) (dA _) rfl rfl rfl (.inl rfl) hu.row (cs':=cs++bY []) (by simpa[bY] using h2) LC Ai
    refine⟨_,g',_,w,rfl,?_,r1,r2,λ_ _=>trivial,dx⟩;rw[nV];exact w5 (P:=P) (ty:=ty) ht hn _ (some ⟨c,0,none⟩) len cap rfl Bc ad oM w
   ·obtain⟨ad,cy,nV,j_⟩:=gq.form;obtain⟨a0,news,rfl,ef,gw⟩:=j_ cH;have sk:0<ys.length:=K6.2 cH;have lf:news.length=ys.length * i.size:=by rw[<- ef.len,qJ gq.sized,sU]
    have ry:bK g (bY ys) news:=by rw[eU];exact ef
    have di:bK g (cs++bY ys) (vs++news):=by
     refine⟨by simp only[aU,h2.len,ry.len],λj q hq=>?_,λj q v' hq k_=>?_⟩
     ·rcases eM j cs.length with h4|h4
      ·rw[gb h4] at hq;exact h2.one j q hq
      ·rw[fI h4] at hq;exact ry.one _ q hq
     ·rcases eM j cs.length with h4|h4
      ·rw[gb h4] at hq;rw[gb (by rw[<- h2.len];exact h4)] at k_
       exact h2.rel j q v' hq k_
      ·rw[fI h4] at hq;rw[fI (by rw[<- h2.len];exact h4),<- h2.len] at k_
       exact ry.rel _ q v' hq k_
    obtain⟨B8,hr|⟨c',oM,cur,hr,_,lg,Bc,rq,nL,mq⟩⟩:=id hu.row
    ·cases hr.1
    cases hr;have hlen:(vs++news).length=(len+ys.length) * n:=by rw[aU,B8,lf,sU,ue]
    by_cases Ft:len+ys.length<=cap
    ·have Iq:len * i.size+news.length<=cur.size:=by rw[lf,sU,nL,<- ue];exact K5 _ Ft
     have cw:=run_append_room (P:=P) w t ty e i ht hi c len cap cur lg a0 ys.length cy news lf gw ef.pQ Ft Iq;rw[sU] at cw Iq;have cj:(w.setRow c (cur.toList.take (len * n)++news++cur.toList.drop (len * n+news.length)).toArray).ownsRow 0 e n (.slice (some ⟨c,0,none⟩) (len+ys.length) cap) (len+ys.length) (vs++news):=by
      refine⟨hlen,.inr ⟨c,cap,_,rfl,ec _,setRow_heap w c cur _ e _ lg,Ft,rq,?_,?_⟩⟩
      ·simp only[List.size_toArray,aU,uL,List.length_drop,AJ];omega
      ·rw[mq,<- hlen];exact List.take_left
     obtain⟨g',r1,r2⟩:=TB (v:=.br ys) h hb hu (λk _ hk=>setRow_other w c k _ hk) (Nat.le_of_eq (setRow_size w c _).symm) rfl rfl rfl (.inl rfl) cj di LC Ai;refine⟨_,g',_,_,rfl,?_,r1,r2,λ_ _=>trivial,dx⟩;rw[nV];exact cw
    ·have cj:=y6 (w:=w) (e:=e) (old:=cap) (k:=len+ys.length) (sz:=n) (z:=z) (arr:=vs.toArray++news.toArray) (vs:=vs++news) (by simp) hlen EN m1
     obtain⟨g',r1,r2⟩:=TB (v:=.br ys) h hb hu (λk hk _=>heap_alloc_old w.drew _ hk) (by simp) rfl rfl rfl (.inr rfl) cj di LC Ai
     refine⟨_,g',_,_,rfl,?_,r1,r2,λ_ _=>trivial,dx⟩;rw[nV];exact run_append_grow (P:=P) w t ty e i z ht hi hz ⟨c,0,none⟩ len cap vs (by rw[B8,sU]) (hu.row.cells rfl) a0 ys.length cy news lf gw (by omega) (by simp only[maxLen] at m1;omega) (growslice_fits (by omega) m2)
 ·rename_i b off len cap;split at aC<;>try (cases aC;done)
  rename_i cs tt hb;split at aC
  ·rename_i hc;simp only[c_,qA,jd,bq,cq] at aC;obtain⟨rfl,rfl⟩:=aC;simp only[d_] at hc;obtain⟨⟨⟨⟨⟨⟨c1,c2⟩,c3⟩,c4⟩,c5⟩,c6⟩,oO⟩:=hc;have c1:=eG c1;have c2:=eG c2;have c3:=eG c3;have c4:=eG c4;have c5:=r_ c5;have c6:=r_ c6;subst c1;subst c2;subst c3;rw[eU] at c4 ⊢;have iU:b<s.H.az.length:=by simp only[Hp.get,zg] at hb;exact(cZ.1 hb).1
   have dx:(V.sr b 0 (len+ys.length) cap).top<=((s.H.set b (.cells (storeCells cs len ((zH ys).map aV)) tt)).bQ b (.br ((zH ys).map aV))).az.length:=by
    rw[zgY];simp only[V.top];omega
   generalize JT:a.eval x=TC at x1;cases x1 with
   | sr Bc =>
    obtain⟨arr,a1,a2,a3,a4⟩:=xh h hb;have od:cs.length=arr.size:=by have:=a2.len;simpa using this
    obtain⟨ad,cy,nV,j_⟩:=gq.form;have bR:aI ((zH ys).map aV)<=s.H.az.length:=by
     rw[eO];exact cN yk gq.aI
    have gG:∀q∈(zH ys).map aV,aV q=q:=λq hq=>by
     obtain⟨q',_,rfl⟩:=mg.1 hq;exact zlz q'
    by_cases cH:ys=[]
    ·subst cH;have:=WE (news:=[]) (off:=len) h hb a1 a2 a3 a4 (L:=[]) ⟨rfl,λ_ _ e=>by simp at e,λ_ _ _ e=>by simp at e⟩ (λq hq=>by cases hq) (ec _) (by simp at c6 ⊢;omega) (by simp[wz])
     have e1:(w.setRow (g.bO b) (storeCells arr.toList len []).toArray)=w:=by
      show w.setRow (g.bO b) arr.toList.toArray=w;rw[Array.toArray_toList];exact setRow_self w _ arr _ _ a1
     rw[e1] at this;refine⟨_,g,_,w,rfl,?_,by simpa[zH] using this,.sr (by simpa using Bc),λ_ _=>trivial,dx⟩
     rw[nV];exact w5 (P:=P) (ty:=ty) ht hn _ (some ⟨g.bO b,0,none⟩) len cap rfl Bc ad _ w
    ·obtain⟨a0,news,rfl,ef,gw⟩:=j_ cH;have lf:news.length=ys.length:=by rw[<- ef.len,qJ gq.sized,JN]
     have cw:=run_append_room (P:=P) w t ty tt i ht hi (g.bO b) len cap arr a1 a0 ys.length cy news (by rw[lf,sU,JN]) gw ef.pQ c5 (by rw[lf,sU];omega)
     have di:=WE (off:=len) h hb a1 a2 a3 a4 (L:=(zH ys).map aV) (news:=news) ef.Af gG bR (by rw[c4];exact c6) (by rw[c4];exact oO)
     have nq:arr.toList.take (len * i.size)++news++arr.toList.drop (len * i.size+news.length)=storeCells arr.toList len news:=by
      rw[sU,JN];have oP:arr.toList=arr.toList.take len++(arr.toList.drop len).take ys.length++arr.toList.drop (len+ys.length):=by
       rw[a_,<- List.drop_drop,Co,Co]
      have hlen:(arr.toList.take len).length=len:=by rw[uL,AJ];omega
      have:=kR news ((arr.toList.drop len).take ys.length) (arr.toList.take len) (arr.toList.drop (len+ys.length)) (by have hL:arr.toList.length=arr.size:=AJ;simp only[uL,List.length_drop];omega)
      rw[hlen,<- oP] at this;rw[this,lf]
     rw[nq] at cw;refine⟨_,g,_,_,rfl,?_,di,.sr (by omega),λ_ _=>trivial,dx⟩
     rw[nV];exact cw
  ·rename_i eH;split at aC<;>try (cases aC;done)
   rename_i xs pz;split at aC<;>try (cases aC;done)
   rename_i hc;simp only[c_,qA,qn,bq,cq] at aC;obtain⟨rfl,rfl⟩:=aC;simp only[d_] at hc;obtain⟨⟨⟨c1,c2⟩,c3⟩,Ed⟩:=hc;have c1:=eG c1;have c2:=r_ c2;have c3:=r_ c3;obtain⟨m1,m2⟩:=ru _ Ed;have LD:=yl h hn pz x1 x3;obtain⟨ad1,TD,iV,LF⟩:=LD.form;have hxn:xs≠[]:=λe=>by rw[e] at c1;simp at c1;omega
   obtain⟨a1,Bh,rfl,pN,Is⟩:=LF hxn;have oc:TD=cap/\len<=cap:=by
    rw[iV] at x1;cases x1 with
    | sr Bc=>exact⟨rfl,Bc⟩
   obtain⟨rfl,Bc⟩:=oc;obtain⟨ad,cy,nV,j_⟩:=gq.form;have sk:0<ys.length:=by omega
   have cH:ys≠[]:=λe=>by rw[e] at sk;simp at sk
   obtain⟨a0,news,rfl,ef,gw⟩:=j_ cH;have lf:news.length=ys.length * i.size:=by rw[<- ef.len,qJ gq.sized,sU]
   have Ec:Bh.length=len * i.size:=by rw[<- pN.len,qJ LD.sized,sU,c1]
   have h2:bK g (bY xs) Bh:=by rw[eU];exact pN
   have ry:bK g (bY ys) news:=by rw[eU];exact ef
   have di:bK g (bY xs++bY ys) (Bh++news):=by
    refine⟨by simp only[aU,h2.len,ry.len],λj q hq=>?_,λj q v' hq k_=>?_⟩
    ·rcases eM j (bY xs).length with h4|h4
     ·rw[gb h4] at hq;exact h2.one j q hq
     ·rw[fI h4] at hq;exact ry.one _ q hq
    ·rcases eM j (bY xs).length with h4|h4
     ·rw[gb h4] at hq;rw[gb (by rw[<- h2.len];exact h4)] at k_
      exact h2.rel j q v' hq k_
     ·rw[fI h4] at hq;rw[fI (by rw[<- h2.len];exact h4),<- h2.len] at k_
      exact ry.rel _ q v' hq k_
   have hlen:(Bh++news).length=(len+ys.length) * n:=by rw[aU,Ec,lf,sU,ue]
   have cj:=y6 (w:=w) (e:=e) (old:=TD) (k:=len+ys.length) (sz:=n) (z:=z) (arr:=Bh.toArray++news.toArray) (vs:=Bh++news) (by simp) hlen EN m1
   have Ai:aI (bY xs++bY ys)<=s.H.az.length:=by
    refine qK λq hq=>?_;rcases sw.1 hq with hq|hq
    ·rw[eU] at hq;exact cN (xX hq) LD.aI
    ·rw[eU] at hq;exact cN (xX hq) gq.aI
   obtain⟨g',r1,r2⟩:=zly (w':=w.drew.alloc (.cells (Bh.toArray++news.toArray++Builtin.zeroCells z.cells (grownCap w (len+ys.length) TD e - (len+ys.length))) e)) h rfl rfl rfl rfl Be cj di Ai;refine⟨_,g',_,_,rfl,?_,r1,r2,λ_ _=>trivial,by simp[V.top,Hp.push]⟩
   rw[iV,nV,c1];exact run_append_grow (P:=P) w t ty e i z ht hi hz a1 len TD Bh Ec Is a0 ys.length cy news lf gw (by omega) (by simp only[maxLen] at m1;omega) (growslice_fits (by omega) m2)
 ·cases aC
theorem zlA{cx:Cx}(hP:cx.P=P)(h:Rel B g s a w){t t2 ty:aB}{x y:aW}{r:OR}{s':St}(aC:cx.sJ t x y s.env s.H s.lk s.defers=some (r,s')) :
  ∃v g' cv w',r=.val v/\(Builtin.copy_ #[t,t2] ty #[a.eval x,a.eval y]).run P w=.ok cv w'/\Rel B g' s' a w'/\aR g' v cv/\(∀n l,cL g' n w' l v cv)/\v.top<=s'.H.az.length:=by
 unfold Cx.sJ at aC;rw[hP] at aC;simp only[Option.bind_eq_bind,eF] at aC;obtain⟨td,ht,aC⟩:=aC;split at aC<;>try (cases aC;done)
 rename_i e;simp only[eF] at aC;obtain⟨n,hn,yv,hy,ys,tQ,xv,hx,aC⟩:=aC;obtain⟨y1,y3,_⟩:=zI h hy;obtain⟨x1,x3,x4⟩:=zI h hx;clear x4;have gq:=yl h hn tQ y1 y3;split at aC<;>try (cases aC;done)
 rename_i b off len cap;split at aC<;>try (cases aC;done)
 rename_i cs tt hb;split at aC<;>try (cases aC;done)
 rename_i hc;simp only[c_,jd,bq,cq] at aC;obtain⟨rfl,rfl⟩:=aC;simp only[d_] at hc;obtain⟨⟨⟨c1,c2⟩,c3⟩,oO⟩:=hc;have c1:=eG c1;have c2:=eG c2;have c3:=r_ c3;subst c1;rw[eU] at c2;have Bi:(P.info? e).map (·.size)=some 1:=hn;generalize hm:min len ys.length=m at c2 c3 oO ⊢;generalize JT:a.eval x=TC at x1;cases x1 with
 | sr Bc =>
  obtain⟨arr,a1,a2,a3,a4⟩:=xh h hb;have od:cs.length=arr.size:=by have:=a2.len;simpa using this
  have iU:b<s.H.az.length:=by simp only[Hp.get,zg] at hb;exact(cZ.1 hb).1
  obtain⟨ad,cy,nV,j_⟩:=gq.form;obtain⟨news,dX,cw⟩:∃news,bK g ((zH (ys.take m)).map aV) news/\(Builtin.copy_ #[t,t2] ty #[.slice (some ⟨g.bO b,off,none⟩) len cap,a.eval y]).run P w=.ok (goInt m) (w.setRow (g.bO b) (storeCells arr.toList off news).toArray):=by
   by_cases cH:ys=[]
   ·subst cH;have Dr:m=0:=by rw[<- hm];simp
    subst Dr;refine⟨[],⟨by simp[zH],λ_ _ e=>by simp[zH] at e,λ_ _ _ e=>by simp[zH] at e⟩,?_⟩
    rw[nV];have e1:(w.setRow (g.bO b) (storeCells arr.toList off []).toArray)=w:=by
     show w.setRow (g.bO b) arr.toList.toArray=w;rw[Array.toArray_toList];exact setRow_self w _ arr _ _ a1
    rw[e1];simp only[z4,mQ] at hn;obtain⟨i,hi,Aj⟩:=hn;cases ad<;>simp[Builtin.copy_,run_underlying ht,Builtin.lenOf,Builtin.firstCells,sizeOf,typeInfo,hi,Go.storeCells,loadCells,loadCellsFrom]
   ·obtain⟨a0,news,rfl,ef,gw⟩:=j_ cH;have lf:news.length=ys.length:=by rw[<- ef.len,qJ gq.sized];simp
    have B_:m<=ys.length:=by omega
    have G8:zH (ys.take m)=(zH ys).take m:=by
     have h1:zH ys=zH (ys.take m)++zH (ys.drop m):=by rw[<- xY,Co]
     have h2:(zH (ys.take m)).length=m:=by rw[qJ (sz:=1) λy hy=>gq.sized y (Cq hy)];simp;omega
     rw[h1,List.take_append_of_le_length (by omega)];exact(r9 (by omega)).symm
    refine⟨news.take m,by rw[G8];exact(ef.take m).Af,?_⟩
    have G9:=run_copy_row P w t t2 ty e (g.bO b) off len cap a0 ys.length cy arr tt (news.take m) ht Bi a1 (by rw[uL,lf,<- hm];show min (min len ys.length) ys.length=min ys.length len;omega) (λj v hv=>gw j v (by
     rw[AK] at hv;split at hv
     ·exact hv
     ·cases hv)) (by rw[uL,lf];omega) (ef.take m).pQ
    rw[nV,G9];have e1:(news.take m).length=m:=by rw[uL,lf];omega
    have nq:arr.toList.take off++news.take m++arr.toList.drop (off+(news.take m).length)=storeCells arr.toList off (news.take m):=by
     have oP:arr.toList=arr.toList.take off++(arr.toList.drop off).take m++arr.toList.drop (off+m):=by
      rw[a_,<- List.drop_drop,Co,Co]
     have hlen:(arr.toList.take off).length=off:=by rw[uL,AJ];omega
     have:=kR (news.take m) ((arr.toList.drop off).take m) (arr.toList.take off) (arr.toList.drop (off+m)) (by rw[uL,List.length_drop,AJ];omega)
     rw[hlen,<- oP] at this;rw[this,e1]
    rw[nq,e1]
  have lf:news.length=m:=dX.len.symm.trans c2;simp only[eU];generalize hL:(zH (ys.take m)).map aV=L at *;have WG:aI L<=s.H.az.length:=by
   rw[<- hL,eO];exact cN yk (cN (Wz _ _) gq.aI)
  refine⟨_,g,_,_,rfl,cw,WE h hb a1 a2 a3 a4 dX (λq hq=>?_) WG (by omega) (by rw[c2];exact oO),.int _ _,λ_ _=>trivial,ec _⟩
  rw[<- hL] at hq;obtain⟨q',_,rfl⟩:=mg.1 hq;exact zlz q'
end
section
variable{P:aQ}{B:dR}{g:Gh}{s:St}{a:Act}{w:aP}
structure oT(P:aQ)(cx:Cx)(B:dR):Prop where
 prog:cx.P=P
 num:yB P
 WH:vd P
 gl:ij P cx.gl B.g
 calls:∃d,d<B.d/\xB P cx.gl cx.call d
theorem fo.ends{s':St}{o:Oper}{v:V}(hv:fo P B s' a w o v){r:OR}(hr:r=.val v){K:Act->aP->Prop}{Q:Exit->Act->aP->Prop}(hE:Ends P B o r s' K Q):o.wp P a w K Q :=
 zpG hv λg' cv w' hk=>hE.val v hr g' cv a w' hk
theorem oS.ends{s':St}{o:Oper}(hv:oS P B s' a w o){r:OR}(hr:r=.skip){K:Act->aP->Prop}{Q:Exit->Act->aP->Prop}(hE:Ends P B o r s' K Q):o.wp P a w K Q :=
 wp_skip hv λg' w' hk=>hE.skip hr g' a w' hk
theorem WJ(h:Rel B g s a w){xs:sg}{vs:aD}(hp:av s.env xs.toList=some vs):vs.length=(xs.map a.eval).size/\(∀(j:Nat)(x:V)(v:bt),vs[j]?=some x->(xs.map a.eval)[j]?=some v->aR g x v)/\aI vs<=s.H.az.length:=by
 obtain⟨h1,h2,h3,_⟩:=Tq h hp;refine⟨by simp[h1],λj x v hx hv=>h2 j x v hx ?_,h3⟩
 rw[<- E9] at hv;simpa using hv
theorem Iu{cx:Cx}(iV:oT P cx B)(h:Rel B g s a w){takes:cg}{o:Oper}{r:OR}{s':St}(aC:cx.op takes o s.env s.H s.lk s.defers=some (r,s')){K:Act->aP->Prop}{Q:Exit->Act->aP->Prop}(hE:Ends P B o r s' K Q):o.wp P a w K Q:=by
 obtain⟨hP,fQ,dP,rN,d,hd,dj⟩:=iV;subst hP;have Fv:ij cx.P cx.gl g:=rN.le h.fr.le;have read:∀v,je cx.P cx.gl o s.env s.H=some v->r=.val v->s'=s->o.wp cx.P a w K Q:=by
  intro v hv hr hs;subst hs;exact fo.ends (V9 h Fv hv) hr hE
 have uQ:(match je cx.P cx.gl o s.env s.H with|none=>none|some v=>some (OR.val v,(⟨s.env,s.H,s.lk,s.defers⟩:St)))=some (r,s')->o.wp cx.P a w K Q:=by
  intro hh;split at hh<;>simp only[bq,reduceCtorEq,cq] at hh;rename_i v hv;exact read v hv hh.1.symm hh.2.symm
 unfold Cx.op at aC;simp only at aC;split at aC
 ·rename_i x ho;split at aC
  ·split at aC<;>simp only[bq,reduceCtorEq,cq] at aC;rename_i v cW ht;obtain⟨rfl,rfl⟩:=aC;exact(zgS h ht (.inl ho)).ends rfl hE
  ·exact uQ aC
 next x ho=>split at aC<;>simp only[bq,reduceCtorEq,cq] at aC;rename_i v cW ht;obtain⟨rfl,rfl⟩:=aC;exact(zgS h ht (.inr ho)).ends rfl hE
 ·rename_i t p ho;split at aC
  ·exact uQ aC
  ·split at aC<;>try (cases aC;done)
   rename_i b off Fm hp;split at aC<;>try (cases aC;done)
   rename_i cs ty hb;split at aC<;>try (cases aC;done)
   next sz xs e hc=>simp only[fm,jd,bq,cq] at aC;obtain⟨rfl,rfl⟩:=aC;rw[zg] at hc;have:=znJ h Fm hp hb hc ho;refine fo.ends (v:=.sl sz xs (.yes e)) ?_ rfl hE;simpa[Hp.bQ,V.top] using this
   ·rename_i hc;simp only[bq,cq] at aC;obtain⟨rfl,rfl⟩:=aC;rw[zg] at hc;have hl:zk cx.P s.H cx.gl t (.ptr b off)=some .aG:=by
     simp[zk,hb,wg,Fm,zg,hc]
    have N3:je cx.P cx.gl o s.env s.H=some .aG:=by
     obtain⟨dst,op,type,pos,after,guard⟩:=o;simp only at ho;subst ho;simp[je,hp,hl,aV]
    exact fo.ends (V9 h Fv N3) rfl hE
   ·rename_i c9 u9 n9 hc;simp only[bq,cq] at aC;obtain⟨rfl,rfl⟩:=aC;rw[zg] at hc;have hl:zk cx.P s.H cx.gl t (.ptr b off)=some (.dB c9 u9 n9):=by
     simp[zk,hb,wg,Fm,zg,hc]
    have N3:je cx.P cx.gl o s.env s.H=some (.dB c9 u9 n9):=by
     obtain⟨dst,op,type,pos,after,guard⟩:=o;simp only at ho;subst ho;simp[je,hp,hl,aV]
    exact fo.ends (V9 h Fv N3) rfl hE
 ·rename_i t ho;split at aC<;>try (cases aC;done)
  rename_i z hz;split at aC<;>try (cases aC;done)
  rename_i ej;simp only[qp,qn,bq,cq] at aC;obtain⟨rfl,rfl⟩:=aC;exact(zlt h hz (by simpa using ej) ho).ends rfl hE
 ·rename_i t x ho;split at aC<;>try (cases aC;done)
  rename_i v cW ht;split at aC<;>try (cases aC;done)
  rename_i ej;simp only[qp,c_,qn,bq,cq] at aC;obtain⟨rfl,rfl⟩:=aC;exact(zpF h ht (by simpa using ej) ho).ends rfl hE
 ·rename_i t p x ho;split at aC<;>try (cases aC;done)
  ·rename_i b off hp;split at aC<;>try (cases aC;done)
   rename_i v cW n cs ty ht hn hb;simp only[qp,c_,eC,jd] at aC;split at aC<;>simp only[bq,reduceCtorEq,cq] at aC;rename_i hc;obtain⟨rfl,rfl⟩:=aC;simp only[d_] at hc;obtain⟨g',w',h1,h2⟩:=zlr h hp ht hn hb hc.1.1.1 (eG hc.1.1.2) (r_ hc.1.2) hc.2;exact oS.ends ⟨g',w',by simp[execOp,ho,h1],h2⟩ rfl hE
  ·rename_i b u k hp;split at aC<;>try (cases aC;done)
   rename_i xv cW n eI sz cs e hx hn hb;simp only[qp,eC,jd] at aC;split at aC<;>simp only[bq,reduceCtorEq,cq] at aC;rename_i hc;obtain⟨rfl,rfl⟩:=aC;simp only[d_] at hc;have hv:=eG hc.1.1.1;subst hv;obtain⟨g',w',h1,h2⟩:=zkw h hp hx rfl hn hb hc.1.1.2 (eG hc.1.2) (r_ hc.2);exact oS.ends ⟨g',w',by simp[execOp,ho,h1],h2⟩ rfl hE
 ·rename_i t rr ho;split at aC<;>try (cases aC;done)
  simp only[qn,bq,cq] at aC;obtain⟨rfl,rfl⟩:=aC;exact(zic h ho).ends rfl hE
 ·rename_i t l c ho;split at aC<;>try (cases aC;done)
  rename_i e k lv k' cv ht hl hc;split at aC<;>try (cases aC;done)
  rename_i n i z hn hi hz;split at aC<;>try (cases aC;done)
  rename_i rR;have hm:=zfE h ht hl hc hn hi hz (Bool.eq_false_iff.2 rR) ho;split at aC
  ·simp only[c_,qA,qn,bq,cq] at aC;obtain⟨rfl,rfl⟩:=aC;exact hm.2.ends rfl hE
  split at aC
  next h0=>simp only[bq,cq] at aC;obtain⟨rfl,rfl⟩:=aC;exact(hm.1 h0).ends rfl hE
  ·split at aC<;>try (cases aC;done)
   simp only[c_,qn,bq,cq] at aC;obtain⟨rfl,rfl⟩:=aC;exact hm.2.ends rfl hE
 ·rename_i t m k x ho;split at aC<;>try (cases aC;done)
  rename_i b kv v hm hk hx;split at aC<;>try (cases aC;done)
  rename_i tU;simp only[qp,eC,jd] at aC;split at aC<;>try (cases aC;done)
  rename_i es hb;split at aC<;>simp only[bq,reduceCtorEq,cq] at aC;rename_i iC hs;obtain⟨rfl,rfl⟩:=aC;obtain⟨w',h1,h2⟩:=zbD h hm hk hx (by simpa using tU) hb hs
  exact oS.ends ⟨g,w',by simp[execOp,ho,h1],h2⟩ rfl hE
 ·rename_i t m k x ho;split at aC<;>try (cases aC;done)
  rename_i b kv v hm hk hx;split at aC<;>try (cases aC;done)
  rename_i tU;simp only[qp,eC,jd] at aC;split at aC<;>try (cases aC;done)
  rename_i es hb;split at aC<;>simp only[bq,reduceCtorEq,cq] at aC;rename_i iC hs;obtain⟨rfl,rfl⟩:=aC;obtain⟨w',h1,h2⟩:=zbD h hm hk hx (by simpa using tU) hb hs
  exact oS.ends ⟨g,w',by simp[execOp,ho,h1],h2⟩ rfl hE
 ·rename_i t x ho;split at aC<;>try (cases aC;done)
  rename_i l ht hx;simp only[qn,bq,cq] at aC;obtain⟨rfl,rfl⟩:=aC;exact(zlu h ht hx ho).ends rfl hE
 ·rename_i it ho;split at aC<;>try (cases aC;done)
  rename_i b hi;split at aC<;>try (cases aC;done)
  rename_i l pos hb;have hn:=znH (P:=cx.P) h hi hb o.type;split at aC
  next bR=>rw[if_pos bR] at hn;obtain⟨cv,w',h1,h2,h3⟩:=hn;simp only[qA,jd,bq,cq] at aC;obtain⟨rfl,rfl⟩:=aC;exact fo.ends ⟨g,cv,w',by simp[execOp,ho,h1],h3,h2,λ_ _=>trivial,by simp[V.top,aI]⟩ rfl hE
  next bR=>rw[if_neg bR] at hn;obtain⟨cv,h1,h2⟩:=hn;simp only[bq,cq] at aC;obtain⟨rfl,rfl⟩:=aC;exact fo.ends ⟨g,cv,w,by simp[execOp,ho,h1],h,h2,λ_ _=>trivial,by simp[V.top,aI]⟩ rfl hE
 ·rename_i src dst x ho;split at aC
  next v cW hv=>simp only[bq,cq] at aC;obtain⟨rfl,rfl⟩:=aC;exact(znI (P:=cx.P) h hv ho).ends rfl hE
  ·split at aC
   ·split at aC<;>simp only[bq,reduceCtorEq,cq] at aC;rename_i v hv;obtain⟨rfl,rfl⟩:=aC;cases hx:ak s.env x with
    | none=>rw[hx] at hv;cases hv
    | some u =>
     rw[hx] at hv;obtain⟨u1,u2,_⟩:=zI h hx;simp only[Lc] at hv;split at hv<;>try (cases hv;done)
     rename_i u' ny
     by_cases TE:∃b o l c,u=.sr b o l c
     ·obtain⟨b,off,len,cap,rfl⟩:=TE;exact fo.ends (zlq (P:=cx.P) h ny hv u1 u2 ho) rfl hE
     ·obtain rfl:u=u':=by
       have:=zjb (P:=cx.P) (H:=s.H) (a:=src) (v:=u) λb o l c e=>TE ⟨b,o,l,c,e⟩;rw[this] at ny;exact Ct ny
      refine uQ ?_;rw[show je cx.P cx.gl o s.env s.H=some v by simp[je,ho,hx,hv]]
   ·exact uQ aC
 ·rename_i t x lo hi ho;split at aC
  ·rename_i hf;split at aC<;>simp only[bq,reduceCtorEq,cq] at aC;rename_i v cW hv;obtain⟨rfl,rfl⟩:=aC;obtain rfl:hi=none:=by unfold xA at hf;split at hf<;>first|rfl|cases hf
   exact(zlw (P:=cx.P) h hv ho).ends rfl hE
  ·split at aC
   ·obtain⟨v,e1,e2⟩:=zku rfl h aC ho;exact e2.ends e1 hE
   ·exact uQ aC
 ·rename_i c ho;split at aC
  ·rename_i b gF;have plain:(match cx.builtin b c.argTypes c.args s.env s.H with|none=>none|some (r,env)=>some (r,(⟨env,s.H,s.lk,s.defers⟩:St)))=some (r,s')->o.wp cx.P a w K Q:=by
    intro aC;split at aC<;>simp only[bq,reduceCtorEq,cq] at aC;rename_i r' cW hb;obtain⟨rfl,rfl⟩:=aC;obtain⟨v,hv,ej⟩:=zie rfl h hb ho gF rfl rfl;exact ej.ends hv hE
   split at aC
   ·rename_i x y t ts fD CI;obtain⟨v,g',cv,w',e1,e2,e3,e4,e5,e6⟩:=zlA (t2:=ts.headD 0) (ty:=o.type) rfl h aC;have ea:=rQ fD;have cw:(execOp a.eval o).run cx.P w=.ok (.value cv) w':=by
     have:(Builtin.copy_ c.argTypes o.type #[a.eval x,a.eval y]).run cx.P w=.ok cv w':=by
      rw[<- e2];have:c.argTypes[0]?=some t:=by rw[<- E9,CI];rfl
      simp[Builtin.copy_,this]
     simp[execOp,ho,resolve,gF,ea,invoke,builtin,this]
    exact fo.ends ⟨g',cv,w',cw,e3,e4,λ_ _=>e5 _ _,e6⟩ e1 hE
   ·rename_i x y t u fD CI;split at aC
    ·split at aC<;>try (cases aC;done)
     rename_i Ly;have Ly:=eG Ly;subst Ly;obtain⟨v,g',cv,w',e1,e2,e3,e4,e5,e6⟩:=zif (ty:=o.type) rfl h aC;have ea:=rQ fD;have et:=zlx CI;have cw:(execOp a.eval o).run cx.P w=.ok (.value cv) w':=by
      simp[execOp,ho,resolve,gF,ea,et,invoke,builtin,e2]
     exact fo.ends ⟨g',cv,w',cw,e3,e4,λ_ _=>e5 _ _,e6⟩ e1 hE
    ·exact plain aC
   ·exact plain aC
  ·rename_i f gF;split at aC<;>try (cases aC;done)
   rename_i fv args hf ha;split at aC<;>simp only[bq,reduceCtorEq,cq] at aC;rename_i r' H' hc;obtain⟨rfl,rfl⟩:=aC;obtain⟨f1,f2,_⟩:=zI h hf;obtain⟨a1,a2,a3⟩:=WJ h ha;have j_:∃fn fa fc,a.eval f=.func fn fa fc:=by
    unfold Cx.mz at hc;split at hc
    ·generalize a.eval f=c at f1;cases f1;exact⟨_,_,_,rfl⟩
    ·generalize a.eval f=c at f1;cases f1;exact⟨_,_,_,rfl⟩
    ·cases hc
   obtain⟨fn,fa,fc,TF⟩:=j_;rw[TF] at f1;refine zgV rfl fQ dP hd rN dj h hc f1 f2 a1 a2 a3 ?_ hE;simp[execOp,ho,resolve,gF,TF,Deferred.ofValue]
  ·rename_i rcv m gF;split at aC<;>try (cases aC;done)
   rename_i rv args hf ha;split at aC<;>simp only[bq,reduceCtorEq,cq] at aC;rename_i r' H' hc;obtain⟨rfl,rfl⟩:=aC;obtain⟨f1,f2,_⟩:=zI h hf;obtain⟨a1,a2,a3⟩:=WJ h ha
   refine zgV (fn:=.method m) (fa:=#[]) (fc:=#[]) (bx:=#[a.eval rcv]++c.args.map a.eval) rfl fQ dP hd rN dj h hc (.fn rfl rfl (λ_ _ _ e=>by simp at e) (λ_ _ _ e=>by simp at e)) (by simp[V.top,aI]) (by simp at a1 ⊢;omega) ?_ (uf.2 ⟨f2,a3⟩) ?_ hE
   ·exact vB (l:=[rv]) (x:=#[a.eval rcv]) rfl (λj z v hz hv=>by
     cases j with
     | zero=>simp at hz hv;subst hz;subst hv;exact f1
     | succ j=>simp at hz) a2
   ·simp[execOp,ho,resolve,gF]
 ·rename_i c ho;split at aC<;>try (cases aC;done)
  rename_i f gF;split at aC<;>simp only[bq,reduceCtorEq,cq] at aC;rename_i f' first cap args hf ha
  obtain⟨rfl,rfl⟩:=aC;obtain⟨f1,f2,_⟩:=zI h hf;obtain⟨a1,a2,a3⟩:=WJ h ha;generalize TF:a.eval f=cf at f1;cases f1 with
  | fn e1 e2 e3 e4 =>
   rename_i fa fc;have ht:=uf.1 (show max (aI first) (aI cap)<=s.H.az.length from f2)
   have cw:(execOp a.eval o).run cx.P w=.ok (.defer { target:=.fn (.func f') fc,args:=fa++c.args.map a.eval }) w:=by
    simp[execOp,ho,resolve,gF,TF,Deferred.ofValue]
   unfold Oper.wp;rw[cw,Oper.upon_defer];refine hE.skip rfl g { a with defers:={ target:=.fn (.func f') fc,args:=fa++c.args.map a.eval }::a.defers } w ?_
   refine { cX:=h.cX,len:=h.len,env:=h.env,dO:=h.dO,n0:=h.n0,bG:=h.bG,dY:=h.dY,fr:=h.fr,lP:=h.lP,ou:=h.ou,cR:=h.cR,eE:=by simp[h.eE],defers:=λj x q hx hq=>?_,marks:=λd hd D hD=>(by rcases dG.1 hd with e|AR;{ subst e;cases hD };{ exact h.marks d AR D hD }),nG:=.cons (λ_ _ D hD=>nomatch hD) h.nG }
   cases j with
   | zero =>
    simp only[K2,bq] at hx hq;subst hx;subst hq;exact .inl ⟨f',first,cap,fc,rfl,rfl,by rw[aU,e1,Array.size_append,a1],e2,vB e1 e3 a2,e4,wD ht.1 a3,ht.2⟩
   | succ j=>exact h.defers j x q (by simpa using hx) (by simpa using hq)
 ·rename_i x ho;split at aC<;>simp only[bq,reduceCtorEq,cq] at aC;rename_i t v hx;obtain⟨rfl,rfl⟩:=aC;obtain⟨x1,x2,_⟩:=zI h hx;generalize JT:a.eval x=TC at x1;cases x1 with
  | dF hv =>
   rename_i cv;unfold Oper.wp;have:(execOp a.eval o).run cx.P w=.halt (.panic (.iface t cv)) w:=by
    simp[execOp,ho,JT,Instr.panic,goPanic]
   rw[this,Oper.upon_panic];exact hE.p9 _ rfl g (.iface t cv) a w h (.dF hv) x2
 ·exact uQ aC
end
section
variable{P:aQ}{B:dR}{g:Gh}{s:St}{a:Act}{w:aP}
def WK(g:Gh)(n:Nat):Ex->Exit->Prop
 | .normal,.normal=>True
 | .exit i,.exit j=>i=j
 | .goto i,.goto j=>i=j
 | .ret,.ret=>True
 | .p9 v,.panic chain=>∃cv,chain=[{ v:=cv,recovered:=false }]/\aR g v cv/\v.top<=n
 | _,_=>False
def vQ(B:dR)(ex:Ex)(s':St):Exit->Act->aP->Prop:=λe a w=>∃g,Rel B g s' a w/\WK g s'.H.az.length ex e
theorem ym(h:Rel B g s a w){ops:Array Oper}{o:Oper}{b:Bool}(hw:zY ops o s.env=some b):Region.wanted o (yielded ops a.tmps)=b:=by
 unfold zY at hw;unfold Region.wanted;split at hw
 next hg=>simp only[bq] at hw;rw[hg,<- hw]
 ·rename_i j want hg;rw[hg];simp only;split at hw<;>try (cases hw;done)
  rename_i d hd;rw[zg] at hw;unfold yielded;rw[hd];simp only[aT];split at hw<;>simp only[bq,reduceCtorEq] at hw
  next c hc=>obtain⟨cv,iT,_⟩:=h.slot hc;have hr:=(h.env d _ cv hc iT).1;cases hr;rw[iT];simp only[<- hw];cases c<;>cases want<;>rfl
  next c hc=>obtain⟨cv,iT,_⟩:=h.slot hc;have hr:=(h.env d _ cv hc iT).1;cases hr;rw[iT,<- hw];rfl
theorem yC(h:Rel B g s a w)(o:Oper):Ea B g s a w o.dst (.br []) undef :=
 ⟨h,.br rfl (λ_ _ _ e=>by simp at e),λ_ _=>trivial,ec _⟩
theorem zlB{cx:Cx}(iV:oT P cx B){all:Array Oper}{takes:cg}{ex:Ex}{s':St}{Q:Exit->Act->aP->Prop}(hQ:∀e a w,vQ B ex s' e a w->Q e a w):∀(l:List Oper)(s:St)(g:Gh)(a:Act)(w:aP),Rel B g s a w->cx.ops all takes l s=some (ex,s')->wpList P all Q l a w
 | [],s,g,a,w,h,hc=>by
  simp only[Cx.ops,bq,cq] at hc;obtain⟨rfl,rfl⟩:=hc;exact hQ _ _ _ ⟨g,h,trivial⟩
 | o::os,⟨env,H,lk,df⟩,g,a,w,h,hc=>by
  have ih:=zlB iV (all:=all) (takes:=takes) hQ os;simp only[Cx.ops] at hc;unfold wpList;split at hc<;>try (cases hc;done)
  ·rename_i hw;rw[if_neg (by rw[ym h hw];simp)]
   rw[jN] at hc;exact ih _ g _ w (wV (yC h o)) hc
  ·rename_i hw;rw[if_pos (ym h hw)]
   left
   split at hc<;>try (cases hc;done)
   next v cW H' Iv Iw aC=>rw[jN] at hc;refine Iu iV h aC ⟨λv' hv g' cv a' w' hk=>?_,(λhv=>nomatch hv),(λv' hv=>nomatch hv)⟩;cases hv;exact ih _ g' _ w' (wV hk) hc
   next cW H' Iv Iw aC=>rw[jN] at hc;refine Iu iV h aC ⟨(λv' hv=>nomatch hv),λ_ g' a' w' hk=>?_,(λv' hv=>nomatch hv)⟩;exact ih _ g' _ w' (wV (yC hk o)) hc
   next v s1 aC=>simp only[bq,cq] at hc;obtain⟨rfl,rfl⟩:=hc;refine Iu iV h aC ⟨(λv' hv=>nomatch hv),(λhv=>nomatch hv),λv' hv g' cv a' w' hk h1 h2=>?_⟩;cases hv;exact hQ _ _ _ ⟨g',hk,cv,rfl,h1,h2⟩
theorem Rel.Ix(h:Rel B g s a w):Rel B g { s with lk:=[] } a w :=
 {cX:=h.cX,len:=h.len,env:=h.env,dO:=h.dO,n0:=h.n0,bG:=h.bG,dY:=h.dY,fr:=h.fr,lP:=h.lP,ou:=λ_ hp=>by simp at hp,cR:=h.cR,eE:=h.eE,defers:=h.defers,marks:=h.marks,nG:=h.nG }
def N4(P:aQ)(cx:Cx)(B:dR):Prop:=oT P cx B->∀(id:Nat)(ops:Array Oper)(s s':St)(ex:Ex)(g:Gh)(a:Act)(w:aP),cx.draw ops s=some (ex,s')->Rel B g s a w->(Code.region id ops true).wp P (vQ B ex s') a w
def N5(P:aQ)(cx:Cx)(B:dR):Prop:=oT P cx B->∀(n:Nat)(f:aW)(ps:Array Tmp)(as bd:Code)(s s':St)(ex:Ex)(g:Gh)(a:Act)(w:aP),cx.code n (.rangeFunc f ps as bd) s=some (ex,s')->Rel B g s a w->(Code.rangeFunc f ps as bd).wp P (vQ B ex s') a w
theorem TG{B:dR}{ex:Ex}{s':St}{K:Act->aP->Prop}{Q:Exit->Act->aP->Prop}(hn:ex=.normal->∀g a w,Rel B g s' a w->K a w)(ho:ex≠.normal->∀e a w,vQ B ex s' e a w->Q e a w):∀e a w,vQ B ex s' e a w->Exit.then K Q e a w:=by
 rintro e a w ⟨g,h1,h2⟩;cases ex<;>cases e<;>first
  |(exact h2.elim)
  |(exact hn rfl g a w h1)
  | (exact ho (λe=>by cases e) _ _ _ ⟨g,h1,h2⟩)
theorem zjk{cx:Cx}(iV:oT P cx B)(eY:N4 P cx B)(hrg:N5 P cx B)(n:Nat):∀(c:Code)(s s':St)(ex:Ex)(g:Gh)(a:Act)(w:aP),cx.code n c s=some (ex,s')->Rel B g s a w->c.wp P (vQ B ex s') a w:=by
 intro c
 induction c with
 | skip =>
  intro s s' ex g a w hc h;simp only[Cx.code,bq,cq] at hc;obtain⟨rfl,rfl⟩:=hc;exact Go.wp_skip ⟨g,h,trivial⟩
 | label l =>
  intro s s' ex g a w hc h;simp only[Cx.code,bq,cq] at hc;obtain⟨rfl,rfl⟩:=hc;exact wp_label ⟨g,h,trivial⟩
 | region id ops draw =>
  intro s s' ex g a w hc h;cases draw with
  | false =>
   obtain⟨env,H,lk,df⟩:=s;simp only[Cx.code] at hc;exact wp_region_list (zlB iV (λ_ _ _ q=>q) _ _ g a w h.Ix hc)
  | true =>
   simp only[Cx.code] at hc;exact eY iV id ops s s' ex g a w hc h
 | seq x y Iy LG =>
  intro s s' ex g a w hc h;simp only[Cx.code] at hc;split at hc<;>try (cases hc;done)
  next s1 hx=>refine wp_seq (Code.wp_mono (TG (λ_ g' a' w' h'=>LG s1 s' ex g' a' w' hc h') (λe=>absurd rfl e)) (Iy s s1 .normal g a w hx h))
  next e1 s1 cH hx=>simp only[bq,cq] at hc;obtain⟨rfl,rfl⟩:=hc;refine wp_seq (Code.wp_mono (TG (λe=>absurd e ?_) (λ_ _ _ _ q=>q)) (Iy s _ _ g a w hx h));exact λe=>by simp_all
 | cond c x y Iy LG =>
  intro s s' ex g a w hc h;simp only[Cx.code] at hc;split at hc<;>try (cases hc;done)
  next hp=>have c1:=(zI h hp).1;generalize Ah:a.eval c=cc at c1;cases c1;exact wp_cond_true Ah (Iy s s' ex g a w hc h)
  next hp=>have c1:=(zI h hp).1;generalize Ah:a.eval c=cc at c1;cases c1;exact wp_cond_false Ah (LG s s' ex g a w hc h)
 | block id c ih =>
  intro s s' ex g a w hc h;simp only[Cx.code] at hc;split at hc<;>try (cases hc;done)
  ·rename_i i s1 hx;simp only[bq,cq] at hc;obtain⟨rfl,rfl⟩:=hc;refine wp_block (Code.wp_mono ?_ (ih s s1 (.exit i) g a w hx h));rintro e a' w' ⟨g',h1,h2⟩;cases e<;>first|(exact h2.elim)|skip
   rename_i j;have:i=j:=h2;subst this;simp only[Exit.inBlock];split
   next e=>subst e;exact⟨g',h1,by simp[WK]⟩
   ·rename_i e;refine⟨g',h1,?_⟩;have:Nat.beq i id=false:=by
     cases hb:Nat.beq i id with
     | false=>rfl
     | true=>exact absurd (eG hb) e
    simp[this,WK]
  ·rename_i e1 s1 cH hx;simp only[bq,cq] at hc;obtain⟨rfl,rfl⟩:=hc;refine wp_block (Code.wp_mono ?_ (ih s _ _ g a w hx h));rintro e a' w' ⟨g',h1,h2⟩;cases e with
   | exit j=>cases e1<;>first|(exact h2.elim)|(exact(cH _ rfl).elim)
   | _=>exact⟨g',h1,h2⟩
 | loop c ih =>
  intro s s' ex g a w hc h;simp only[Cx.code] at hc;refine wp_loop_rounds n ?_;have key:∀(m:Nat)(s:St)(g:Gh)(a:Act)(w:aP),Lh (cx.code n c) m s=some (ex,s')->Rel B g s a w->Code.rounds P c (vQ B ex s') m a w:=by
   intro m
   induction m with
   | zero=>intro s g a w hi;simp[Lh] at hi
   | succ m ihm =>
    intro s g a w hi h;simp only[Lh] at hi;rw[rounds_succ];split at hi<;>try (cases hi;done)
    next s1 hx=>exact Code.wp_mono (TG (λ_ g' a' w' h'=>ihm s1 g' a' w' hi h') (λe=>absurd rfl e)) (ih s s1 .normal g a w hx h)
    next e1 s1 cH hx=>simp only[bq,cq] at hi;obtain⟨rfl,rfl⟩:=hi;exact Code.wp_mono (TG (λe=>absurd e (λe=>by simp_all)) (λ_ _ _ _ q=>q)) (ih s _ _ g a w hx h)
  exact key n s g a w hc h
 | exit id =>
  intro s s' ex g a w hc h;simp only[Cx.code,bq,cq] at hc;obtain⟨rfl,rfl⟩:=hc;exact wp_exit ⟨g,h,rfl⟩
 | ret =>
  intro s s' ex g a w hc h;simp only[Cx.code,bq,cq] at hc;obtain⟨rfl,rfl⟩:=hc;exact wp_ret ⟨g,h,trivial⟩
 | scope c ih =>
  intro s s' ex g a w hc h;simp only[Cx.code] at hc;split at hc<;>try (cases hc;done)
  rename_i e1 s1 hng hx;simp only[bq,cq] at hc;obtain⟨rfl,rfl⟩:=hc;refine wp_scope_straight (Code.wp_mono ?_ (ih s _ _ g a w hx h));rintro e a' w' ⟨g',h1,h2⟩;cases e with
  | goto l=>cases e1<;>first|(exact h2.elim)|(exact(hng _ rfl).elim)|(exact(hng _ _ rfl).elim)|(simp_all;done)
  | _=>exact⟨g',h1,h2⟩
 | rangeFunc f ps as bd=>intro s s' ex g a w hc h;exact hrg iV n f ps as bd s s' ex g a w hc h
 | _=>intro s s' ex g a w hc;simp[Cx.code] at hc
end
section
variable{P:aQ}{B:dR}{g:Gh}{s:St}{a:Act}{w:aP}
theorem zeH(n:Nat):aI (List.replicate n (V.br []))=0:=by
 induction n with
 | zero=>rfl
 | succ n ih=>simp[HR,aI,V.top,ih]
theorem zgZ{H:Hp}{args:aD}{bx:dM}(hw:rj g H.az w)(ha:eP g H.az.length args bx)(d n:Nat) :
  Rel ⟨d,H.az,g,w,[]⟩ g ⟨args++List.replicate (n - args.length) (.br []),⟨H.az,[]⟩,[],[]⟩ { tmps:=bx++Array.replicate (n - bx.size) undef,defers:=[] } w:=by
 have WL:aR g (.br []) undef:=.br rfl (λ_ _ _ e=>by simp at e)
 refine { cX:=hw,len:=by simp[ha.len],env:=λt x v hx hv=>?_,dO:=λt x hx=>?_,n0:=dA _,bG:=λb x hx=>.inr (.inr ⟨x,hx,dA _⟩),dY:=λb h1 h2=>absurd h1 (Nat.not_le.2 h2),fr:=.refl _ _ _ _,lP:=λb off hl=>?_,ou:=λ_ hp=>by simp at hp,cR:=λ_ hp=>by simp at hp,eE:=rfl,defers:=(λ_ _ _ hx=>by simp at hx),marks:=(λ_ hd=>by simp at hd),nG:=.nil }
 ·rcases eM t args.length with h|h
  ·have k_:bx[t]?=some v:=by rw[Array.getElem?_append_left (by rw[<- ha.len];exact h)] at hv;exact hv
   have pL:args[t]?=some x:=by
    have:(args++List.replicate (n - args.length) (V.br []))[t]?=some x:=hx
    rwa [gb h] at this
   refine⟨ha.rel t x v pL k_,?_⟩;have:=ha.no x (zv pL);unfold cL;split
   ·exact absurd rfl (this _ _ _)
   ·trivial
  ·have pL:(List.replicate (n - args.length) (V.br []))[t - args.length]?=some x:=by
    have:(args++List.replicate (n - args.length) (V.br []))[t]?=some x:=hx
    rwa [fI h] at this
   have k_:(Array.replicate (n - bx.size) undef)[t - bx.size]?=some v:=by rw[Array.getElem?_append_right (by rw[<- ha.len];exact h)] at hv;exact hv
   rw[List.getElem?_replicate] at pL;rw[Array.getElem?_replicate] at k_;split at pL<;>simp only[bq,reduceCtorEq] at pL;split at k_<;>simp only[bq,reduceCtorEq] at k_;subst pL;subst k_;exact⟨WL,trivial⟩
 ·have pL:(args++List.replicate (n - args.length) (V.br []))[t]?=some x:=hx;refine cN (zn (zv pL)) (wD ha.top ?_);rw[zeH];exact ec _
 ·rcases hl with hl|⟨q,hq,_⟩
  ·exact hl
  ·simp at hq
def zW(n0:Nat)(es:aO)(top:Nat)(H:Hp):Hp :=
 if Nat.ble top n0 && H.bG.all (λe=>Nat.ble n0 e.1 || Nat.ble e.2 n0) then ⟨H.az.take n0,H.bG.filter (λe=>Nat.blt e.1 n0)++es⟩ else ⟨H.az,H.bG++es⟩
theorem kW{β:Type}(n0:Nat)(es:aO)(top:Nat)(H:Hp)(k:Hp->β):Ph n0 es top H k=k (zW n0 es top H):=by
 cases H;simp only[Ph,zW,eC];split<;>rfl
theorem cL.less{n n':Nat}(hn:n'<=n){l:Loc}{x:V}{cv:bt}(h:cL g n w l x cv):cL g n' w l x cv:=by
 unfold cL at *;split
 ·obtain⟨vs,h1,h2⟩:=h;exact⟨vs,h1,λc hc=>⟨(h2 c hc).1,(h2 c hc).2.1,λb hb=>(h2 c hc).2.2 b (uc hb hn)⟩⟩
 ·trivial
theorem fU.less{n n' b:Nat}(hn:n'<=n){x:aY}(h:fU g n w b x):fU g n' w b x:=by
 cases x with
 | cells cs t =>
  obtain⟨arr,h1,h2,h3⟩:=h;exact⟨arr,h1,h2,λj x v hx hv=>⟨(h3 j x v hx hv).1,(h3 j x v hx hv).2.1,(h3 j x v hx hv).2.2.1.less hn,(h3 j x v hx hv).2.2.2⟩⟩
 | map es=>exact h
 | iter l p=>exact h
 | ul eI sz cs e =>
  obtain⟨c,len,cap,vs,hu⟩:=h;exact⟨c,len,cap,vs,{ hu with others:=λb' cY=>hu.others b' (uc cY hn) }⟩
theorem WM{d:Nat}{H0:Hp}{g0:Gh}{w0:aP}(AS:rj g0 H0.az w0)(h:Rel ⟨d,H0.az,g0,w0,[]⟩ g s a w){top:Nat}(ht:top<=s.H.az.length) :
  lX d H0 g0 w0 (zW H0.az.length H0.bG top s.H) g w/\top<=(zW H0.az.length H0.bG top s.H).az.length/\(zW H0.az.length H0.bG top s.H).az.length<=s.H.az.length:=by
 have Be:H0.az.length<=s.H.az.length:=h.n0;have D_:∀b off,jo H0.az b off->jo s.H.az b off:=λb off hl=>h.lP b off (.inl hl);unfold zW;split
 ·rename_i hc;simp only[d_,Cs,p7] at hc;obtain⟨nu,sy⟩:=hc;have hlen:(s.H.az.take H0.az.length).length=H0.az.length:=by simp[Be]
  have dy:∀b,b<H0.az.length->(s.H.az.take H0.az.length)[b]?=s.H.az[b]?:=λb hb=>by rw[AK,if_pos hb]
  have Bg:∀(b:Nat)(x:aY),(s.H.az.take H0.az.length)[b]?=some x->b<H0.az.length/\s.H.az[b]?=some x:=λb x hx=>by
   have hb:=(cZ.1 hx).1;rw[hlen] at hb;exact⟨hb,(dy b hb) ▸ hx⟩
  have gH:∀(b:Nat)(x:aY),b<H0.az.length->s.H.az[b]?=some x->x.top<=b+1\/(∃m,(b,m)∈s.H.bG/\m<=H0.az.length/\x.top<=m)\/∃y:aY,H0.az[b]?=some y/\x.top<=y.top:=λb x hb hx=>by
   rcases h.bG b x hx with h1|⟨m,h1,h2⟩|h1
   ·exact .inl h1
   ·refine .inr (.inl ⟨m,h1,?_,h2⟩);rcases sy _ h1 with h3|h3
    ·have:=r_ h3;simp only at this;omega
    ·exact r_ h3
   ·exact .inr (.inr h1)
  refine⟨{ cX:={ mem:=h.cX.mem,lt:=λb hb=>h.cX.lt b (by simp only at hb;omega),inj:=λb b' hb cY e=>h.cX.inj b b' (by simp only at hb;omega) (by simp only at cY;omega) e,apart:=λb hb=>h.cX.apart b (by simp only at hb;omega),eD:=h.cX.eD,dN:=λb hb=>h.cX.dN b (by simp only at hb;omega),ok:=λb x hx=>?_,aI:=λb x hx=>?_,laid:=λc hc=>⟨(h.cX.laid c hc).1,(h.cX.laid c hc).2.1,λb hb=>(h.cX.laid c hc).2.2 b (by simp only at hb;omega)⟩ },fr:=h.fr,len:=by simp only;omega,dY:=λb h1 h2=>by simp only at h2;omega,bG:=λb x hx=>?_,Ee:=λp hp=>Dc _ hp,lP:=λb off hl=>?_ },by simp only;rw[hlen];exact r_ nu,by simp only;omega⟩
  ·obtain⟨_,pL⟩:=Bg b x hx;simp only;exact(h.cX.ok b x pL).less (by omega)
  ·obtain⟨hb,pL⟩:=Bg b x hx;simp only;rw[hlen];rcases gH b x hb pL with h1|⟨m,_,h1,h2⟩|⟨y,h1,h2⟩
   ·omega
   ·omega
   ·exact cN h2 (AS.aI b y h1)
  ·obtain⟨hb,pL⟩:=Bg b x hx;rcases gH b x hb pL with h1|⟨m,h0,h1,h2⟩|h1
   ·exact .inl h1
   ·refine .inr (.inl ⟨m,A7 _ (D3.2 ⟨h0,?_⟩),h2⟩);simpa[Nat.blt_eq] using hb
   ·exact .inr (.inr h1)
  ·obtain⟨cs,t,sz,xs,h1,h2⟩:=D_ b off hl;obtain⟨_,_,_,_,k1,_⟩:=hl;exact⟨cs,t,sz,xs,by simp only;rw[dy b (cZ.1 k1).1];exact h1,h2⟩
 ·refine⟨{ cX:=h.cX,fr:=h.fr,len:=Be,dY:=h.dY,bG:=λb x hx=>?_,Ee:=λp hp=>Dc _ hp,lP:=D_ },ht,dA _⟩;rcases h.bG b x hx with h1|⟨m,h1,h2⟩|h1
  ·exact .inl h1
  ·exact .inr (.inl ⟨m,A7 _ h1,h2⟩)
  ·exact .inr (.inr h1)
end
section
variable{P:aQ}{B:dR}{g:Gh}{s:St}{a:Act}{w:aP}
theorem WN{tmps:dM}{t:Nat}{cv:bt}(h:tmps[t]?=some cv):tmps.getD t undef=cv:=by
 obtain⟨h1,h2⟩:=tK.1 h;simp[Array.getD,h1,h2]
theorem zg0{p:V}{cp:bt}(hr:aR g p cp){t:aB}{v:V}{H:Hp}(hl:zk P H (λ_ _=>none) t p=some v):(do loadVar t (<- asAddr cp):Sem bt).run P w=(Instr.loadAt t cp).run P w:=by
 unfold zk at hl;split at hl
 ·cases hr;simp[Instr.loadAt,Instr.sureAddr,asAddr]
 ·cases hr;simp[Instr.loadAt,Instr.sureAddr,asAddr]
 ·cases hr;simp[Instr.loadAt,Instr.sureAddr,asAddr]
 ·cases hr;simp[Instr.loadAt,Instr.sureAddr,asAddr]
 ·cases hl
def Iz(tmps:dM):ResultVar->Sem bt
 | .tmp t=>pure (tmps.getD t undef)
 | .cell x t=>do loadVar t (<- asAddr (tmps.getD x undef))
def LH:dw->bt
 | [v]=>v
 | vs=>.tuple vs.toArray
theorem zig(fn:Func)(tmps:dM):results fn tmps=(do let vs <- fn.results.toList.mapM (Iz tmps);pure (LH vs)):=by
 have h1:results fn tmps=(do let vs <- fn.results.mapM (Iz tmps);pure (if h:vs.size=1 then vs[0] else .tuple vs)):=by
  unfold results
  congr 1
  try (congr 1;try (funext x;cases x<;>rfl))
 rw[h1,Array.mapM_eq_mapM_toList];simp only[bind_map_left]
 congr 1
 funext vs
 match vs with
 | []=>rfl
 | [v]=>rfl
 | v::u::r=>simp[LH]
theorem zfK{H:Hp}{env:aD}:∀{rs:List ResultVar},zx P H env rs=some []->rs=[]
 | [],_=>rfl
 | .tmp t::rs,h=>by
  simp only[zx] at h;split at h<;>simp at h
 | .cell c t::rs,h=>by
  simp only[zx] at h;split at h<;>try (cases h;done)
  split at h<;>simp at h
theorem WO(h:Rel B g s a w):∀{rs:List ResultVar}{vs:aD},zx P s.H s.env rs=some vs ->
  ∃Ef:dw,(rs.mapM (Iz a.tmps)).run P w=.ok Ef w/\vs.length=Ef.length /\
   (∀(j:Nat)(x:V)(v:bt),vs[j]?=some x->Ef[j]?=some v->aR g x v)/\aI vs<=s.H.az.length
 | [],vs,hr=>by
  simp only[zx,bq] at hr;subst hr;exact⟨[],by simp,rfl,λ_ _ _ hx=>by simp at hx,ec _⟩
 | .tmp t::rs,vs,hr=>by
  simp only[zx] at hr;split at hr<;>simp only[bq,reduceCtorEq] at hr;rename_i v us hv CB;subst hr;rw[zg] at hv;obtain⟨Ef,h1,h2,h3,h4⟩:=WO h CB;obtain⟨cv,iT,_⟩:=h.slot hv;refine⟨cv::Ef,?_,by simp[h2],λj x u hx hu=>?_,uf.2 ⟨h.dO t v hv,h4⟩⟩
  ·have hF:Iz a.tmps (.tmp t)=pure cv:=by simp only[Iz];rw[WN iT]
   simp[List.mapM_cons,hF,h1]
  ·cases j with
   | zero=>simp at hx hu;subst hx;subst hu;exact(h.env t _ _ hv iT).1
   | succ j=>exact h3 j x u (by simpa using hx) (by simpa using hu)
 | .cell c t::rs,vs,hr=>by
  simp only[zx] at hr;split at hr<;>try (cases hr;done)
  rename_i p hp;split at hr<;>simp only[bq,reduceCtorEq] at hr;rename_i v us hl CB;subst hr;rw[zg] at hp;obtain⟨Ef,h1,h2,h3,h4⟩:=WO h CB;obtain⟨cp,hcp,_⟩:=h.slot hp;have hrp:=(h.env c _ _ hp hcp).1;obtain⟨cv,l1,l2,l3⟩:=zgK h (gl:=λ_ _=>none) ⟨λ_ _ _ e=>(nomatch e),λ_ _ _ e=>(nomatch e)⟩ hrp (h.dO c p hp) hl
  refine⟨cv::Ef,?_,by simp[h2],λj x u hx hu=>?_,uf.2 ⟨by rw[jl];exact l3,h4⟩⟩
  ·have hF:(Iz a.tmps (.cell c t)).run P w=.ok cv w:=by
    simp only[Iz];rw[WN hcp];exact(zg0 (P:=P) (w:=w) hrp hl).trans l1
   simp[List.mapM_cons,hF,h1]
  ·cases j with
   | zero=>simp at hx hu;subst hx;subst hu;exact l2.aV
   | succ j=>exact h3 j x u (by simpa using hx) (by simpa using hu)
theorem zdA(h:Rel B g s a w){fn:Func}{vs:aD}(hr:zx P s.H s.env fn.results.toList=some vs)(l:Loc) :
  ∃g' s' cv,(results fn a.tmps).run P w=.ok cv w/\s'.H=s.H/\Rel B g' s' a w/\aR g' (iY vs) cv/\cL g' s.H.az.length w l (iY vs) cv/\(iY vs).top<=s.H.az.length:=by
 obtain⟨Ef,h1,h2,h3,h4⟩:=WO h hr;have cw:(results fn a.tmps).run P w=.ok (LH Ef) w:=by
  rw[zig];simp[h1]
 match vs,h2,h3,h4,hr with
 | [v],h2,h3,h4,hr =>
  obtain⟨cv,rfl⟩:∃cv,Ef=[cv]:=by
   match Ef,h2 with
   | [cv],_=>exact⟨cv,rfl⟩
  have hv:aR g v cv:=h3 0 v cv rfl rfl;have ht:v.top<=s.H.az.length:=cN (D2 _ _) h4;have plain:(∀k,cL g k w l v cv)->∃g' s' cv,(results fn a.tmps).run P w=.ok cv w/\s'.H=s.H/\Rel B g' s' a w/\aR g' (iY [v]) cv/\cL g' s.H.az.length w l (iY [v]) cv/\(iY [v]).top<=s.H.az.length :=
   λho=>⟨g,s,cv,cw,rfl,h,hv,ho _,ht⟩
  by_cases iB:∃sz xs e,v=.sl sz xs (.yes e)
  ·obtain⟨sz,xs,e,rfl⟩:=iB;cases FA:fn.results.toList with
   | nil=>rw[FA] at hr;simp[zx] at hr
   | cons r rs =>
    rw[FA] at hr;cases r with
    | tmp t =>
     simp only[zx] at hr;split at hr<;>simp only[bq,reduceCtorEq,List.cons.injEq] at hr;rename_i y us hy CB;obtain⟨rfl,rfl⟩:=hr;rw[zg] at hy;have mq:take s.env (.tmp t)=some (.sl sz xs (.yes e),s.env.set t (.sl sz xs .no)):=by
      simp[take,zg,hy,fm]
     obtain⟨g',k1,k2,k3,k4,_⟩:=vG h mq l;obtain⟨cv',WQ,he⟩:=h.slot hy;have rM:a.eval (.tmp t)=cv:=by
      rw[he];have WT:=zfK CB;have hF:Iz a.tmps (.tmp t)=pure cv':=by simp only[Iz];rw[WN WQ]
      rw[FA,WT] at h1;simp[List.mapM_cons,hF] at h1;exact h1
     rw[rM] at k2 k3;exact⟨g',{ s with env:=s.env.set t (.sl sz xs .no) },cv,cw,rfl,k1,k2,k3,ht⟩
    | cell c t =>
     exfalso;simp only[zx] at hr;split at hr<;>try (cases hr;done)
     split at hr<;>simp only[bq,reduceCtorEq,List.cons.injEq] at hr;exact vO _ _ _ _ hr.1
  ·refine plain λk=>?_;unfold cL;split
   next sz xs e=>exact absurd ⟨sz,xs,e,rfl⟩ iB
   ·trivial
 | [],h2,h3,h4,hr =>
  have:Ef=[]:=NN.1 h2.symm;subst this;exact⟨g,s,_,cw,rfl,h,.br rfl (λ_ _ _ e=>by simp at e),trivial,ec _⟩
 | v::u::r,h2,h3,h4,hr =>
  match Ef,h2 with
  | cv::cu::cr,h2 =>
   refine⟨g,s,_,cw,rfl,h,?_,trivial,?_⟩
   ·refine .br (by simpa using h2) λj x y hx hy=>?_
    simp only[iX,mQ] at hx;obtain⟨z,hz,rfl⟩:=hx;exact(h3 j z y hz (by simpa using hy)).aV
   ·show aI ((v::u::r).map aV)<=_;rw[eO];exact h4
end
section
variable{P:aQ}{B:dR}{g:Gh}{s:St}{a:Act}{w:aP}
def ek:Option bt->Bool->FrameMode
 | none,_=>.returning
 | some cv,r=>.panicking [{ v:=cv,recovered:=r }]
def oA(g:Gh)(n:Nat):b_->Option bt->Prop
 | none,none=>True
 | some v,some cv=>aR g v cv/\v.top<=n
 | _,_=>False
theorem oA.le{n n':Nat}{g g':Gh}(hg:Gh.Le n g g')(hn:n<=n'){p:b_}{pc:Option bt}(h:oA g n p pc):oA g' n' p pc:=by
 cases p<;>cases pc<;>first|exact h|exact⟨h.1.le hg h.2,cN h.2 hn⟩
def WU(B:dR)(ex:Ex)(s':St)(pc:Option bt)(r:Bool)(c0:Frame)(CJ:List Frame):Exit->Act->List Frame->aP->Prop :=
 λe a cs w=>vQ B ex s' e a w/\cs={ c0 with mode:=ek pc r }::CJ
theorem zjl{cx:Cx}(iV:oT P cx B){all:Array Oper}{takes:cg}{ex:Ex}{r':Bool}{s':St}{iI:b_}{pc:Option bt}(hp:oA B.g B.bs.length iI pc)(c0:Frame)(CJ:List Frame){Q:Exit->Act->List Frame->aP->Prop}(hQ:∀e a cs w,WU B ex s' pc r' c0 CJ e a cs w->Q e a cs w) :
  ∀(l:List Oper)(k:Nat)(s:St)(r:Bool)(g:Gh)(a:Act)(w:aP),(∀j:Nat,l[j]?=all[k+j]?)->Rel B g s a w->cx.uh iI all takes l r s=some (ex,r',s')->wpOpsS P all Q (List.range' k l.length) a ({ c0 with mode:=ek pc r }::CJ) w
 | [],k,s,r,g,a,w,hl,h,hc=>by
  simp only[Cx.uh,bq,cq] at hc;obtain⟨rfl,rfl,rfl⟩:=hc;exact hQ _ _ _ _ ⟨⟨g,h,trivial⟩,rfl⟩
 | o::os,k,⟨env,H,lk,df⟩,r,g,a,w,hl,h,hc=>by
  have ih:=zjl iV (all:=all) (takes:=takes) hp c0 CJ hQ os (k+1);have mT:∀j:Nat,os[j]?=all[k+1+j]?:=λj=>by have:=hl (j+1);simpa[p8,JM 1 j] using this
  have h0:all[k]?=some o:=by simpa using (hl 0).symm
  simp only[Cx.uh] at hc;simp only[aX,List.range'_succ,wpOpsS,h0];split at hc<;>try (cases hc;done)
  ·rename_i hw;rw[if_neg (by rw[ym h hw];simp)]
   rw[jN] at hc;exact ih _ r g _ w mT (wV (yC h o)) hc
  ·rename_i hw;rw[if_pos (ym h hw)];split at hc
   ·rename_i Bf;have cw:(execOp a.eval o).run P w=.ok .recover w:=by
     unfold zpi at Bf;split at Bf<;>try (cases Bf;done)
     rename_i c ho;split at Bf<;>try (cases Bf;done)
     rename_i gF;simp[execOp,ho,resolve,gF,invoke,builtin]
    rw[cw];simp only;have nil:∀r1,cx.uh iI all takes os r1 ⟨aq env o.dst .bN,H,lk,df⟩=some (ex,r',s')->wpOpsS P all Q (List.range' (k+1) os.length) (a.put o.dst .nilIface) ({ c0 with mode:=ek pc r1 }::CJ) w:=λr1 nu =>
     ih _ r1 g _ w mT (wV (s:=⟨env,H,lk,df⟩) (v:=.bN) (cv:=.nilIface) ⟨h,.bN,λ_ _=>trivial,ec _⟩) nu
    split at hc
    ·rename_i v;rw[jN] at hc;cases pc with
     | none=>exact hp.elim
     | some cv =>
      have hv:aR g v cv:=hp.1.le h.fr.le hp.2;have ht:v.top<=H.az.length:=cN hp.2 h.n0;exact ih _ true g _ w mT (wV (s:=⟨env,H,lk,df⟩) (v:=aV v) (cv:=cv) ⟨h,hv.aV,λ_ _=>vm _ _ _ _ _ _,by rw[jl];exact ht⟩) hc
    ·rename_i eH;rw[jN] at hc;have PI:recoverD ({ c0 with mode:=ek pc r }::CJ)=none:=by
      cases pc with
      | none=>rfl
      | some cv =>
       cases iI with
       | none=>exact hp.elim
       | some v =>
        cases r with
        | false=>exact(eH v rfl rfl).elim
        | true=>rfl
     rw[PI];exact nil r hc
   ·have cH:∀{K:Act->aP->Prop}{Q':Exit->Act->aP->Prop},o.wp P a w K Q'->(match (execOp a.eval o).run P w with
      | .ok .recover w'=>False
      | rr=>o.upon P a K Q' rr):=by
     intro K Q' TH;unfold Oper.wp at TH;generalize (execOp a.eval o).run P w=rr at TH;split
     ·exact TH
     ·exact TH
    have fin:o.wp P a w (λa' w'=>wpOpsS P all Q (List.range' (k+1) os.length) a' ({ c0 with mode:=ek pc r }::CJ) w') (λe a' w'=>Q e a' ({ c0 with mode:=ek pc r }::CJ) w'):=by
     split at hc<;>try (cases hc;done)
     next v cW H' Iv Iw aC=>rw[jN] at hc;refine Iu iV h aC ⟨λv' hv g' cv a' w' hk=>?_,(λhv=>nomatch hv),(λv' hv=>nomatch hv)⟩;cases hv;exact ih _ r g' _ w' mT (wV hk) hc
     next cW H' Iv Iw aC=>rw[jN] at hc;refine Iu iV h aC ⟨(λv' hv=>nomatch hv),λ_ g' a' w' hk=>?_,(λv' hv=>nomatch hv)⟩;exact ih _ r g' _ w' mT (wV (yC hk o)) hc
     next v s1 aC=>simp only[bq,cq] at hc;obtain⟨rfl,rfl,rfl⟩:=hc;refine Iu iV h aC ⟨(λv' hv=>nomatch hv),(λhv=>nomatch hv),λv' hv g' cv a' w' hk h1 h2=>?_⟩;cases hv;exact hQ _ _ _ _ ⟨⟨g',hk,cv,rfl,h1,h2⟩,rfl⟩
    have:=cH fin;split
    next w1 N6=>rw[N6] at this;exact this.elim
    next rr WV=>unfold Oper.wp at fin;exact fin
theorem WW{c:Code}{Q Q':Exit->Act->List Frame->aP->Prop}{cs:List Frame}(h:c.wpS P Q a cs w)(hq:∀e a cs w,Q e a cs w->Q' e a cs w):c.wpS P Q' a cs w :=
 λb k hb hr=>let ⟨e,a',cs',w',q,r⟩:=h b k hb hr;⟨e,a',cs',w',hq _ _ _ _ q,r⟩
theorem zlC{cx:Cx}(iV:oT P cx B)(eY:N4 P cx B/\N5 P cx B)(n:Nat){iI:b_}{pc:Option bt}(hp:oA B.g B.bs.length iI pc)(c0:Frame)(CJ:List Frame):∀(c:Code)(s s':St)(ex:Ex)(r r':Bool)(g:Gh)(a:Act)(w:aP),
  cx.m9 n iI c r s=some (ex,r',s')->Rel B g s a w->c.wpS P (WU B ex s' pc r' c0 CJ) a ({ c0 with mode:=ek pc r }::CJ) w:=by
 have plain:∀(c:Code)(s s':St)(ex:Ex)(r:Bool)(g:Gh)(a:Act)(w:aP),cx.code n c s=some (ex,s')->Rel B g s a w->c.wpS P (WU B ex s' pc r c0 CJ) a ({ c0 with mode:=ek pc r }::CJ) w :=
  λc s s' ex r g a w hx h=>wpS_of_wp (Code.wp_mono (λ_ _ _ q=>⟨q,rfl⟩) (zjk iV eY.1 eY.2 n c s s' ex g a w hx h))
 intro c
 induction c with
 | seq x y Iy LG =>
  intro s s' ex r r' g a w hc h;simp only[Cx.m9] at hc;split at hc<;>try (cases hc;done)
  ·rename_i r1 s1 hx;refine wpS_seq (WW (Iy s s1 .normal r r1 g a w hx h) ?_);rintro e a' cs' w' ⟨⟨g',h1,h2⟩,rfl⟩;cases e<;>first
    |(exact h2.elim)
    |(exact LG s1 s' ex r1 r' g' a' w' hc h1)
  ·rename_i x1 cH hx;simp only[bq] at hc;subst hc;refine wpS_seq (WW (Iy s _ _ r _ g a w hx h) ?_);rintro e a' cs' w' ⟨⟨g',h1,h2⟩,rfl⟩;cases ex<;>cases e<;>first
    |(exact h2.elim)
    |(exact(cH _ _ rfl).elim)
    |(exact⟨⟨g',h1,h2⟩,rfl⟩)
 | cond c x y Iy LG =>
  intro s s' ex r r' g a w hc h;simp only[Cx.m9] at hc;split at hc<;>try (cases hc;done)
  next LI=>have c1:=(zI h LI).1;generalize Ah:a.eval c=cc at c1;cases c1;exact wpS_cond Ah (by simpa using Iy s s' ex r r' g a w hc h)
  next LI=>have c1:=(zI h LI).1;generalize Ah:a.eval c=cc at c1;cases c1;exact wpS_cond Ah (by simpa using LG s s' ex r r' g a w hc h)
 | region id ops draw =>
  intro s s' ex r r' g a w hc h;cases draw with
  | false =>
   obtain⟨env,H,lk,df⟩:=s;simp only[Cx.m9] at hc;refine wpS_region ?_;have:=zjl iV hp c0 CJ (λ_ _ _ _ q=>q) ops.toList 0 _ r g a w (by simp) h.Ix hc
   rw[List.range_eq_range',<- AJ];exact this
  | true =>
   simp only[Cx.m9] at hc;split at hc<;>simp only[bq,reduceCtorEq,cq] at hc;rename_i e1 s1 hx;obtain⟨rfl,rfl,rfl⟩:=hc;exact plain _ s s1 e1 r g a w hx h
 | _ =>
   intro s s' ex r r' g a w hc h;simp only[Cx.m9] at hc;split at hc<;>simp only[bq,reduceCtorEq,cq] at hc;rename_i e1 s1 hx;obtain⟨rfl,rfl,rfl⟩:=hc;exact plain _ s s1 e1 r g a w hx h
end
section
variable{P:aQ}{B:dR}{g:Gh}{s:St}{a:Act}{w:aP}
theorem zlD{gl:Nat->Nat->b_}{uq:aB->Bool}{call:FuncId->aD->Hp->Option (Out×Hp)}{d n:Nat}(fQ:yB P)(dP:vd P)(dj:xB P gl call d)(eY:∀B,N4 P { P,gl,call,uq } B/\N5 P { P,gl,call,uq } B){iI:b_}{pc:Option bt}{f:FuncId}{args:aD}{H H':Hp}{r:Bool}{bx:dM}
  (hc:Li P gl uq call n iI f args H=some (r,H')) (rN:ij P gl g) (hw:rj g H.az w) (ha:eP g H.az.length args bx) (hp:oA g H.az.length iI pc) :
  CallsD P f bx (ek pc false) w λe u' w'=>∃cv g',e=.returned cv/\u'=ek pc r/\lX (d+1) H g w H' g' w':=by
 obtain⟨bs,es⟩:=H;simp only[Li] at hc;split at hc<;>try (cases hc;done)
 rename_i fn hf;split at hc<;>try (cases hc;done)
 rename_i body hb;simp only[qA,eC] at hc;have iV:oT P { P,gl,call,uq } ⟨d+1,bs,g,w,[]⟩:=⟨rfl,fQ,dP,rN,d,HW d,dj⟩;have h0:=zgZ (H:=⟨bs,es⟩) hw ha (d+1) fn.ntmps;have fin:∀(ex:Ex)(env:aD)(H1:Hp)(lk:aO),(ex=.normal\/ex=.ret)->Cx.m9 { P,gl,call,uq } n iI body false ⟨args++List.replicate (fn.ntmps - args.length) (.br []),⟨bs,[]⟩,[],[]⟩=some (ex,r,⟨env,H1,lk,[]⟩) ->
   ∀us,zx P H1 env fn.results.toList=some us->H'=zW bs.length es 0 H1 ->
   CallsD P f bx (ek pc false) w λe u' w'=>∃cv g',e=.returned cv/\u'=ek pc r/\lX (d+1) ⟨bs,es⟩ g w H' g' w':=by
  intro ex env H1 lk hex hx us CB hH;refine callsD_of_wpS hf hb λc0 cs hm=>?_;have key:=zlC iV (eY _) n (iI:=iI) (pc:=pc) hp c0 cs body _ _ ex false r g _ w hx h0;have sV:({ c0 with mode:=ek pc false }:Frame)=c0:=by rw[<- hm]
  rw[sV] at key;refine WW key ?_;rintro e a' cs' w' ⟨⟨g',h1,h2⟩,rfl⟩;have D9:a'.defers=[]:=NN.1 (by rw[<- h1.eE];rfl)
  obtain⟨g2,s2,cv,r1,r2,r3,_⟩:=zdA h1 CB .ret;have iD:=(WM hw h1 (top:=0) (ec _)).1;have Ak:a'.defers=[]/\∃u',({ c0 with mode:=ek pc r }:Frame)::cs={ c0 with mode:=u' }::cs/\∃v,(results fn a'.tmps).run P w'=.ok v w'/\∃cv g',Ending.returned v=.returned cv/\u'=ek pc r/\lX (d+1) ⟨bs,es⟩ g w H' g' w' :=
   ⟨D9,_,rfl,cv,r1,cv,g',rfl,rfl,by rw[hH];exact iD⟩
  rcases hex with rfl|rfl<;>cases e<;>first|(exact h2.elim)|(exact Ak)
 split at hc
 ·rename_i r1 env H1 lk hx;split at hc<;>try (cases hc;done)
  rename_i us CB;rw[kW] at hc;simp only[bq,cq] at hc;obtain⟨rfl,rfl⟩:=hc;exact fin .normal env H1 lk (.inl rfl) hx us CB rfl
 ·rename_i r1 env H1 lk hx;split at hc<;>try (cases hc;done)
  rename_i us CB;rw[kW] at hc;simp only[bq,cq] at hc;obtain⟨rfl,rfl⟩:=hc;exact fin .ret env H1 lk (.inr rfl) hx us CB rfl
 ·cases hc
theorem zg1(pc:Option bt):settle (ek pc true)=.returning:=by
 cases pc<;>rfl
theorem zfL(pc:Option bt):settle (ek pc false)=ek pc false:=by
 cases pc<;>rfl
theorem TI{gl:Nat->Nat->b_}{uq:aB->Bool}{call:FuncId->aD->Hp->Option (Out×Hp)}{d n:Nat}(fQ:yB P)(dP:vd P)(dj:xB P gl call d)(eY:∀B,N4 P { P,gl,call,uq } B/\N5 P { P,gl,call,uq } B)(hd:d+1<B.d)(rN:ij P gl B.g){fn:Func}{tmps:dM}{R:Ending->aP->Prop}{H':Hp}{LJ:b_} :
  ∀(df:bP)(iI:b_)(pc:Option bt)(env:aD)(H:Hp)(lk:aO)(g:Gh)(dc:List Deferred)(w:aP),Rel B g ⟨env,H,lk,df⟩ ⟨tmps,dc⟩ w->oA g H.az.length iI pc->vl (Li P gl uq call n) iI df H=some (LJ,H') ->
   (∀g' N7 w',Rel B g' ⟨env,H',lk,[]⟩ ⟨tmps,[]⟩ w'->oA g' H'.az.length LJ N7->match N7 with
    | none=>∃v,(results fn tmps).run P w'=.ok v w'/\R (.returned v) w'
    | some cv=>R (.panicked [{ v:=cv,recovered:=false }]) w')->Leaves P fn tmps R dc (ek pc false) w
 | [],iI,pc,env,H,lk,g,dc,w,h,hp,hc,hR=>by
  have hdc:dc=[]:=NN.1 (h.eE.symm);subst hdc;simp only[vl,bq,cq] at hc;obtain⟨rfl,rfl⟩:=hc;have:=hR g pc w h hp;cases pc with
  | none=>exact this
  | some cv=>exact this
 | (fv,args)::df,iI,pc,env,H,lk,g,dc,w,h,hp,hc,hR=>by
  cases dc with
  | nil=>have:=h.eE;simp at this
  | cons dd dc =>
   rcases h.defers 0 (fv,args) dd rfl rfl with LL|⟨Ds,_⟩
   rotate_left
   ·simp only[cq] at Ds;obtain⟨e1,e2⟩:=Ds;subst e1 e2;simp[vl] at hc
   obtain⟨f,as,cs,fc,e1,e2,e3,e4,e5,e6,e7,e8⟩:=LL;simp only at e1;subst e1;obtain⟨tg,da⟩:=dd;simp only at e2 e3 e5;subst e2;simp only[vl,eC] at hc;have WX:∃r H1,Li P gl uq call n iI f ((as++args++cs).map aV) H=some (r,H1)/\vl (Li P gl uq call n) (if r then none else iI) df H1=some (LJ,H'):=by
    split at hc<;>try (cases hc;done)
    next H1 hx=>exact⟨true,H1,hx,hc⟩
    next H1 hx=>exact⟨false,H1,hx,hc⟩
   obtain⟨r,H1,hx,mC⟩:=WX;have fD:eP g H.az.length ((as++args++cs).map aV) (da++fc):=eP.Fw (by simp only[aU,Array.size_append] at e3 ⊢;omega) (vB e3 e5 e6) (wD e7 e8)
   have WY:ij P gl g:=rN.le h.fr.le;have hinv:(invoke (.fn (.func f) fc) da).run P w=.ok (.enter f (da++fc)) w:=by
    unfold Li at hx;simp only at hx;split at hx<;>try (cases hx;done)
    rename_i fn' Fq;split at hx<;>try (cases hx;done)
    rename_i body cY;have cH:fn'.name≠ "runtime.NumGoroutine":=by simpa using fQ f fn' Fq
    simp[invoke,callFunc,Fq,cY,cH]
   refine leaves_cons (by cases pc<;>simp[ek]) hinv (CallsD.mono (zlD fQ dP dj eY hx WY h.cX fD hp) λe u' w' he=>?_)
   obtain⟨cv,g',rfl,rfl,hA⟩:=he;have hrel:=h.call hd hA;have JU:Rel B g' ⟨env,H1,lk,df⟩ ⟨tmps,dc⟩ w' :=
    {cX:=hrel.cX,len:=hrel.len,env:=hrel.env,dO:=hrel.dO,n0:=hrel.n0,bG:=hrel.bG,dY:=hrel.dY,fr:=hrel.fr,lP:=hrel.lP,ou:=hrel.ou,cR:=hrel.cR,eE:=by have:=hrel.eE;simpa using this,defers:=λj x q hx hq=>hrel.defers (j+1) x q (by simpa using hx) (by simpa using hq),marks:=λd hd D hD=>hrel.marks d (dU _ hd) D hD,nG:=(List.pairwise_cons.1 hrel.nG).2 }
   have G7:oA g' H1.az.length iI pc:=hp.le hA.fr.le hA.len;cases r with
   | true =>
    simp only[zg1];exact TI fQ dP dj eY hd rN df none none env H1 lk g' dc w' JU trivial mC hR
   | false =>
    simp only[zfL];exact TI fQ dP dj eY hd rN df iI pc env H1 lk g' dc w' JU G7 mC hR
end
section
variable{P:aQ}{g:Gh}{w:aP}
def WZ(_P:aQ)(uq:aB->Bool):Prop:=∀gf back (ty:Nat),ty<1048576->uq (GU gf back ty)=true->False
structure nM(P:aQ)(gl:Gl):Prop where
 pure:∀f args v,gl.hk f args=some v->∀d H g w bx l,ij P gl g->rj g H.az w->eP g H.az.length args bx->Calls P f bx w (fB d H g w l (.ret v) H)
 heap:∀n f args H out H',gl.fA n f args H=some (out,H')->∀d,2 * (n+1)<=d->∀g w bx l,ij P gl g->rj g H.az w->eP g H.az.length args bx->Calls P f bx w (fB d H g w l out H')
 it:WZ P gl.uq
theorem zg2{gl:Gl}(fQ:yB P)(dP:vd P)(Eg:nM P gl)(eY:∀n B,N4 P { P,gl,call:=zj P gl n,uq:=gl.uq } B/\N5 P { P,gl,call:=zj P gl n,uq:=gl.uq } B):∀n,xB P gl (zj P gl n) (2 * n)
 | 0=>λf args H out H' hc=>by simp[zj] at hc
 | n+1=>by
  have ih:=zg2 fQ dP Eg eY n;intro f args H out H' hc g w bx l rN hw ha;obtain⟨bs,es⟩:=H;simp only[zj] at hc;split at hc
  next v hv=>simp only[bq,cq] at hc;obtain⟨rfl,rfl⟩:=hc;exact Eg.pure f args v hv _ _ g w bx l rN hw ha
  split at hc
  next r hv=>simp only[bq] at hc;subst hc;exact Eg.heap n f args _ out H' hv _ (dA _) g w bx l rN hw ha
  split at hc<;>try (cases hc;done)
  rename_i fn hf;split at hc<;>try (cases hc;done)
  rename_i body hb;simp only[qA,eC] at hc;split at hc<;>try (cases hc;done)
  rename_i ex env H1 lk df hx;split at hc<;>try (cases hc;done)
  rename_i iI Bj;have LM:2 * n<2 * (n+1):=by omega
  have AR:2 * n+1<2 * (n+1):=by omega
  have iV:oT P { P,gl,call:=zj P gl n,uq:=gl.uq } ⟨2 * (n+1),bs,g,w,[]⟩:=⟨rfl,fQ,dP,rN,2 * n,LM,ih⟩;have h0:=zgZ (H:=⟨bs,es⟩) hw ha (2 * (n+1)) fn.ntmps;refine calls_of_wp_defers hf hb (Code.wp_mono ?_ (zjk iV (eY n _).1 (eY n _).2 n body _ _ ex g _ w hx h0));rintro e a' w' ⟨g',h1,h2⟩
  have PJ:∃pc,oA g' H1.az.length iI pc/\∀R,Leaves P fn a'.tmps R a'.defers (ek pc false) w'->bodyPostD P fn R e a' w':=by
   cases ex<;>cases e<;>simp only[Ba,bq,reduceCtorEq] at Bj<;>try (exact h2.elim)
   ·subst Bj;exact⟨none,trivial,λR h=>h⟩
   ·subst Bj;exact⟨none,trivial,λR h=>h⟩
   ·subst Bj;obtain⟨cv,rfl,h3,h4⟩:=h2;exact⟨some cv,⟨h3,h4⟩,λR h=>h⟩
  obtain⟨pc,hp,PK⟩:=PJ;refine PK _ ?_;split at hc<;>try (cases hc;done)
  ·rename_i v H2 W0;rw[kW] at hc;simp only[bq,cq] at hc;obtain⟨rfl,rfl⟩:=hc;refine TI (B:=⟨2 * (n+1),bs,g,w,[]⟩) fQ dP ih (eY n) AR rN df iI pc env H1 lk g' a'.defers w' h1 hp W0 λg2 N7 w2 h3 h4=>?_;cases N7 with
   | none=>exact h4.elim
   | some cv =>
    obtain⟨f1,f2,f3⟩:=WM hw h3 h4.2;exact⟨v,cv,g2,rfl,rfl,f1,h4.1,f2⟩
  ·rename_i H2 W0;split at hc<;>try (cases hc;done)
   rename_i vs LN;rw[qp,kW] at hc;simp only[bq,cq] at hc;obtain⟨rfl,rfl⟩:=hc;refine TI (B:=⟨2 * (n+1),bs,g,w,[]⟩) fQ dP ih (eY n) AR rN df iI pc env H1 lk g' a'.defers w' h1 hp W0 λg2 N7 w2 h3 h4=>?_;cases N7 with
   | some cv=>exact h4.elim
   | none =>
    obtain⟨g3,s3,cv,r1,r2,r3,r4,r5,r6⟩:=zdA h3 LN l;have r5':=r5;obtain⟨f1,f2,f3⟩:=WM (s:=s3) hw r3 (top:=(iY vs).top) (by rw[r2];exact r6)
    rw[r2] at f1 f2 f3;exact⟨cv,r1,iY vs,g3,rfl,f1,r4,r5.less f3,f2⟩
end
section
variable{P:aQ}
def f_(env bH:aD)(xs:List aW):Prop:=∀t,Operand.tmp t∈xs->env[t]?=bH[t]?
theorem f_.mono{env bH:aD}{xs ys:List aW}(h:f_ env bH xs)(hs:∀x∈ys,x∈xs):f_ env bH ys:=λt ht=>h t (hs _ ht)
theorem f_.ak{env bH:aD}{xs:List aW}(h:f_ env bH xs):∀x∈xs,Vm.ak env x=Vm.ak bH x:=λx hx=>by
 cases x with
 | tmp t=>simp only[Vm.ak,zg,h t hx]
 | _=>rfl
theorem f_.av{env bH:aD}{xs:List aW}(h:f_ env bH xs):∀{ys:List aW},(∀y∈ys,y∈xs)->Vm.av env ys=Vm.av bH ys
 | [],_=>rfl
 | y::ys,hy=>by
  simp only[Vm.av,h.ak y (hy y (eK ..)),h.av (ys:=ys) λz hz=>hy z (dU _ hz)]
theorem f_.cQ{env bH:aD}{xs:List aW}(h:f_ env bH xs){x:Option aW}(hx:∀y,x=some y->y∈xs):Vm.cQ env x=Vm.cQ bH x:=by
 cases x with
 | none=>rfl
 | some y=>simp only[Vm.cQ,h.ak y (hx y rfl)]
theorem zcM{env bH:aD}{xs:List aW}(h:f_ env bH xs){place:Nat->Option (Nat×Nat)}:∀{ps:List (Nat×aW)}{cs:aD},(∀p∈ps,p.2∈xs)->xN cs place env ps=xN cs place bH ps
 | [],_,_=>rfl
 | (i,x)::ps,cs,hp=>by
  simp only[xN,h.ak x (hp (i,x) (eK ..))];have ih:=λcs=>zcM h (place:=place) (ps:=ps) (cs:=cs) λp hq=>hp p (dU _ hq);simp only[ih]
theorem zdC{env bH:aD}{xs:List aW}(h:f_ env bH xs){n len:Nat}:∀{ps:List (Nat×aW)}{cs:aD},(∀p∈ps,p.2∈xs)->EJ n len env cs ps=EJ n len bH cs ps
 | [],_,_=>rfl
 | (i,x)::ps,cs,hp=>by
  simp only[EJ,h.ak x (hp (i,x) (eK ..))];have ih:=λcs=>zdC h (n:=n) (len:=len) (ps:=ps) (cs:=cs) λp hq=>hp p (dU _ hq);simp only[ih]
theorem zbF{env bH:aD}{xs:List aW}(h:f_ env bH xs){t:aB}{ps:Array (Nat×aW)}(hp:∀p∈ps.toList,p.2∈xs):ky P t ps env=ky P t ps bH:=by
 unfold ky;simp only[zcM h hp]
theorem zg3{env bH:aD}{gl:Nat->Nat->b_}{o:Oper}{H:Hp}(h:f_ env bH o.op.operands.toList):je P gl o env H=je P gl o bH H:=by
 obtain⟨dst,op,type,pos,after,guard⟩:=o;have hp:=h.ak;cases op<;>simp only[Op.operands] at h hp
 case build t ps=>simp only[je,zbF h (ps:=ps) λp hq=>by simpa using HQ (f:=(·.2)) hq]
 case buildSlice t n ps=>simp only[je,λa b c=>zdC h (n:=a) (len:=b) (cs:=c) (ps:=ps.toList) λp hq=>by simpa using HQ (f:=(·.2)) hq]
 case makeFunc fn first cap =>
  simp only[je,h.av (ys:=first.toList) λy hy=>by simp at hy ⊢;exact .inl hy,h.av (ys:=cap.toList) λy hy=>by simp at hy ⊢;exact .inr hy]
 case slice t x lo hi mx =>
  simp only[je,hp x (by simp),h.cQ (x:=lo) λy hy=>by subst hy;simp,h.cQ (x:=hi) λy hy=>by subst hy;simp]
  cases mx with
  | none=>rfl
  | some m=>simp only[hp m (by simp)]
 all_goals first
  |rfl
  |(simp[je,hp];done)
end
section
variable{P:aQ}
def kn(env:aD):aW->aD
 | .tmp t=>match env[t]? with
  | some (.sl sz xs (.yes _))=>env.set t (.sl sz xs .no)
  | _=>env
 | _=>env
def oh(env:aD):Option aW->aD
 | some x=>kn env x
 | none=>env
theorem zeS{env:aD}{t sz:Nat}{xs:aD}{e:aB}(h:env[t]?=some (.sl sz xs (.yes e))):kn env (.tmp t)=env.set t (.sl sz xs .no):=by
 simp only[kn,h]
theorem PL{env:aD}{t:Nat}{v:V}(h:env[t]?=some v)(hn:∀sz xs e,v≠.sl sz xs (.yes e)):kn env (.tmp t)=env:=by
 simp only[kn,h];split
 next h1=>cases h1;exact(hn _ _ _ rfl).elim
 ·rfl
theorem zg4{env:aD}{t sz:Nat}{xs:aD}{e:aB}(h:env[t]?=some (.sl sz xs (.yes e))):take env (.tmp t)=some (.sl sz xs (.yes e),env.set t (.sl sz xs .no)):=by
 simp only[take,zg,h,fm]
theorem zjm{env:aD}{t:Nat}{v:V}(h:env[t]?=some v)(hn:∀sz xs e,v≠.sl sz xs (.yes e)):take env (.tmp t)=some (aV v,env):=by
 cases v with
 | sl sz xs o=>cases o with
  | yes e=>exact(hn _ _ _ rfl).elim
  | _=>simp only[take,zg,h]
 | _=>simp only[take,zg,h]
theorem wG{env bH:aD}{x:aW}(h:f_ env bH [x]){v:V}{e:aD}(ht:take env x=some (v,e)):e=kn env x/\take bH x=some (v,kn bH x):=by
 cases x with
 | tmp t =>
  have ha:=h t (by simp)
  cases hv:env[t]? with
  | none=>simp[take,zg,hv] at ht
  | some v0 =>
   have GY:bH[t]?=some v0:=by rw[<- ha,hv]
   by_cases hy:∃sz xs e,v0=.sl sz xs (.yes e)
   ·obtain⟨sz,xs,e',rfl⟩:=hy;rw[zg4 hv] at ht;cases ht;exact⟨(zeS hv).symm,by rw[zg4 GY,zeS GY]⟩
   ·have hn:∀sz xs e,v0≠.sl sz xs (.yes e):=λsz xs e h=>hy ⟨sz,xs,e,h⟩;rw[zjm hv hn] at ht;cases ht;exact⟨(PL hv hn).symm,by rw[zjm GY hn,PL GY hn]⟩
 | const c =>
  simp only[take,ak,mQ,cq] at ht;obtain⟨u,hu,rfl,rfl⟩:=ht;exact⟨rfl,by simp[take,ak,hu,kn]⟩
 | global k =>
  simp only[take,ak,aS,bq,cq] at ht;obtain⟨rfl,rfl⟩:=ht;exact⟨rfl,by simp[take,ak,kn]⟩
 | func f =>
  simp only[take,ak,aS,bq,cq] at ht;obtain⟨rfl,rfl⟩:=ht;exact⟨rfl,by simp[take,ak,kn]⟩
end
section
variable{P:aQ}
theorem zeI{cx:Cx}{b:Builtin}{ts:Array aB}{args:sg}{env bH:aD}{H:Hp}{xs:List aW}{r:OR}{e:aD}{k:Option aW}(h:f_ env bH xs)(hx:∀x∈args.toList,x∈xs)
  (hb:cx.builtin b ts args env H=some (r,e)) (hk:k=match b with|.append=>args.toList.head?|_=>none):e=oh env k/\cx.builtin b ts args bH H=some (r,oh bH k):=by
 have hp:=h.ak;unfold Cx.builtin at hb ⊢;split at hb
 ·rename_i x t ha ht hb;have e1:=hp x (hx x (by simp[ha]))
  simp only[<- e1] at hk ⊢;subst hk;simp only[Option.bind_eq_bind,eF,bq,cq] at hb;obtain⟨u,h1,v,h2,h3,rfl⟩:=hb;refine⟨rfl,?_⟩;simp[h1,h2,h3,oh]
 ·rename_i x y t u ha ht hb;have e1:=hp y (hx y (by simp[ha]))
  simp only[ha,<- e1] at hk ⊢;subst hk;split at hb<;>try (cases hb;done)
  rename_i hg;rw[if_neg hg];simp only[Option.bind_eq_bind,eF,bq,cq] at hb;obtain⟨y',h1,⟨v,e'⟩,h2,w,h3,h4,rfl⟩:=hb;obtain⟨t1,t2⟩:=wG (h.mono (xs:=xs) (ys:=[x]) (by simpa using hx x (by simp[ha]))) h2
  refine⟨t1,?_⟩;simp[h1,t2,h3,h4,oh]
 ·rename_i x y ha hb;have e1:=hp x (hx x (by simp[ha]))
  have e2:=hp y (hx y (by simp[ha]))
  simp only[<- e1,<- e2] at hk ⊢;subst hk;simp only[Option.bind_eq_bind,eF] at hb;obtain⟨u,h1,v,h2,h3⟩:=hb;simp only[Option.bind_eq_bind,h1,h2,aT];split at h3<;>simp only[bq,reduceCtorEq,cq] at h3;obtain⟨rfl,rfl⟩:=h3;exact⟨rfl,rfl⟩
 ·rename_i x y ha hb;have e1:=hp x (hx x (by simp[ha]))
  have e2:=hp y (hx y (by simp[ha]))
  simp only[<- e1,<- e2] at hk ⊢;subst hk;simp only[Option.bind_eq_bind,eF] at hb;obtain⟨u,h1,v,h2,h3⟩:=hb;simp only[Option.bind_eq_bind,h1,h2,aT];split at h3<;>simp only[bq,reduceCtorEq,cq] at h3;obtain⟨rfl,rfl⟩:=h3;exact⟨rfl,rfl⟩
 ·cases hb
theorem zdD{env:aD}{x:aW}{v:V}(h:ak env x=some v)(hn:∀sz xs o,v≠.sl sz xs o):kn env x=env:=by
 cases x with
 | tmp t =>
  simp only[ak,zg] at h;split at h<;>simp only[bq,reduceCtorEq] at h;rename_i v0 h0;refine PL h0 λsz xs e e0=>?_;subst e0;exact hn sz xs .no h.symm
 | _=>rfl
theorem zeJ{cx:Cx}{t:aB}{x y:aW}{env bH:aD}{H:Hp}{lk:aO}{df:bP}{r:OR}{s':St}(hx:ak env x=ak bH x)(hy:ak env y=ak bH y)(aC:cx.mU t x y env H lk df=some (r,s')) :
  s'.env=kn env x/\cx.mU t x y bH H lk df=some (r,{ s' with env:=kn bH x }):=by
 unfold Cx.mU at aC ⊢;rw[<- hx,<- hy];simp only[Option.bind_eq_bind,eF] at aC;obtain⟨td,ht,aC⟩:=aC;simp only[Option.bind_eq_bind,ht,aT];split at aC<;>try (cases aC;done)
 simp only[eF] at aC;obtain⟨n,hn,i,hi,z,hz,yv,h1,ys,tQ,aC⟩:=aC;simp only[hn,hi,hz,h1,tQ,aT];split at aC<;>try (cases aC;done)
 rename_i hc;rw[if_neg hc];simp only[eF] at aC;obtain⟨xv,h2,aC⟩:=aC;simp only[h2,aT];have key:(∀sz xs o,xv≠.sl sz xs o)->kn env x=env/\kn bH x=bH:=λhn=>⟨zdD h2 hn,zdD (hx ▸ h2) hn⟩;split at aC
 ·obtain⟨k1,k2⟩:=key (λ_ _ _ e=>by cases e)
  rw[k1,k2];split at aC
  ·simp only[bq,cq] at aC;obtain⟨rfl,rfl⟩:=aC;exact⟨rfl,rfl⟩
  ·split at aC<;>try (cases aC;done)
   rename_i Ed;simp only[c_,qA,qn,bq,cq] at aC;obtain⟨rfl,rfl⟩:=aC;refine⟨rfl,?_⟩;simp only[Ed,aF,c_,qA,qn]
 ·obtain⟨k1,k2⟩:=key (λ_ _ _ e=>by cases e)
  rw[k1,k2];split at aC<;>try (cases aC;done)
  rename_i h3
  try simp only[h3]
  split at aC<;>try (cases aC;done)
  rename_i h4;rw[if_pos h4];simp only[c_,qA,jd,bq,cq] at aC ⊢;obtain⟨rfl,rfl⟩:=aC;exact⟨rfl,rfl,rfl⟩
 ·obtain⟨k1,k2⟩:=key (λ_ _ _ e=>by cases e)
  rw[k1,k2];split at aC<;>try (cases aC;done)
  rename_i h3
  try simp only[h3]
  split at aC
  next h4=>rw[if_pos h4];simp only[c_,qA,jd,bq,cq] at aC ⊢;obtain⟨rfl,rfl⟩:=aC;exact⟨rfl,rfl,rfl⟩
  ·rename_i h4;rw[if_neg h4];split at aC<;>try (cases aC;done)
   rename_i h5
   try simp only[h5]
   split at aC<;>try (cases aC;done)
   rename_i h6;rw[if_pos h6];simp only[c_,qA,qn,bq,cq] at aC ⊢;obtain⟨rfl,rfl⟩:=aC;exact⟨rfl,rfl,rfl⟩
 ·cases aC
theorem zg5{cx:Cx}{t:aB}{x y:aW}{env bH:aD}{H:Hp}{lk:aO}{df:bP}{r:OR}{s':St}(hx:ak env x=ak bH x)(hy:ak env y=ak bH y)(aC:cx.sJ t x y env H lk df=some (r,s')) :
  s'.env=env/\cx.sJ t x y bH H lk df=some (r,{ s' with env:=bH }):=by
 unfold Cx.sJ at aC ⊢;rw[<- hx,<- hy];simp only[Option.bind_eq_bind,eF] at aC;obtain⟨td,ht,aC⟩:=aC;simp only[Option.bind_eq_bind,ht,aT];split at aC<;>try (cases aC;done)
 simp only[eF] at aC;obtain⟨n,hn,yv,h1,ys,tQ,xv,h2,aC⟩:=aC;simp only[hn,h1,tQ,h2,aT];split at aC<;>try (cases aC;done)
 split at aC<;>try (cases aC;done)
 rename_i h3
 try simp only[h3]
 split at aC<;>try (cases aC;done)
 rename_i h4;rw[if_pos h4];simp only[c_,jd,bq,cq] at aC ⊢;obtain⟨rfl,rfl⟩:=aC;exact⟨rfl,rfl,rfl⟩
theorem zfM{cx:Cx}{t:aB}{x:aW}{lo hi:Option aW}{env bH:aD}{H:Hp}{lk:aO}{df:bP}{r:OR}{s':St}(hx:ak env x=ak bH x)(hl:cQ env lo=cQ bH lo)(hh:cQ env hi=cQ bH hi)(aC:cx.oK t x lo hi env H lk df=some (r,s')) :
  s'.env=env/\cx.oK t x lo hi bH H lk df=some (r,{ s' with env:=bH }):=by
 unfold Cx.oK at aC ⊢;rw[<- hx,<- hl,<- hh];split at aC<;>try (cases aC;done)
 ·rename_i h1 h2 h3 h4
  try simp only[h1,h2,h3,h4]
  split at aC<;>try (cases aC;done)
  rename_i h5 h6
  try simp only[h5,h6]
  split at aC<;>try (cases aC;done)
  rename_i h7;rw[if_pos h7];simp only[eC,qA,jd,bq,cq] at aC ⊢;obtain⟨rfl,rfl⟩:=aC;exact⟨rfl,rfl,rfl⟩
 ·rename_i h1 h2 h3
  try simp only[h1,h2,h3]
  split at aC<;>simp only[bq,reduceCtorEq,cq] at aC;rename_i h5
  try simp only[h5]
  obtain⟨rfl,rfl⟩:=aC;exact⟨rfl,rfl⟩
theorem zfN{P:aQ}{t:aB}{x:aW}{lo:Option aW}{env bH e:aD}{v:V}(h:f_ env bH [x])(hl:cQ env lo=cQ bH lo)(hm:Ld P t x lo env=some (v,e)):e=kn env x/\Ld P t x lo bH=some (v,kn bH x):=by
 unfold Ld at hm ⊢;rw[<- hl];split at hm<;>try (cases hm;done)
 rename_i h1 h2 h3
 try simp only[h1,h3]
 split at hm<;>try (cases hm;done)
 rename_i h4
 try simp only[h4]
 split at hm<;>simp only[bq,reduceCtorEq,cq] at hm;rename_i h5;obtain⟨rfl,rfl⟩:=hm;obtain⟨k1,k2⟩:=wG h h2;simp only[k2,h4,h5];exact⟨k1,trivial⟩
theorem zlE{P:aQ}{a b:aB}{x:aW}{env:aD}{r:V×aD}(h:v7 P a b x env=some r):Nat.beq a b=true:=by
 unfold v7 at h;split at h
 next e _=>exact e
 ·cases h
theorem zcN{P:aQ}{a b:aB}{x:aW}{env bH e:aD}{v:V}(h:f_ env bH [x])(hm:v7 P a b x env=some (v,e)):e=kn env x/\v7 P a b x bH=some (v,kn bH x):=by
 unfold v7 at hm ⊢;split at hm<;>try (cases hm;done)
 rename_i h1 h2
 try simp only[h1,h2]
 split at hm<;>simp only[bq,reduceCtorEq,cq] at hm;rename_i h3 h4;obtain⟨rfl,rfl⟩:=hm;obtain⟨k1,k2⟩:=wG h h4;simp only[k2,h3];exact⟨k1,trivial⟩
theorem zii{P:aQ}{a b:aB}{x:aW}{env bH:aD}(h:f_ env bH [x])(hm:v7 P a b x env=none):v7 P a b x bH=none:=by
 cases h2:v7 P a b x bH with
 | none=>rfl
 | some r =>
  obtain⟨v,e⟩:=r;have h':f_ bH env [x]:=λt ht=>(h t ht).symm;rw[(zcN h' h2).2] at hm;cases hm
theorem zeT{P:aQ}{a b:aB}{sz:Nat}{xs:aD}{o:uN}(h:Nat.beq a b=true):vy P a b (.sl sz xs o)=none:=by
 have h':=eG h;subst h';simp only[vy,Option.bind_eq_bind];cases P.underlying a with
 | none=>rfl
 | some d =>
  simp only[aT]
theorem PM{cx : Cx}{takes : cg}{o : Oper}{env bH : aD}{H : Hp}{lk : aO}{df : bP}{r : OR}{s' : St}(h : f_ env bH o.op.operands.toList)(aC : cx.op takes o env H lk df = some (r, s')) :
    s'.env = oh env (kl takes o) /\ cx.op takes o bH H lk df = some (r, { s' with env := oh bH (kl takes o) }) := by
  have N3 := zg3 (P := cx.P) (gl := cx.gl) (H := H) h;obtain⟨dst, op, type, pos, after, guard⟩ := o;have hp := h.ak;have read : kl takes ⟨dst, op, type, pos, after, guard⟩ = none -> (match je cx.P cx.gl ⟨dst, op, type, pos, after, guard⟩ env H with | none => none | some v => some (OR.val v, (⟨env, H, lk, df⟩ : St))) = some (r, s') ->
      s'.env = oh env (kl takes ⟨dst, op, type, pos, after, guard⟩) /\ (match je cx.P cx.gl ⟨dst, op, type, pos, after, guard⟩ bH H with | none => none | some v => some (OR.val v, (⟨bH, H, lk, df⟩ : St))) = some (r, { s' with env := oh bH (kl takes ⟨dst, op, type, pos, after, guard⟩) }) := by
    intro mq hh;rw[<- N3, mq];split at hh <;> simp only[bq, reduceCtorEq, cq] at hh;rename_i v hv;obtain⟨rfl, rfl⟩ := hh;exact⟨rfl, rfl⟩
  have PN : (match je cx.P cx.gl ⟨dst, op, type, pos, after, guard⟩ env H with | none => none | some v => some (OR.val v, (⟨env, H, lk, df⟩ : St))) = some (r, s') ->
      s'.env = env /\ (match je cx.P cx.gl ⟨dst, op, type, pos, after, guard⟩ bH H with | none => none | some v => some (OR.val v, (⟨bH, H, lk, df⟩ : St))) = some (r, { s' with env := bH }) := by
    intro hh;rw[<- N3];split at hh <;> simp only[bq, reduceCtorEq, cq] at hh;obtain⟨rfl, rfl⟩ := hh;exact⟨rfl, rfl⟩
  cases op
  case pick => exact read rfl aC
  case build => exact read rfl aC
  case buildSlice => exact read rfl aC
  case nilCheck => exact read rfl aC
  case binOp => exact read rfl aC
  case unOp => exact read rfl aC
  case convert c d x =>
    simp only[Cx.op] at aC ⊢;cases hm : v7 cx.P c d x env with
    | some ve =>
      obtain⟨v, e⟩ := ve;simp only[hm, bq, cq] at aC;obtain⟨rfl, rfl⟩ := aC;obtain⟨h1, h2⟩ := zcN (h.mono (by simp[Op.operands])) hm
      have tV := zlE hm;simp only[h2, kl, tV, aF];exact⟨h1, rfl⟩
    | none =>
      simp only[hm] at aC;have Dt := zii (h.mono (by simp[Op.operands])) hm
      simp only[Dt];cases CG : cx.uq (vi c) with
      | true =>
        simp only[CG] at aC ⊢;rw[<- hp x (by simp[Op.operands])]
        split at aC <;> simp only[bq, reduceCtorEq, cq] at aC;rename_i v hv;obtain⟨rfl, rfl⟩ := aC;cases tV : Nat.beq c d with
        | false => simp[kl, tV, oh]
        | true =>
          have hq : ∀e2 : aD, (∀t, x = .tmp t -> e2[t]? = env[t]?) -> kn e2 x = e2 := λe2 IA => by
            cases x with
            | tmp t =>
              cases hn : env[t]? with
              | none => simp[kn, IA t rfl, hn]
              | some v0 =>
                refine PL ((IA t rfl).trans hn) λsz xs e e0 => ?_;subst e0;have : ak env (.tmp t) = some (.sl sz xs .no) := by simp[ak, zg, hn, aV]
                simp only[Lc, this, znF, zeT tV, reduceCtorEq] at hv
            | _ => rfl
          have e1 : kn env x = env := hq env λ_ _ => rfl;have e2 : kn bH x = bH := hq bH λt e => (h t (by simp[e, Op.operands])).symm
          simp only[kl, tV, aF, oh, e1, e2];exact⟨trivial, trivial⟩
      | false =>
      simp only[CG] at aC ⊢;cases tV : Nat.beq c d with
      | false => exact read (by simp only[kl, tV]; rfl) aC
      | true =>
        have hq : ∀e2, (∀t, x = .tmp t -> e2[t]? = env[t]?) -> kn e2 x = e2 := λe2 IA => by
          cases x with
          | tmp t =>
            cases hn : env[t]? with
            | none => simp[kn, IA t rfl, hn]
            | some v0 =>
              refine PL ((IA t rfl).trans hn) λsz xs e e0 => ?_;subst e0;have : ak env (.tmp t) = some (.sl sz xs .no) := by simp[ak, zg, hn, aV]
              simp only[je, this, Option.bind_eq_bind, aT, zeT tV] at aC;cases aC
          | _ => rfl
        have := PN aC;obtain⟨h1, h2⟩ := this;have e1 : kn env x = env := hq env λ_ _ => rfl;have e2 : kn bH x = bH := hq bH λt e => (h t (by simp[e, Op.operands])).symm
        simp only[kl, tV, aF, oh, e1, e2];exact⟨h1, h2⟩
  case makeInterface => exact read rfl aC
  case makeFunc => exact read rfl aC
  case slice t x lo hi mx =>
    cases mx with
    | some m => exact read rfl aC
    | none =>
      simp only[Cx.op] at aC ⊢;cases hf : xA takes x lo hi with
      | true =>
        simp only[hf] at aC ⊢;split at aC <;> simp only[bq, reduceCtorEq, cq] at aC;rename_i v e hv;obtain⟨rfl, rfl⟩ := aC
        obtain⟨k1, k2⟩ := zfN (h.mono (by simp[Op.operands])) (by
          cases lo with
          | none => rfl
          | some z => simp only[cQ]; rw[hp z (by simp[Op.operands])]) hv
        simp only[k2, kl, hf, aF];exact⟨k1, rfl⟩
      | false =>
      simp only[hf] at aC ⊢;have hnt : kl takes ⟨dst, .slice t x lo hi none, type, pos, after, guard⟩ = none := by simp[kl, hf]
      cases hu : p_ cx.P cx.uq t with
      | false =>
        simp only[hu] at aC;exact read hnt aC
      | true =>
        simp only[hu] at aC;rw[hnt];have ho : ∀y : Option aW, (∀z, y = some z -> z ∈ (Op.slice t x lo hi none).operands.toList) -> cQ env y = cQ bH y := λy hy => by
          cases y with
          | none => rfl
          | some z => simp only[cQ]; rw[hp z (hy z rfl)]
        obtain⟨e1, e2⟩ := zfM (hp x (by simp[Op.operands])) (ho lo λz e => by subst e; simp[Op.operands]) (ho hi λz e => by subst e; simp[Op.operands]) aC
        exact⟨e1, e2⟩
  case fieldAddr => exact read rfl aC
  case field => exact read rfl aC
  case indexAddr => exact read rfl aC
  case index => exact read rfl aC
  case lookup => exact read rfl aC
  case typeAssert => exact read rfl aC
  case extract => exact read rfl aC
  case ready => exact read rfl aC
  case waits => exact read rfl aC
  case sliceToArrayPointer => exact read rfl aC
  case makeChan => exact read rfl aC
  case mapEntry => exact read rfl aC
  case entryStore => exact read rfl aC
  case entry => exact read rfl aC
  case go => exact read rfl aC
  case send => exact read rfl aC
  case recv => exact read rfl aC
  case select => exact read rfl aC
  case assign x =>
    simp only[Cx.op] at aC ⊢;split at aC <;> simp only[bq, reduceCtorEq, cq] at aC;rename_i v e ht;obtain⟨rfl, rfl⟩ := aC;obtain⟨t1, t2⟩ := wG (h.mono (by simp[Op.operands])) ht
    simp only[t2];exact⟨t1, rfl⟩
  case box t x =>
    simp only[Cx.op] at aC ⊢;split at aC <;> try (cases aC; done)
    rename_i v e ht;split at aC <;> try (cases aC; done)
    rename_i hk;simp only[qp, c_, qn, bq, cq] at aC;obtain⟨rfl, rfl⟩ := aC;obtain⟨t1, t2⟩ := wG (h.mono (by simp[Op.operands])) ht
    simp only[t2, hk, qp, c_, qn];exact⟨t1, rfl⟩
  case move x =>
    have yes : kl takes ⟨dst, .move x, type, pos, after, guard⟩ = some x -> (match take env x with | none => none | some (v, env) => some (OR.val v, (⟨env, H, lk, df⟩ : St))) = some (r, s') ->
        s'.env = oh env (kl takes ⟨dst, .move x, type, pos, after, guard⟩) /\ (match take bH x with | none => none | some (v, env) => some (OR.val v, (⟨env, H, lk, df⟩ : St))) = some (r, { s' with env := oh bH (kl takes ⟨dst, .move x, type, pos, after, guard⟩) }) := by
      intro mq aC;split at aC <;> simp only[bq, reduceCtorEq, cq] at aC;rename_i v e ht;obtain⟨rfl, rfl⟩ := aC;obtain⟨t1, t2⟩ := wG (h.mono (by simp[Op.operands])) ht
      simp only[t2, mq];exact⟨t1, rfl⟩
    cases dst with
    | none => exact read rfl aC
    | some d =>
      cases hb : takes.any (Nat.beq d) with
      | true =>
        simp only[Cx.op, hb] at aC ⊢;exact yes (by simp only[kl, hb, aF]) aC
      | false =>
        simp only[Cx.op, hb] at aC ⊢;exact read (by simp only[kl, hb]; rfl) aC
  case alloc t =>
    simp only[Cx.op] at aC ⊢;split at aC <;> try (cases aC; done)
    rename_i z hz;split at aC <;> try (cases aC; done)
    rename_i hk;simp only[qp, qn, bq, cq] at aC;obtain⟨rfl, rfl⟩ := aC;simp only[hk, qp, qn];exact⟨rfl, rfl⟩
  case makeMap t rr =>
    simp only[Cx.op] at aC ⊢;split at aC <;> try (cases aC; done)
    simp only[qn, bq, cq] at aC;obtain⟨rfl, rfl⟩ := aC;simp only[qn];exact⟨rfl, rfl⟩
  case range t x =>
    simp only[Op.operands] at hp;simp only[Cx.op] at aC ⊢;rw[<- hp x (by simp)]
    split at aC <;> try (cases aC; done)
    rename_i l h1 h2;simp only[qn, bq, cq] at aC;obtain⟨rfl, rfl⟩ := aC;simp only[qn];exact⟨rfl, rfl⟩
  case panic x =>
    simp only[Op.operands] at hp;simp only[Cx.op] at aC ⊢;rw[<- hp x (by simp)]
    split at aC <;> simp only[bq, reduceCtorEq, cq] at aC;rename_i t v h1;obtain⟨rfl, rfl⟩ := aC;simp only[];exact⟨rfl, rfl⟩
  case mapUpdate t m k x =>
    simp only[Op.operands] at hp;simp only[Cx.op] at aC ⊢;rw[<- hp m (by simp), <- hp k (by simp), <- hp x (by simp)]
    split at aC <;> try (cases aC; done)
    rename_i b kv v h1 h2 h3
    try simp only[h1, h2, h3]
    split at aC <;> try (cases aC; done)
    rename_i hk;rw[if_neg hk];simp only[qp, eC, jd] at aC ⊢;split at aC <;> try (cases aC; done)
    rename_i es h4
    try simp only[h4]
    split at aC <;> simp only[bq, reduceCtorEq, cq] at aC;rename_i iC h5;obtain⟨rfl, rfl⟩ := aC
    try simp only[]
    exact⟨rfl, rfl⟩
  case insert t m k x =>
    simp only[Op.operands] at hp;simp only[Cx.op] at aC ⊢;rw[<- hp m (by simp), <- hp k (by simp), <- hp x (by simp)]
    split at aC <;> try (cases aC; done)
    rename_i b kv v h1 h2 h3
    try simp only[h1, h2, h3]
    split at aC <;> try (cases aC; done)
    rename_i hk;rw[if_neg hk];simp only[qp, eC, jd] at aC ⊢;split at aC <;> try (cases aC; done)
    rename_i es h4
    try simp only[h4]
    split at aC <;> simp only[bq, reduceCtorEq, cq] at aC;rename_i iC h5;obtain⟨rfl, rfl⟩ := aC
    try simp only[]
    exact⟨rfl, rfl⟩
  case defer c =>
    simp only[Op.operands] at hp h;simp only[Cx.op] at aC ⊢;split at aC <;> try (cases aC; done)
    rename_i f gF;simp only[Call.operands, gF] at hp h;rw[<- hp f (by simp), <- h.av (ys := c.args.toList) (λy hy => by simp at hy ⊢; exact .inr hy)]
    split at aC <;> simp only[bq, reduceCtorEq, cq] at aC;rename_i f' first cap args h1 h2
    obtain⟨rfl, rfl⟩ := aC;simp only[];exact⟨rfl, rfl⟩
  case makeSlice t l c =>
    simp only[Op.operands] at hp;simp only[Cx.op] at aC ⊢;rw[<- hp l (by simp), <- hp c (by simp)]
    split at aC <;> try (cases aC; done)
    rename_i e k1 l' k2 c' h1 h2 h3
    try simp only[h1, h2, h3]
    split at aC <;> try (cases aC; done)
    rename_i n i z g1 g2 g3
    try simp only[g1, g2, g3]
    split at aC <;> try (cases aC; done)
    rename_i g4;rw[if_neg g4];split at aC
    · rename_i g5
      try simp only[g5]
      simp only[c_, qA, qn, bq, cq] at aC ⊢;obtain⟨rfl, rfl⟩ := aC;exact⟨rfl, rfl, rfl⟩
    rename_i g5'
    try simp only[g5']
    split at aC
    · rename_i g5
      rw[if_pos g5];simp only[bq, cq] at aC;obtain⟨rfl, rfl⟩ := aC;exact⟨rfl, rfl⟩
    · rename_i g5
      rw[if_neg g5];split at aC <;> try (cases aC; done)
      rename_i g6;rw[if_pos g6];simp only[c_, qn, bq, cq] at aC ⊢;obtain⟨rfl, rfl⟩ := aC;exact⟨rfl, rfl, rfl⟩
  case next it b =>
    cases b with
    | false => exact read rfl aC
    | true =>
      simp only[Op.operands] at hp;simp only[Cx.op] at aC ⊢;rw[<- hp it (by simp)]
      split at aC <;> try (cases aC; done)
      rename_i bb h1
      try simp only[h1]
      split at aC <;> try (cases aC; done)
      rename_i l pos h2
      try simp only[h2]
      split at aC
      · rename_i g5
        rw[if_pos g5];simp only[qA, jd, bq, cq] at aC ⊢;obtain⟨rfl, rfl⟩ := aC;exact⟨rfl, rfl, rfl⟩
      · rename_i g5
        rw[if_neg g5];simp only[bq, cq] at aC ⊢;obtain⟨rfl, rfl⟩ := aC;exact⟨rfl, rfl, rfl⟩
  case store t a x =>
    simp only[Op.operands] at hp h;simp only[Cx.op] at aC ⊢;rw[<- hp a (by simp)]
    split at aC <;> try (cases aC; done)
    · rename_i b off h1
      try simp only[h1]
      split at aC <;> try (cases aC; done)
      rename_i v e n cs ty h2 h3 h4;obtain⟨t1, t2⟩ := wG (h.mono (by simp)) h2
      try simp only[t2, h3, h4]
      simp only[qp, c_, eC, jd] at aC ⊢;split at aC <;> try (cases aC; done)
      rename_i g5;rw[if_pos g5];simp only[bq, cq] at aC ⊢;obtain⟨rfl, rfl⟩ := aC;exact⟨t1, rfl, rfl⟩
    · rename_i b u k h1
      try simp only[h1]
      split at aC <;> try (cases aC; done)
      rename_i v e n eI sz cs ty h2 h3 h4;obtain⟨t1, t2⟩ := wG (h.mono (by simp)) h2
      try simp only[t2, h3, h4]
      simp only[qp, eC, jd] at aC ⊢;split at aC <;> try (cases aC; done)
      rename_i g5;rw[if_pos g5];simp only[bq, cq] at aC ⊢;obtain⟨rfl, rfl⟩ := aC;exact⟨t1, rfl, rfl⟩
  case load t a =>
    have yes : kl takes ⟨dst, .load t a, type, pos, after, guard⟩ = none := rfl;have W1 : ak env a = ak bH a := hp a (by simp[Op.operands])
    cases dst with
    | none => exact read yes aC
    | some d =>
      cases hb : takes.any (Nat.beq d) with
      | false =>
        simp only[Cx.op, hb] at aC ⊢;exact read yes aC
      | true =>
        simp only[Cx.op, hb] at aC ⊢;rw[<- W1];split at aC <;> try (cases aC; done)
        rename_i b off h1 h2
        try simp only[h1, h2]
        split at aC <;> try (cases aC; done)
        rename_i cs ty h3
        try simp only[h3]
        split at aC <;> try (cases aC; done)
        · rename_i sz xs e h4
          try simp only[h4]
          simp only[fm, jd, bq, cq] at aC ⊢;obtain⟨rfl, rfl⟩ := aC;exact⟨rfl, rfl, rfl⟩
        · rename_i h4
          try simp only[h4]
          simp only[bq, cq] at aC ⊢;obtain⟨rfl, rfl⟩ := aC;exact⟨rfl, rfl, rfl⟩
        · rename_i h4
          try simp only[h4]
          simp only[bq, cq] at aC ⊢;obtain⟨rfl, rfl⟩ := aC;exact⟨rfl, rfl, rfl⟩
  case call c =>
    simp only[Op.operands] at hp h;simp only[Cx.op] at aC ⊢;cases gF : c.callee with
    | value f =>
      simp only[gF] at aC ⊢;simp only[Call.operands, gF] at hp h;rw[<- hp f (by simp), <- h.av (ys := c.args.toList) (λy hy => by simp at hy ⊢; exact .inr hy)]
      split at aC <;> try (cases aC; done)
      rename_i f' args h1 h2
      try simp only[h1, h2]
      split at aC <;> simp only[bq, reduceCtorEq, cq] at aC;rename_i r' H' h3;obtain⟨rfl, rfl⟩ := aC
      try simp only[]
      refine⟨?_, ?_⟩ <;> simp[kl, gF, oh]
    | invoke rc m =>
      simp only[gF] at aC ⊢;simp only[Call.operands, gF] at hp h;rw[<- hp rc (by simp), <- h.av (ys := c.args.toList) (λy hy => by simp at hy ⊢; exact .inr hy)]
      split at aC <;> try (cases aC; done)
      rename_i f' args h1 h2
      try simp only[h1, h2]
      split at aC <;> simp only[bq, reduceCtorEq, cq] at aC;rename_i r' H' h3;obtain⟨rfl, rfl⟩ := aC
      try simp only[]
      refine⟨?_, ?_⟩ <;> simp[kl, gF, oh]
    | builtin b =>
      simp only[gF] at aC ⊢;simp only[Call.operands, gF] at hp h;have plain : (match cx.builtin b c.argTypes c.args env H with | none => none | some (r, env) => some (r, (⟨env, H, lk, df⟩ : St))) = some (r, s') ->
          s'.env = oh env (kl takes ⟨dst, .call c, type, pos, after, guard⟩) /\ (match cx.builtin b c.argTypes c.args bH H with | none => none | some (r, env) => some (r, (⟨env, H, lk, df⟩ : St))) = some (r, { s' with env := oh bH (kl takes ⟨dst, .call c, type, pos, after, guard⟩) }) := by
        intro aC;split at aC <;> simp only[bq, reduceCtorEq, cq] at aC;rename_i r' e h1;obtain⟨rfl, rfl⟩ := aC;have hg : e = oh env (kl takes ⟨dst, .call c, type, pos, after, guard⟩) /\ cx.builtin b c.argTypes c.args bH H = some (r', oh bH (kl takes ⟨dst, .call c, type, pos, after, guard⟩)) := by
          exact zeI (xs := c.args.toList) (h.mono λy hy => by simpa using hy) (λy hy => hy) h1 (by cases b <;> simp[kl, gF])
        obtain⟨rfl, hg⟩ := hg;refine⟨rfl, ?_⟩;simp only[hg]
      split at aC
      · rename_i x y t ts fD CI
        obtain⟨e1, e2⟩ := zg5 (hp x (by have : x ∈ c.args.toList := by rw[fD]; simp
                                        simpa using this)) (hp y (by have : y ∈ c.args.toList := by rw[fD]; simp
                                                                     simpa using this)) aC
        have : kl takes ⟨dst, .call c, type, pos, after, guard⟩ = none := by simp[kl, gF]
        rw[this];exact⟨e1, e2⟩
      · rename_i x y t u fD CI
        have : kl takes ⟨dst, .call c, type, pos, after, guard⟩ = some x := by simp[kl, gF, fD]
        split at aC
        · rename_i hu
          split at aC <;> try (cases aC; done)
          rename_i Ly
          obtain⟨e1, e2⟩ := zeJ (hp x (by have : x ∈ c.args.toList := by rw[fD]; simp
                                          simpa using this)) (hp y (by have : y ∈ c.args.toList := by rw[fD]; simp
                                                                       simpa using this)) aC
          simp only[Ly, aF, this, oh];exact⟨e1, e2⟩
        · exact plain aC
      · exact plain aC
end
section
variable{P:aQ}
theorem CK:∀{a b:bM},n6 a b=true->a=b
 | [],[],_=>rfl
 | [],_::_,h=>by simp[n6] at h
 | _::_,[],h=>by simp[n6] at h
 | x::xs,y::ys,h=>by
  simp only[n6,d_] at h;rw[eG h.1,CK h.2]
mutual
theorem V.iN:∀{a b:V},V.same a b=true->a=b
 | .bool a,b,h=>by cases b<;>simp[V.same] at h<;>simp[h]
 | .int k n,b,h=>by cases b<;>simp[V.same] at h;simp[h]
 | .str a,b,h=>by cases b<;>simp[V.same] at h;simp[CK h]
 | .fT,b,h=>by cases b<;>simp[V.same] at h;rfl
 | .ptr x y,b,h=>by cases b<;>simp[V.same] at h;simp[h]
 | .eT x y,b,h=>by cases b<;>simp[V.same] at h;simp[h]
 | .obj x,b,h=>by cases b<;>simp[V.same] at h;simp[h]
 | .vp xs,b,h=>by cases b<;>simp[V.same] at h;rw[fW h]
 | .aG,b,h=>by cases b<;>simp[V.same] at h;rfl
 | .sl z xs o,b,h=>by cases b<;>simp[V.same] at h;rw[h.1,fW h.2.2,h.2.1]
 | .sr x y z u,b,h=>by cases b<;>simp[V.same] at h;simp[h]
 | .mw,b,h=>by cases b<;>simp[V.same] at h;rfl
 | .map x,b,h=>by cases b<;>simp[V.same] at h;simp[h]
 | .pH,b,h=>by cases b<;>simp[V.same] at h;rfl
 | .fn f as cs,b,h=>by
  cases b<;>try (simp[V.same] at h;done)
  rename_i f' as' cs';simp only[V.same,d_] at h;obtain⟨⟨h1,h2⟩,h3⟩:=h;split at h1
  next e=>rw[e,fW h2,fW h3]
  ·cases h1
 | .bN,b,h=>by cases b<;>simp[V.same] at h;rfl
 | .dF t v,b,h=>by cases b<;>simp[V.same] at h;rw[h.1,V.iN h.2]
 | .agg xs,b,h=>by cases b<;>simp[V.same] at h;rw[fW h]
 | .br xs,b,h=>by cases b<;>simp[V.same] at h;rw[fW h]
 | .dW,b,h=>by cases b<;>simp[V.same] at h;rfl
 | .dB x y z,b,h=>by cases b<;>simp[V.same] at h;simp[h]
 | .gh x y z,b,h=>by cases b<;>simp[V.same] at h;simp[h]
theorem fW:∀{a b:aD},fj a b=true->a=b
 | [],[],_=>rfl
 | [],_::_,h=>by simp[fj] at h
 | _::_,[],h=>by simp[fj] at h
 | x::xs,y::ys,h=>by
  simp only[fj,d_] at h;rw[V.iN h.1,fW h.2]
end
theorem Bk:∀(a:bM),n6 a a=true
 | []=>rfl
 | x::xs=>by simp[n6,Bk xs]
mutual
theorem V.dh:∀(a:V),V.same a a=true
 | .bool a=>by simp[V.same]
 | .int k n=>by simp[V.same]
 | .str a=>by simp[V.same,Bk]
 | .fT=>rfl
 | .ptr x y=>by simp[V.same]
 | .eT x y=>by simp[V.same]
 | .obj x=>by simp[V.same]
 | .vp xs=>by simp[V.same,dJ xs]
 | .aG=>rfl
 | .sl z xs o=>by simp[V.same,dJ xs]
 | .sr x y z u=>by simp[V.same]
 | .mw=>rfl
 | .map x=>by simp[V.same]
 | .pH=>rfl
 | .fn f as cs=>by simp[V.same,dJ as,dJ cs]
 | .bN=>rfl
 | .dF t v=>by simp[V.same,V.dh v]
 | .agg xs=>by simp[V.same,dJ xs]
 | .br xs=>by simp[V.same,dJ xs]
 | .dW=>rfl
 | .dB x y z=>by simp[V.same]
 | .gh x y z=>by simp[V.same]
theorem dJ:∀(a:aD),fj a a=true
 | []=>rfl
 | x::xs=>by simp[fj,V.dh x,dJ xs]
end
theorem LO(m i:Nat):bit m i=m.testBit i:=by
 unfold bit;rw[Nat.testBit_eq_decide_div_mod_eq];show Nat.beq ((m >>> i) % 2) 1=_;rw[Nat.shiftRight_eq_div_pow];cases h:Nat.beq (m / 2 ^ i % 2) 1 with
 | true=>simp[eG h]
 | false=>have:=Nat.ne_of_beq_eq_false h;simp;omega
theorem vf(a b i:Nat):bit (Nat.lor a b) i=(bit a i || bit b i):=by
 simp only[LO];exact ud a b i
theorem yc(k i:Nat):bit (Nat.pow 2 k) i=decide (k=i):=by
 rw[LO];exact E_
theorem zg6{a b i:Nat}(h:Nat.beq (Nat.land a b) 0=true)(ha:bit a i=true)(hb:bit b i=true):False:=by
 have h1:a &&& b=0:=eG h;have h2:(a &&& b).testBit i=(a.testBit i && b.testBit i):=Nat.testBit_and a b i;rw[LO] at ha hb;rw[h1,ha,hb] at h2;simp at h2
theorem yD(i:Nat):bit 0 i=false:=by rw[LO];simp
theorem vj{t:Nat}:∀{xs:List aW},Operand.tmp t∈xs->bit (gm xs) t=true
 | .tmp u::xs,h=>by
  simp only[gm,vf,yc,p7,decide_eq_true_eq];rcases dG.1 h with h|h
  ·cases h;exact .inl rfl
  ·exact .inr (vj h)
 | .const _::xs,h=>by
  simp only[gm];rcases dG.1 h with h|h
  ·cases h
  ·exact vj h
 | .global _::xs,h=>by
  simp only[gm];rcases dG.1 h with h|h
  ·cases h
  ·exact vj h
 | .func _::xs,h=>by
  simp only[gm];rcases dG.1 h with h|h
  ·cases h
  ·exact vj h
theorem zcO{j m:Nat}:∀{rs:List Rec},maskAt rs j=some m->∃q∈rs,q.idx=j/\q.m=m
 | [],h=>by simp[maskAt] at h
 | r::rs,h=>by
  simp only[maskAt] at h;split at h
  next hb=>cases h;exact⟨r,eK ..,eG hb,rfl⟩
  ·obtain⟨q,h1,h2⟩:=zcO h;exact⟨q,dU _ h1,h2⟩
theorem W4{rs:List Rec}:∀{es:List Edge}{m:Nat},wB rs es=some m->(∀e∈es,Region.binds .any e=true->∃q∈rs,q.idx=e.on) /\
  ∀i,bit m i=true->∃e∈es,Region.binds .any e=true/\(e.on=i\/∃q∈rs,q.idx=e.on/\bit q.m i=true)
 | [],m,h=>by
  simp only[wB,bq] at h;subst h;exact⟨λe he=>by simp at he,λi hi=>by rw[yD] at hi;cases hi⟩
 | e::es,m,h=>by
  simp only[wB] at h;split at h
  ·rename_i hb;obtain⟨h1,h2⟩:=W4 h;refine⟨λe' he cY=>?_,λi hi=>?_⟩
   ·rcases dG.1 he with rfl|he
    ·rw[hb] at cY;cases cY
    ·exact h1 e' he cY
   ·obtain⟨e',he,r⟩:=h2 i hi;exact⟨e',dU _ he,r⟩
  ·rename_i hb;split at h<;>try (cases h;done)
   rename_i m1 uR;split at h<;>try (cases h;done)
   rename_i k hk;cases h;obtain⟨q,hq,IB,hqm⟩:=zcO uR;obtain⟨h1,h2⟩:=W4 hk;refine⟨λe' he cY=>?_,λi hi=>?_⟩
   ·rcases dG.1 he with rfl|he
    ·exact⟨q,hq,IB⟩
    ·exact h1 e' he cY
   ·simp only[vf,yc,p7,decide_eq_true_eq] at hi;rcases hi with hi|hi|hi
    ·obtain⟨e',he,r⟩:=h2 i hi;exact⟨e',dU _ he,r⟩
    ·exact⟨e,eK ..,hb,.inr ⟨q,hq,IB,by rw[hqm];exact hi⟩⟩
    ·exact⟨e,eK ..,hb,.inl hi⟩
theorem yd{cx:Cx}{takes:cg}{o:Oper}{env:aD}{H:Hp}{lk:aO}{df:bP}{r:OR}{s':St}(hn:q9 cx.P cx.uq takes o=false)(aC:cx.op takes o env H lk df=some (r,s')) :
  ∃v,r=.val v/\s'=⟨oh env (kl takes o),H,lk,df⟩/\∀AT AU,cx.op takes o env H AT AU=some (.val v,⟨oh env (kl takes o),H,AT,AU⟩):=by
 have iZ:=(PM (bH:=env) (λt _=>rfl) aC).1
 suffices h:∃v e,r=.val v/\s'=⟨e,H,lk,df⟩/\∀AT AU,cx.op takes o env H AT AU=some (.val v,⟨e,H,AT,AU⟩) by
  obtain⟨v,e,h1,h2,h3⟩:=h;rw[h2] at iZ;simp only at iZ;subst iZ;exact⟨v,h1,h2,h3⟩
 have read:(match je cx.P cx.gl o env H with|none=>none|some v=>some (OR.val v,(⟨env,H,lk,df⟩:St)))=some (r,s')->∃v e,r=.val v/\s'=⟨e,H,lk,df⟩/\∀AT AU,(match je cx.P cx.gl o env H with|none=>none|some v=>some (OR.val v,(⟨env,H,AT,AU⟩:St)))=some (.val v,⟨e,H,AT,AU⟩):=by
  intro hh;split at hh<;>simp only[bq,reduceCtorEq,cq] at hh;rename_i v hv;obtain⟨rfl,rfl⟩:=hh;exact⟨v,env,rfl,rfl,λ_ _=>rfl⟩
 have mv:∀x,(match take env x with|none=>none|some (v,env)=>some (OR.val v,(⟨env,H,lk,df⟩:St)))=some (r,s')->∃v e,r=.val v/\s'=⟨e,H,lk,df⟩/\∀AT AU,(match take env x with|none=>none|some (v,env)=>some (OR.val v,(⟨env,H,AT,AU⟩:St)))=some (.val v,⟨e,H,AT,AU⟩):=by
  intro x hh;split at hh<;>simp only[bq,reduceCtorEq,cq] at hh;rename_i v e hv;obtain⟨rfl,rfl⟩:=hh;exact⟨v,e,rfl,rfl,λ_ _=>rfl⟩
 obtain⟨dst,op,type,pos,after,guard⟩:=o;cases op<;>simp only[q9,Pd] at hn
 case load t a =>
  cases dst with
  | none=>exact read aC
  | some d =>
   simp only at hn;simp only[Cx.op,hn] at aC ⊢;exact read aC
 case move x =>
  cases dst with
  | none=>exact read aC
  | some d =>
   cases hb:takes.any (Nat.beq d) with
   | true =>
    simp only[Cx.op,hb] at aC ⊢;exact mv x aC
   | false =>
    simp only[Cx.op,hb] at aC ⊢;exact read aC
 case assign x =>
  simp only[Cx.op] at aC ⊢;exact mv x aC
 case slice t x lo hi mx =>
  cases mx with
  | some m=>exact read aC
  | none =>
   simp only at hn;simp only[Cx.op,hn] at aC ⊢;cases hf:xA takes x lo hi with
   | false =>
    simp only[hf] at aC ⊢;exact read aC
   | true =>
    simp only[hf] at aC ⊢;split at aC<;>simp only[bq,reduceCtorEq,cq] at aC;rename_i v e hv;obtain⟨rfl,rfl⟩:=aC;exact⟨v,e,rfl,rfl,λ_ _=>rfl⟩
 case call c =>
  cases gF:c.callee<;>simp only[gF,Pd] at hn;rename_i bi;have FB:∀lk df,cx.op takes ⟨dst,.call c,type,pos,after,guard⟩ env H lk df=(match cx.builtin bi c.argTypes c.args env H with|none=>none|some (r,env)=>some (r,(⟨env,H,lk,df⟩:St))):=by
   intro lk df;simp only[Cx.op,gF];split
   ·simp at hn
   next x y t u fD CI=>simp only[CI] at hn;simp only[hn];cases cx.builtin .append c.argTypes c.args env H<;>rfl
   ·rfl
  simp only[FB] at aC ⊢;clear FB;split at aC<;>simp only[bq,reduceCtorEq,cq] at aC;rename_i r' e h1;obtain⟨rfl,rfl⟩:=aC;have:∃v,r'=.val v:=by
   unfold Cx.builtin at h1;split at h1<;>try (cases h1;done)
   ·simp only[Option.bind_eq_bind,eF,bq,cq] at h1;obtain⟨u,_,v,_,h3,rfl⟩:=h1;exact⟨_,h3.symm⟩
   ·split at h1<;>try (cases h1;done)
    simp only[Option.bind_eq_bind,eF,bq,cq] at h1;obtain⟨y',_,⟨v,e'⟩,_,w,_,h4,rfl⟩:=h1;exact⟨_,h4.symm⟩
   all_goals
    simp only[Option.bind_eq_bind,eF] at h1;obtain⟨u,_,v,_,h3⟩:=h1;split at h3<;>simp only[bq,reduceCtorEq,cq] at h3;exact⟨_,h3.1.symm⟩
  obtain⟨v,rfl⟩:=this
  try simp only[h1]
  exact⟨v,e,rfl,rfl,λ_ _=>rfl⟩
 case convert c d x =>
  simp only[Cx.op] at aC ⊢;split at aC
  next v e hv=>simp only[bq,cq] at aC;obtain⟨rfl,rfl⟩:=aC;exact⟨v,e,rfl,rfl,λ_ _=>rfl⟩
  ·split at aC
   ·split at aC<;>simp only[bq,reduceCtorEq,cq] at aC;rename_i v hv;obtain⟨rfl,rfl⟩:=aC;exact⟨v,env,rfl,rfl,λ_ _=>rfl⟩
   ·exact read aC
 all_goals exact read aC
theorem znL{cx:Cx}{takes:cg}{o:Oper}{env:aD}{H H2:Hp}{lk:aO}{df:bP}{v:V}{s':St}(hn:q9 cx.P cx.uq takes o=false)(hf:kV cx.P cx.uq o=false)(aC:cx.op takes o env H lk df=some (.val v,s')) :
  ∀AT AU,∃s2,cx.op takes o env H2 AT AU=some (.val v,s2):=by
 intro AT AU;have read:je cx.P cx.gl o env H2=je cx.P cx.gl o env H->(match je cx.P cx.gl o env H with|none=>none|some v=>some (OR.val v,(⟨env,H,lk,df⟩:St)))=some (.val v,s')->∃s2,(match je cx.P cx.gl o env H2 with|none=>none|some v=>some (OR.val v,(⟨env,H2,AT,AU⟩:St)))=some (.val v,s2):=by
  intro e hh;rw[e];split at hh<;>simp only[bq,reduceCtorEq,cq] at hh;rename_i u hv;obtain⟨h1,rfl⟩:=hh;cases h1;exact⟨_,rfl⟩
 have mv:∀x,(match take env x with|none=>none|some (v,env)=>some (OR.val v,(⟨env,H,lk,df⟩:St)))=some (.val v,s')->∃s2,(match take env x with|none=>none|some (v,env)=>some (OR.val v,(⟨env,H2,AT,AU⟩:St)))=some (.val v,s2):=by
  intro x hh;split at hh<;>simp only[bq,reduceCtorEq,cq] at hh;rename_i u e hv;obtain⟨h1,rfl⟩:=hh;cases h1;exact⟨_,rfl⟩
 obtain⟨dst,op,type,pos,after,guard⟩:=o;cases op<;>simp only[q9,kV,Pd] at hn hf
 case move x =>
  cases dst with
  | none=>exact read rfl aC
  | some d =>
   cases hb:takes.any (Nat.beq d) with
   | true =>
    simp only[Cx.op,hb] at aC ⊢;exact mv x aC
   | false =>
    simp only[Cx.op,hb] at aC ⊢;exact read rfl aC
 case assign x =>
  simp only[Cx.op] at aC ⊢;exact mv x aC
 case slice t x lo hi mx =>
  cases mx with
  | some m=>exact read rfl aC
  | none =>
   simp only at hn;simp only[Cx.op,hn] at aC ⊢;cases PO:xA takes x lo hi with
   | false =>
    simp only[PO] at aC ⊢;exact read rfl aC
   | true =>
    simp only[PO] at aC ⊢;split at aC<;>simp only[bq,reduceCtorEq,cq] at aC;obtain⟨h1,rfl⟩:=aC;cases h1;exact⟨_,rfl⟩
 case convert c d x =>
  simp only[Cx.op] at aC ⊢;split at aC
  next v' e hv=>simp only[bq,cq] at aC;obtain⟨h1,rfl⟩:=aC;cases h1;exact⟨_,rfl⟩
  ·simp only[hf] at aC ⊢;exact read rfl aC
 all_goals exact read rfl aC
end
section
variable{cx:Cx}{all:Array Oper}{takes:cg}
def G_(all:Array Oper)(takes:cg)(r:Rec):aD :=
 if zY all r.o r.env=some true then aq (oh r.env (kl takes r.o)) r.o.dst r.v else aq r.env r.o.dst r.v
def yR(rs:List Rec)(q:Rec)(D:Nat):Prop:=∀d∈rs,d.hp=true->bit q.m d.idx=true->bit D d.idx=true
structure RI(cx:Cx)(all:Array Oper)(takes:cg)(s0:St)(Ev:Nat->aD)(i:Nat)(rs:List Rec)(cs:List ew)(s:St):Prop where
 ex:∀j,j<i->∃r∈rs,r.idx=j
 lt:∀r∈rs,r.idx<i
 uniq:∀r∈rs,∀q∈rs,r.idx=q.idx->r=q
 get:∀r∈rs,all[r.idx]?=some r.o
 tm:∀r∈rs,∀t,(r.o.dst=some t\/kl takes r.o=some (.tmp t))->bit r.tm t=true
 lm:∀r∈rs,∀t,(bit r.tm t=true\/t∈r.o.looksAt all)->bit r.lm t=true
 bQ:∀r∈rs,∀e∈r.o.after,Region.binds .any e=true->e.on<r.idx
 mlt:∀r∈rs,∀b,bit r.m b=true->b<r.idx
 mask:∀r∈rs,∀b,bit r.m b=true->∃e∈r.o.after,Region.binds .any e=true/\(e.on=b\/∃q∈rs,q.idx=e.on/\bit q.m b=true)
 slots:∀r∈rs,∀q∈rs,q.idx<r.idx->kw r q=true
 ev:∀r∈rs,Ev r.idx=r.env
 TJ:Ev 0=s0.env
 TK:Ev i=s.env
 PR:∀r∈rs,Ev (r.idx+1)=G_ all takes r
 off:∀r∈rs,zY all r.o r.env≠some true->zY all r.o r.env=some false/\r.hp=false/\r.v=.br []
 calm:∀r∈rs,zY all r.o r.env=some true->r.hp=q9 cx.P cx.uq takes r.o/\(q9 cx.P cx.uq takes r.o=false->∃H lk df s1,cx.op takes r.o r.env H lk df=some (.val r.v,s1))
 free:∀r∈rs,zY all r.o r.env=some true->r.free=true->kV cx.P cx.uq r.o=false
 c0:∃c∈cs,c.D=0/\c.H=s0.H/\c.lk=s0.lk/\c.df=s0.defers
 top:∃c cs',cs=c::cs'/\c.D=eJ rs/\c.H=s.H/\c.lk=s.lk/\c.df=s.defers
 cD:∀c∈cs,∀b,bit c.D b=true->∃q∈rs,q.hp=true/\q.idx=b
 uS:∀c∈cs,∀d∈cs,c.D=d.D->c=d
 g1:∀c∈cs,∀q∈rs,q.hp=true->bit c.D q.idx=false->yR rs q c.D->∃c3∈cs,c3.D=Nat.lor c.D (Nat.pow 2 q.idx)/\cx.ee takes q.o q.env c c3.D=some (q.v,c3)
 g2:∀c∈cs,∀q∈rs,q.hp=false->q.free=false->yR rs q c.D->(∀d∈rs,d.hp=true->bit c.D d.idx=true->bit d.m q.idx=false)->∃c2,cx.ee takes q.o q.env c 0=some (q.v,c2)
theorem Bl:∀{a b:List (V×V)},rL a b=true->a=b
 | [],[],_=>rfl
 | [],_::_,h=>by simp[rL] at h
 | _::_,[],h=>by simp[rL] at h
 | (x,y)::xs,(z,u)::ys,h=>by
  simp only[rL,d_] at h;rw[V.iN h.1.1,V.iN h.1.2,Bl h.2]
theorem rz:∀{a b:aO},mh a b=true->a=b
 | [],[],_=>rfl
 | [],_::_,h=>by simp[mh] at h
 | _::_,[],h=>by simp[mh] at h
 | (x,y)::xs,(z,u)::ys,h=>by
  simp only[mh,d_] at h;rw[eG h.1.1,eG h.1.2,rz h.2]
theorem uT:∀{a b:bP},nF a b=true->a=b
 | [],[],_=>rfl
 | [],_::_,h=>by simp[nF] at h
 | _::_,[],h=>by simp[nF] at h
 | (x,y)::xs,(z,u)::ys,h=>by
  simp only[nF,d_] at h;rw[V.iN h.1.1,fW h.1.2,uT h.2]
theorem CL:∀{a b:aY},gp a b=true->a=b
 | .cells a t,b,h=>by
  cases b<;>simp only[gp,d_,fR] at h;rw[eG h.1,fW h.2]
 | .map a,b,h=>by
  cases b<;>simp only[gp,fR] at h;rw[Bl h]
 | .iter a i,b,h=>by
  cases b<;>simp only[gp,d_,fR] at h;rw[eG h.1,CK h.2]
 | .ul v z a e,b,h=>by
  cases b<;>simp only[gp,d_,fR] at h;rw[eG h.1.1.1,eG h.1.1.2,eG h.1.2,fW h.2]
theorem uU:∀{a b:List aY},mV a b=true->a=b
 | [],[],_=>rfl
 | [],_::_,h=>by simp[mV] at h
 | _::_,[],h=>by simp[mV] at h
 | x::xs,z::ys,h=>by
  simp only[mV,d_] at h;rw[CL h.1,uU h.2]
theorem zij{a b:ew}(h:v9 a b=true):a.H=b.H/\a.lk=b.lk/\a.df=b.df:=by
 obtain⟨D,⟨bs,es⟩,lk,df⟩:=a;obtain⟨D',⟨AQ,iC⟩,Iv,Iw⟩:=b;simp only[v9,d_] at h;exact⟨by rw[uU h.2,rz h.1.2],rz h.1.1.1,uT h.1.1.2⟩
theorem zbG{D:Nat}{c:ew}:∀{cs:List ew},ya D cs=some c->c∈cs/\c.D=D
 | [],h=>by simp[ya] at h
 | d::cs,h=>by
  simp only[ya] at h;split at h
  next hb=>cases h;exact⟨eK ..,eG hb⟩
  ·obtain⟨h1,h2⟩:=zbG h;exact⟨dU _ h1,h2⟩
theorem yn{α:Type}{f:α->Bool}:∀{l:List α},kB f l=true->∀x∈l,f x=true
 | [],_,x,hx=>by simp at hx
 | y::l,h,x,hx=>by
  simp only[kB] at h;split at h
  ·rename_i hy;rcases dG.1 hx with rfl|hx
   ·exact hy
   ·exact yn h x hx
  ·cases h
theorem lp{b:Nat}:∀{rs:List Rec},bit (eJ rs) b=true ↔ ∃q∈rs,q.hp=true/\q.idx=b
 | []=>by simp[eJ,yD]
 | r::rs=>by
  have ih:=lp (b:=b) (rs:=rs);simp only[eJ];split
  ·rename_i h;simp only[vf,yc,p7,decide_eq_true_eq,ih,dG];constructor
   ·rintro(h1|⟨q,h1,h2⟩)
    ·exact⟨r,.inl rfl,h,h1⟩
    ·exact⟨q,.inr h1,h2⟩
   ·rintro⟨q,rfl|h1,h2⟩
    ·exact .inl h2.2
    ·exact .inr ⟨q,h1,h2⟩
  ·rename_i h;rw[ih];simp only[dG];constructor
   ·rintro⟨q,h1,h2⟩;exact⟨q,.inr h1,h2⟩
   ·rintro⟨q,rfl|h1,h2⟩
    ·rw[h] at h2;cases h2.1
    ·exact⟨q,h1,h2⟩
theorem xC{a b:Nat}(h:∀i,bit a i=bit b i):a=b:=by
 apply JK;intro i;rw[<- LO,<- LO];exact h i
theorem N8(a b i:Nat):bit (Nat.land a b) i=(bit a i && bit b i):=by
 simp only[LO];exact Nat.testBit_and a b i
theorem rA{a b:Nat}:vN a b=true ↔ ∀i,bit a i=true->bit b i=true:=by
 unfold vN;constructor
 ·intro h i hi;have h1:=eG h;rw[<- h1,N8,d_] at hi;exact hi.2
 ·intro h;have:Nat.land a b=a:=by
   apply xC;intro i;rw[N8];cases hi:bit a i with
   | false=>rfl
   | true=>simp[h i hi]
  rw[this];exact lK a
theorem mD{rs:List Rec}{q:Rec}{D:Nat}:vN (Nat.land q.m (eJ rs)) D=true ↔ yR rs q D:=by
 rw[rA];constructor
 ·intro h d hd hh hb;exact h d.idx (by rw[N8,hb,tP];exact lp.2 ⟨d,hd,hh,rfl⟩)
 ·intro h i hi;rw[N8,d_] at hi;obtain⟨d,h1,h2,rfl⟩:=lp.1 hi.2;exact h d h1 h2 hi.1
theorem zcP{D:Nat}{q:Rec}:∀{rs:List Rec},(∀d∈rs,d.hp=true->bit D d.idx=true->bit d.m q.idx=false)->Lf D q rs=false
 | [],_=>rfl
 | c::cs,h=>by
  simp only[Lf,zcP λd hd=>h d (dU _ hd),Bool.or_false];cases h1:c.hp with
  | false=>rfl
  | true=>cases h2:bit D c.idx with
   | false=>rfl
   | true=>simp[h c (eK ..) h1 h2]
theorem zlF{o:Oper}{env:aD}{c:ew}{D:Nat}{v:V}{c2:ew}(h:cx.ee takes o env c D=some (v,c2))(D':Nat):c2.D=D/\cx.ee takes o env c D'=some (v,{ c2 with D:=D' }):=by
 unfold Cx.ee at h ⊢;split at h<;>simp only[bq,reduceCtorEq,cq] at h
 ·obtain⟨rfl,rfl⟩:=h;exact⟨rfl,by simp only[*]⟩
 ·obtain⟨rfl,rfl⟩:=h;exact⟨rfl,by simp only[*]⟩
theorem W5{o:Oper}{env:aD}{v:V}{m b:Nat}:∀{cs l:List ew},cx.iA takes o env v m b cs=some l ->
  (∀c∈cs,vN m c.D=true->∃c2∈l,c2.D=Nat.lor c.D b/\cx.ee takes o env c c2.D=some (v,c2))/\(∀c2∈l,∃c∈cs,vN m c.D=true/\c2.D=Nat.lor c.D b/\cx.ee takes o env c c2.D=some (v,c2))
 | [],l,h=>by
  simp only[Cx.iA,bq] at h;subst h;exact⟨λc hc=>by simp at hc,λc hc=>by simp at hc⟩
 | c::cs,l,h=>by
  simp only[Cx.iA] at h;split at h
  ·rename_i hs;obtain⟨h1,h2⟩:=W5 h;refine⟨λc' hc hb=>?_,λc2 hc=>?_⟩
   ·rcases dG.1 hc with rfl|hc
    ·rw[hs] at hb;cases hb
    ·exact h1 c' hc hb
   ·obtain⟨c',h3,h4⟩:=h2 c2 hc;exact⟨c',dU _ h3,h4⟩
  ·rename_i hs;split at h<;>try (cases h;done)
   rename_i u c2 hr;split at h<;>try (cases h;done)
   rename_i iJ;have:=V.iN iJ;subst this;split at h<;>try (cases h;done)
   rename_i l' hl;simp only[bq] at h;subst h;obtain⟨h1,h2⟩:=W5 hl;have hD:=(zlF hr 0).1;refine⟨λc' hc hb=>?_,λc3 hc=>?_⟩
   ·rcases dG.1 hc with rfl|hc
    ·exact⟨c2,eK ..,hD,by rw[hD];exact hr⟩
    ·obtain⟨c3,h3,h4⟩:=h1 c' hc hb;exact⟨c3,dU _ h3,h4⟩
   ·rcases dG.1 hc with rfl|hc
    ·exact⟨c,eK ..,hs,hD,by rw[hD];exact hr⟩
    ·obtain⟨c',h3,h4⟩:=h2 c3 hc;exact⟨c',dU _ h3,h4⟩
end
end Go.Vm
