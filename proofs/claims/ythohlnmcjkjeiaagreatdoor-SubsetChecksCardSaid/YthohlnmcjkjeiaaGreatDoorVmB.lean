/- Vm: maps, texts gone through, rows of zeros; Vm: append; make; Vm: append; and what follows from it. Conditions: none but those that each theorem names. -/
import Derived.Laws.MakeOwn
import Derived.Scope
import Derived.LoopN
import Derived.Recover
import Derived.RangeFuncOwn
import Derived.RangeFuncLeaves
import Derived.RangeFuncRecord
import Derived.Test.YthohlnmcjkjeiaaGreatDoorVmA
namespace Go.Vm
open Go
variable {P:Program} {B:Base} {g:Gh} {s:St} {a:Act} {w:World}
theorem zhh {_kd:TypeDesc} {k x:V} {ck cx:Value} (h:zg6 k x=some true) (h1:RelV g k ck) (h2:RelV g x cx) (n:Nat):Instr.sameBits n cx ck=true:=by
 unfold zg6 at h;split at h
 ·split at h<;>simp only [zAA,reduceCtorEq] at h;rename_i e;subst e;cases h1;cases h2;have:=beq_iff_eq.1 h;subst this;simp [Instr.sameBits]
 ·simp only [zAA] at h;cases h1 with
  | str b1=>cases h2 with
   | str b2 =>
    have:=eqL_iff _ _ b1 b2;rw [h] at this;simp only [Instr.sameBits,beq_toListBytes,kw];rw [beq_iff_eq] at this ⊢;exact this.symm
 ·simp only [zAA] at h;cases h1;cases h2;have:=beq_iff_eq.1 h;subst this;simp [Instr.sameBits]
 ·cases h
theorem zjR {kd:TypeDesc} {k x:V} {ck cx:Value} (hk:wH kd k=true) (h1:RelV g k ck) (h2:RelV g x cx):∀ {es es':List (V×V)} {en:List MapEntry} (i:Nat),RelEs g es en->zfK k x es=some es' ->
  (Instr.findNow kd ck en i=some none/\es'=es++[(k,x)]) \/
  ∃ j e cv,Instr.findNow kd ck en i=some (some (i+j,cv))/\en[j]?=some e/\Instr.sameBits 10000 e.key ck=true/\es'=es.set j (k,x)/\j<es.length
 | [],_,[],i,_,h=>by simp only [zfK,zAA] at h;subst h;exact .inl ⟨rfl,rfl⟩
 | [],_,_::_,i,hr,h=>by have:=hr.len;simp at this
 | _::_,_,[],i,hr,h=>by have:=hr.len;simp at this
 | (y,v)::es,es',e::en,i,hr,h=>by
  obtain ⟨ht,hy,hv⟩:=hr.tail;simp only [zfK] at h;split at h
  ·rename_i hk';simp only [zAA] at h;subst h;exact .inr ⟨0,e,e.val,by simp [Instr.findNow,vk hk hk' h1 hy],rfl,zhh (_kd:=kd) hk' h1 hy _,rfl,by simp⟩
  ·rename_i hk';simp only [zAV] at h;obtain ⟨r,hr',rfl⟩:=h;rcases zjR hk h1 h2 (i+1) ht hr' with ⟨h3,h4⟩|⟨j,e',cv,h3,h4,h5,h6,h7⟩
   ·exact .inl ⟨by simp [Instr.findNow,vk hk hk' h1 hy,h3],by simp [h4]⟩
   ·refine .inr ⟨j+1,e',cv,?_,by simpa using h4,h5,by simp [h6],by simp;omega⟩
    simp only [Instr.findNow,vk hk hk' h1 hy,h3];rw [show i+1+j=i+(j+1) by omega]
  ·cases h
theorem zcH {w:World} {r:Nat} {o:Obj} {c:Nat} (h:c≠r):({ w with heap:=w.heap.setIfInBounds r o }:World).heap[c]?=w.heap[c]?:=by
 simp [Ne.symm h]
theorem yp {w:World} {r:Nat} {o o':Obj} (h:w.heap[r]?=some o'):({ w with heap:=w.heap.setIfInBounds r o }:World).heap[r]?=some o:=by
 have:=(zAX.1 h).1;simp [this]
theorem RelEs.push {es:List (V×V)} {en:List MapEntry} (h:RelEs g es en) {x:V×V} {e:MapEntry} (h1:RelV g x.1 e.key) (h2:RelV g x.2 e.val):RelEs g (es++[x]) (en++[e]):=by
 refine ⟨by simp [h.len],fun j y f hy hf=>?_⟩
 rcases zAZ j es.length with hj|hj
 ·rw [zAR hj] at hy;rw [zAR (by rw [<- h.len];exact hj)] at hf
  exact h.rel j y f hy hf
 ·rw [zAP hj] at hy;rw [zAP (by rw [<- h.len];exact hj),<- h.len] at hf
  cases hk:j - es.length with
  | zero=>rw [hk] at hy hf;simp at hy hf;subst hy;subst hf;exact ⟨h1,h2⟩
  | succ k=>rw [hk] at hy;simp at hy
theorem zbj (h:Rel B g s a w) {t:TypeId} {m k x:Operand} {b:Nat} {kv v:V} {es es':List (V×V)} (hm:peek s.env m=some (.map b)) (hk:peek s.env k=some kv) (hx:peek s.env x=some v) (hkt:zeY P t kv=true)
  (hb:s.H.get b=some (.map es)) (hs:zfK kv v es=some es') :
  ∃ w',(Instr.mapUpdate t (a.eval m) (a.eval k) (a.eval x)).run P w=.ok () w'/\Rel B g { s with H:=(s.H.set b (.map es')).edge b (.tup [kv,v]) } a w':=by
 have m1:=(zm h hm).1;obtain ⟨k1,k2,_⟩:=zm h hk;obtain ⟨v1,v2,_⟩:=zm h hx;generalize hme:a.eval m=cm at m1;cases m1;obtain ⟨en,ck,e1,e2,e3,e4⟩:=xx h hb;unfold zeY at hkt;split at hkt<;>try (cases hkt;done)
 rename_i kt et ht;split at hkt<;>try (cases hkt;done)
 rename_i kd hkd;have hb2:s.H.blks[b]?=some (.map es):=by simpa [Hp.get,zd] using hb
 have hlk:∀ off,¬ zaA B b off:=fun off hl=>by
  obtain ⟨cs,t2,sz,xs,c1,_⟩:=h.lks b off hl;rw [hb2] at c1;cases c1
 have htop:∀ es2:List (V×V),(∀ p∈es2,p∈es\/p=(kv,v))->(Blk.map es2).top<=max (Blk.map es).top (V.tup [kv,v]).top:=fun es2 hp=>by
  refine zBO.2 ⟨zN fun y hy=>?_,zN fun y hy=>?_⟩
  ·obtain ⟨p,hp1,rfl⟩:=zAo.1 hy;rcases hp p hp1 with h1|h1
   ·exact zAM (zg (zBG (f:=(·.1)) h1)) (zAM (zBT _ _) (zBT _ _))
   ·subst h1;exact zAM (zBT _ _) (zBm _ _)
  ·obtain ⟨p,hp1,rfl⟩:=zAo.1 hy;rcases hp p hp1 with h1|h1
   ·exact zAM (zg (zBG (f:=(·.2)) h1)) (zAM (zBm _ _) (zBT _ _))
   ·subst h1;simp only [V.top,tops];omega
 have hcur:max (Blk.map es).top (V.tup [kv,v]).top<=s.H.blks.length:=zBO.2 ⟨zBO.2 ⟨e3,e4⟩,by simp only [V.top,tops];omega⟩
 have fin:∀ (es2:List (V×V)) (en2:Array MapEntry) (clock:Nat),(∀ p∈es2,p∈es\/p=(kv,v))->RelEs g es2 en2.toList ->
   Rel B g { s with H:=(s.H.set b (.map es2)).edge b (.tup [kv,v]) } a { w with heap:=w.heap.setIfInBounds (g.blk b) (.map en2 clock) }:=fun es2 en2 clock hp hre=>by
  have:=h.write (l:=s.lk) (b:=b) (x0:=.map es) (x:=.map es2) (v:=.tup [kv,v]) (w':={ w with heap:=w.heap.setIfInBounds (g.blk b) (.map en2 clock) }) rfl hb (fun c hc=>zcH hc) (by simp) rfl rfl rfl
   ⟨en2,clock,yp e1,by simpa using hre.len,fun j y e hy he=>hre.rel j y e hy (by simpa using he)⟩ (zAM (htop es2 hp) hcur) (.inr (.inr (.inr (htop es2 hp)))) (fun off hl=>absurd hl (hlk off)) h.lkl
  exact this
 have hg:(getObj (g.blk b)).run P w=.ok (.map en ck) w:=by simp [getObj,Sem.run,e1]
 have hset:∀ o,(setObj (g.blk b) o).run P w=.ok () { w with heap:=w.heap.setIfInBounds (g.blk b) o }:=fun o=>by simp [setObj,Sem.run,e1]
 have hck:=zcG (P:=P) hkd hkt k1 false w;rcases zjR hkt k1 v1 0 e2 hs with ⟨h3,h4⟩|⟨j,e,cv,h3,h4,h5,h6,h7⟩
 ·subst h4;refine ⟨{ w with heap:=w.heap.setIfInBounds (g.blk b) (.map (en.push { key:=a.eval k,val:=a.eval x,born:=ck }) (ck+1)) },?_,fin _ _ _ (fun p hp=>?_) (by simpa using e2.push (x:=(kv,v)) (e:={ key:=a.eval k,val:=a.eval x,born:=ck }) k1 v1)⟩
  ·unfold Instr.mapUpdate;simp [run_underlying ht,hg,hck,Instr.findKey,run_underlying hkd,h3,hset]
  ·rcases zA3.1 hp with hp|hp
   ·exact .inl hp
   ·exact .inr (by simpa using hp)
 ·subst h6;rw [zA0] at h3;have hje:en[j]?=some e:=by simpa using h4
  have hjlt:j<en.size:=(zAX.1 hje).1;refine ⟨{ w with heap:=w.heap.setIfInBounds (g.blk b) (.map (en.modify j fun e=>{ e with key:=a.eval k,val:=a.eval x }) ck) },?_,fin _ _ _ (fun p hp=>List.mem_or_eq_of_mem_set hp) ?_⟩
  ·have hkeep:(Instr.keyThatStays e.key (a.eval k)).run P w=.ok (a.eval k) w:=by unfold Instr.keyThatStays;simp [h5]
   unfold Instr.mapUpdate;simp [run_underlying ht,hg,hck,Instr.findKey,run_underlying hkd,h3,hset,hje,hkeep]
  ·refine ⟨by simp [e2.len],fun i y f hy hf=>?_⟩
   have hf':(en.modify j fun e=>{ e with key:=a.eval k,val:=a.eval x })[i]?=some f:=by rw [<- zBC];exact hf
   rw [Array.getElem?_modify] at hf'
   by_cases hij:j=i
   ·subst hij;rw [zBR h7] at hy;cases hy;rw [if_pos rfl,hje] at hf';simp only [zAa,zAA] at hf';subst hf';exact ⟨k1,v1⟩
   ·rw [zA2 hij] at hy;rw [if_neg hij] at hf';exact e2.rel i y f hy (by simpa using hf')
theorem zkY {l:List Nat} {pos:Nat} (hl:∀ b:Nat,b∈l->b<256) (hp:pos<l.length):Utf8.decode (bytes l) pos=za8 (l.drop pos):=by
 have hat:∀ k,((bytes l).get! (pos+k)).toNat=(l.drop pos).getD k 0:=by
  intro k;have e1:(bytes l).get! (pos+k)=(bytes l).data[pos+k]!:=by cases l<;>rfl
  rw [e1]
  by_cases hk:pos+k<l.length
  ·have hb:=hl _ (List.getElem_mem hk);simp [bytes,List.getD,hk,UInt8.toNat_ofNat',zBV hb]
  ·simp [bytes,List.getD,zAk (by omega:l.length<=pos+k)]
   rfl
 have hcont:∀ k,(decide (pos+k<(bytes l).size) && ((bytes l).get! (pos+k)).toNat / 64 == 2)=(Nat.blt k (l.drop pos).length && Nat.beq ((l.drop pos).getD k 0 / 64) 2):=by
  intro k;rw [hat]
  congr 1
  ·rw [qQ,List.length_drop,zBU,decide_eq_true_iff,zBq];omega
  ·rw [zBU,beq_iff_eq,Nat.beq_eq]
 have hat0:=hat 0;rw [zBf] at hat0;have hcont':∀ k,(decide (pos+k<(bytes l).size) && (l.drop pos).getD k 0 / 64 == 2)=(Nat.blt k (l.drop pos).length && Nat.beq ((l.drop pos).getD k 0 / 64) 2):=fun k=>by
  have:=hcont k;rw [hat] at this;exact this
 unfold Utf8.decode za8;simp only [zBf,hat,hat0,hcont']
theorem zoj (h:Rel B g s a w) {it:Operand} {b pos:Nat} {l:List Nat} (hi:peek s.env it=some (.ptr b 0)) (hb:s.H.get b=some (.iter l pos)) (ty:TypeId) :
  if Nat.blt pos l.length=true then
   ∃ cv w',(Instr.next (a.eval it) true ty).run P w=.ok cv w'/\RelV g (.tup [.bool true,.int .i64 pos,.int .i32 (za8 (l.drop pos)).1]) cv/\Rel B g { s with H:=(s.H.set b (.iter l (pos+(za8 (l.drop pos)).2))).edge b .nilp } a w'
  else ∃ cv,(Instr.next (a.eval it) true ty).run P w=.ok cv w/\RelV g (.tup [.bool false]) cv:=by
 have i1:=(zm h hi).1;generalize hie:a.eval it=ci at i1;cases i1;have hb2:s.H.blks[b]?=some (.iter l pos):=by simpa [Hp.get,zd] using hb
 obtain ⟨e1,e2⟩:=h.wok.ok b _ hb2;have hg:(getObj (g.blk b)).run P w=.ok (.stringIter (bytes l) pos) w:=by simp [getObj,Sem.run,e1]
 have hset:∀ o,(setObj (g.blk b) o).run P w=.ok () { w with heap:=w.heap.setIfInBounds (g.blk b) o }:=fun o=>by simp [setObj,Sem.run,e1]
 have hlk:∀ off,¬ zaA B b off:=fun off hl=>by
  obtain ⟨cs,t2,sz,xs,c1,_⟩:=h.lks b off hl;rw [hb2] at c1;cases c1
 split
 ·rename_i hlt;rw [zBq] at hlt;refine ⟨.tuple #[.bool true,goInt pos,.int .i32 (za8 (l.drop pos)).1],{ w with heap:=w.heap.setIfInBounds (g.blk b) (.stringIter (bytes l) (pos+(za8 (l.drop pos)).2)) },?_,?_,?_⟩
  ·unfold Instr.next
   simp [hg,qQ,hlt,zkY e2 hlt,hset]
  ·refine .tup rfl fun j x u hx hu=>?_;rcases j with _|_|_|j
   ·simp at hx hu;subst hx;subst hu;exact .bool true
   ·simp at hx hu;subst hx;subst hu;exact .int _ _
   ·simp at hx hu;subst hx;subst hu;exact .int _ _
   ·simp at hx
  ·exact h.write (l:=s.lk) (b:=b) (x0:=.iter l pos) (x:=.iter l (pos+(za8 (l.drop pos)).2)) (v:=.nilp) (w':={ w with heap:=w.heap.setIfInBounds (g.blk b) (.stringIter (bytes l) (pos+(za8 (l.drop pos)).2)) }) rfl hb (fun c hc=>zcH hc) (by simp) rfl rfl rfl
    ⟨yp e1,e2⟩ (zAW _) (.inl (zAW _)) (fun off hl=>absurd hl (hlk off)) h.lkl
 ·rename_i hlt;rw [zBq] at hlt;refine ⟨.tuple #[.bool false],?_,?_⟩
  ·unfold Instr.next
   simp [hg,qQ,hlt]
  ·refine .tup rfl fun j x u hx hu=>?_;rcases j with _|j
   ·simp at hx hu;subst hx;subst hu;exact .bool false
   ·simp at hx
end Go.Vm
namespace Go.Vm
open Go
variable {P:Program} {B:Base} {g:Gh} {s:St} {a:Act} {w:World}
theorem jT {t ty e:TypeId} {n:Nat} (ht:P.underlying t=some (.slice e)) (hn:zy P e=some n) (v:Value) (base:Option Addr) (sLen sCap:Nat) (hv:v=.slice base sLen sCap) (hle:sLen<=sCap) (ad:Option Addr) (c:Nat) (w:World) :
  (Builtin.append_ #[t,t] ty #[v,.slice ad 0 c]).run P w=.ok v w:=by
 subst hv;simp only [zy,zAV] at hn;obtain ⟨i,hi,rfl⟩:=hn;cases ad<;>cases base<;>simp [Builtin.append_,run_underlying ht,sizeOf,typeInfo,hi,Builtin.lenOf,Builtin.firstCells,hle,loadCells,loadCellsFrom,Go.storeCells]
def Gh.grown (g:Gh) (c:Nat) (vs:List Value) (l:Option Loc):Gh :=
 {g with M:=fun c' o=>if c'=c then vs[o]? else g.M c' o,own:=fun c'=>if c'=c then l else g.own c' }
theorem Rel.growRow (h:Rel B g s a w) {c:Nat} {t0:Nat} (ht0:s.env.length<=t0) (ht1:t0<=s.env.length) (hown:g.own c=some (.slot B.d t0)) (hc:c<w.heap.size) (vs:List Value) (l:Option Loc) {w':World}
  (hold:∀ c',c'≠c->w'.heap[c']?=w.heap[c']?) (hsz:w'.heap.size=w.heap.size) (hcell:∀ o v,vs[o]?=some v->w'.cell? ⟨c,o,none⟩=some v) (hext:∀ o v,g.M c o=some v->vs[o]?=some v)
  (hos:w'.os=w.os) (ht:w'.tape=w.tape) (hout:w'.output=w.output):Rel B (g.grown c vs l) s a w':=by
 have hne:∀ c',(∀ l',some (Loc.slot B.d t0)=some l'->g.own c'≠some l')->c'≠c:=fun c' h' e=>h' _ rfl (e ▸ hown);have hvar:∀ b,b<s.H.blks.length->g.blk b≠c:=fun b hb e=>by
  have:=h.wok.unowned b hb;rw [e,hown] at this;cases this
 refine h.master (b0:=none) (l0:=some (.slot B.d t0)) ?_ (zAO _) (fun _ _ _=>rfl) (fun b x hb hx=>?_) (fun b h1 h2=>?_) (fun b b' h1 h2=>?_) (fun c' o v hv=>?_) (fun c' l' hc'=>?_) (fun b j e=>by cases e) rfl rfl
  (fun t x hx=>⟨x,hx,.inl ⟨rfl,fun e=>?_⟩⟩) h.edges h.lks h.lkl (fun t e=>by cases e;exact ht1)
 ·refine ⟨⟨fun c' o v hv=>?_,fun _ _=>rfl,rfl,fun _ _ _ _ e=>e⟩,fun c' _ _ h2=>hold c' (hne c' h2),fun c' _ h2=>?_,fun c' _ h2 o=>?_,by omega,fun _ _ _=>rfl,fun l' hl'=>?_,fun b hb=>(by cases hb),fun _ _ _ _=>rfl,hos,ht,hout⟩
  ·simp only [Gh.grown];split
   ·rename_i e;subst e;exact hext o v hv
   ·exact hv
  ·simp only [Gh.grown];rw [if_neg (hne c' h2)]
  ·simp only [Gh.grown];rw [if_neg (hne c' h2)]
  ·cases hl';exact .inl ⟨t0,rfl⟩
 ·rcases hb with hb|hb
  ·cases hb
  ·have:=(zAB.1 hx).1;omega
 ·omega
 ·omega
 ·simp only [Gh.grown] at hv;split at hv
  ·rename_i e;subst e;exact hcell o v hv
  ·rename_i e;rw [vm (hold c' e)];exact h.wok.mem c' o v hv
 ·simp only [Gh.grown] at hc';split at hc'
  ·rename_i e;omega
  ·have:=h.wok.ownlt c' l' hc';omega
 ·cases e;have:=(zAB.1 hx).1;omega
end Go.Vm
namespace Go.Vm
open Go
variable {P:Program} {B:Base} {g:Gh} {s:St} {a:Act} {w:World}
theorem ze4 (h:Rel B g s a w) {e sz:Nat} {xs:List V} {ow:Own} {cv:Value} {vs:List Value} (hr:RelV g (.sl sz xs ow) cv) (ho:rowAt w e sz cv xs.length vs):RelCs g (zo xs) vs:=by
 cases hr with
 | sl f h1 h2 h3 h4 h5 h6 =>
  rename_i ad cap c o;refine ⟨by rw [zE h1,ho.1],h4,fun j x v hx hv=>?_⟩
  have hne:xs≠[]:=by rintro rfl;simp [zo] at hx
  have e1:=h3 hne;subst e1;have:=ho.cells j v hv;rw [h.wok.mem _ _ _ (h5 j x hx)] at this;cases this;exact h6 j x hx
theorem Gh.row_le (n:Nat) {g:Gh} {w:World} (hm:∀ c o v,g.M c o=some v->w.cell? ⟨c,o,none⟩=some v) (vs:List Value) (l:Option Loc):Gh.Le n g (g.row w.heap.size vs l):=by
 refine ⟨fun c o v hv=>?_,fun _ _=>rfl,rfl,fun _ _ _ _ e=>e⟩;have:=kx (hm c o v hv);simp only [Gh.row];rw [if_neg (by omega)]
 exact hv
theorem zhi (h:Rel B g s a w) {e sz:Nat} {z:Value} {zs:List V} {vs:List Value} (hzs:∀ y:V,y∈zs->y.cells.length=sz) (hcs:RelCs g (zo zs) vs) (ht:tops zs<=s.H.blks.length) (hz:z.cells.size=sz) (hmax:zs.length<=maxLen) (old:Nat) (l:Loc) {arr:Array Value} (harr:arr.toList=vs) :
  ∃ g',Rel B g' s a (w.drew.alloc (.cells (arr++Builtin.zeroCells z.cells (grownCap w zs.length old e - zs.length)) e))/\RelV g' (.sl sz zs (.yes e)) (.slice (some ⟨w.heap.size,0,none⟩) zs.length (grownCap w zs.length old e)) /\
   OwnAt g' s.H.blks.length (w.drew.alloc (.cells (arr++Builtin.zeroCells z.cells (grownCap w zs.length old e - zs.length)) e)) l e sz zs.length (.slice (some ⟨w.heap.size,0,none⟩) zs.length (grownCap w zs.length old e)):=by
 have hlen:vs.length=zs.length * sz:=by rw [<- hcs.len,zE hzs]
 have hasz:arr.size=zs.length * sz:=by rw [<- hlen,<- harr];simp
 have hge:=grownCap_ge w zs.length old e;generalize hcap:grownCap w zs.length old e=cap at hge ⊢;have hcm:cap<=maxLen:=by rw [<- hcap];exact grownCap_le_maxLen w _ old e hmax
 generalize hcur:arr++Builtin.zeroCells z.cells (cap - zs.length)=cur;have hnew:(w.drew.alloc (.cells cur e)).heap[w.heap.size]?=some (.cells cur e (0,0)):=heap_alloc_new w.drew _;have hcell:∀ o v,vs[o]?=some v->(w.drew.alloc (.cells cur e)).cell? ⟨w.heap.size,o,none⟩=some v:=fun o v hv=>by
  rw [cell_of_row _ _ _ cur _ _ hnew,<- hcur];have ho:o<arr.size:=by rw [hasz,<- hlen];exact (zAB.1 hv).1
  rw [Array.getElem?_append_left ho,<- zBC,harr];exact hv
 have hR:=h.settle vs (some l) (w':=w.drew.alloc (.cells cur e)) (by simp) (fun c hc=>Go.heap_alloc_old w.drew _ hc) hcell rfl rfl rfl
 refine ⟨_,hR,RelV.settled (n:=s.H.blks.length) hzs hge hcs (zAM va ht) (Gh.row_le _ h.wok.mem _ _),vs,⟨hlen,.inr ⟨w.heap.size,0,cap,cur,rfl,hnew,hge,hcm,.inr ?_,?_⟩⟩,fun c hc=>?_⟩
 ·rw [<- hcur,Array.size_append,hasz,size_zeroCells,hz,<- zBM,zA0];congr 1;omega
 ·rw [zBo,<- hcur,Array.toList_append,List.take_append_of_le_length (by simp;omega),harr]
  exact zBN (by omega)
 ·simp only [Value.ownBlock,zAA] at hc;subst hc;refine ⟨by simp [Gh.row],fun o ho _=>?_,fun b hb e=>?_⟩
  ·simp only [Gh.row,if_true];simp only at ho;exact zAk (by omega)
  ·have:=h.wok.lt b hb;simp only [Gh.row] at e;omega
theorem RelCs.append {xs ys:List V} {vs news:List Value} (hold:RelCs g (zo xs) vs) (hcs:RelCs g (zo ys) news):RelCs g (zo (xs++ys)) (vs++news):=by
 simp only [zo,List.flatMap_append] at *;refine ⟨by simp only [zAi,hold.len,hcs.len],fun j x hx=>?_,fun j x v hx hv'=>?_⟩
 ·rcases zAZ j (xs.flatMap V.cells).length with h1|h1
  ·rw [zAR h1] at hx;exact hold.one j x hx
  ·rw [zAP h1] at hx;exact hcs.one _ x hx
 ·rcases zAZ j (xs.flatMap V.cells).length with h1|h1
  ·rw [zAR h1] at hx;rw [zAR (by rw [<- hold.len];exact h1)] at hv'
   exact hold.rel j x v hx hv'
  ·rw [zAP h1] at hx;rw [zAP (by rw [<- hold.len];exact h1),<- hold.len] at hv'
   exact hcs.rel _ x v hx hv'
theorem ziN (h:Rel B g s a w) {e sz:Nat} {xs ys:List V} {news:List Value} {cv:Value} (hv:RelV g (.sl sz xs (.yes e)) cv) {t0:Nat} (ht0:s.env.length<=t0) (ht1:t0<=s.env.length) (ho:OwnAt g s.H.blks.length w (.slot B.d t0) e sz xs.length cv)
  (hzs:∀ y:V,y∈xs++ys->y.cells.length=sz) (hcs:RelCs g (zo ys) news) (ht:tops (xs++ys)<=s.H.blks.length) (l:Loc) {c o cap:Nat} {cur:Array Value} (hcv:cv=.slice (some ⟨c,o,none⟩) xs.length cap)
  (hcur:w.heap[c]?=some (.cells cur e (0,0))) (hroom:xs.length+ys.length<=cap) (hne:ys≠[]) :
  ∃ g',Rel B g' s a (w.setRow c (cur.toList.take (o+xs.length * sz)++news++cur.toList.drop (o+xs.length * sz+news.length)).toArray)/\RelV g' (.sl sz (xs++ys) (.yes e)) (.slice (some ⟨c,o,none⟩) (xs.length+ys.length) cap) /\
   OwnAt g' s.H.blks.length (w.setRow c (cur.toList.take (o+xs.length * sz)++news++cur.toList.drop (o+xs.length * sz+news.length)).toArray) l e sz (xs.length+ys.length) (.slice (some ⟨c,o,none⟩) (xs.length+ys.length) cap):=by
 subst hcv;obtain ⟨vs,ho1,ho2⟩:=ho;have hold:=ze4 h hv ho1;obtain ⟨hvl,ho3⟩:=ho1;rcases ho3 with ⟨e2,_⟩|⟨c',o',cap',cur',e2,hc2,hn,hcm,hsz,htake⟩
 ·cases e2
 cases e2;rw [hcur] at hc2;cases hc2;obtain ⟨own1,own2,own3⟩:=ho2 c rfl;have hyl:0<ys.length:=zBd.2 hne;have hsz:cur.size=o+cap * sz:=by rcases hsz with h|h;omega;exact h
 have hnl:news.length=ys.length * sz:=by rw [<- hcs.len,zE fun y hy=>hzs y (zA9 _ hy)]
 have hbig:xs.length * sz+ys.length * sz<=cap * sz:=by rw [<- zBM];exact zBh _ hroom
 have hcl:cur.toList.length=cur.size:=zAv;have hpl:(cur.toList.take (o+xs.length * sz)).length=o+xs.length * sz:=by rw [zBA];omega
 have hpre:cur.toList.take (o+xs.length * sz)=cur.toList.take o++vs:=by rw [<- htake,List.take_add]
 generalize hcu:cur.toList.take (o+xs.length * sz)++news++cur.toList.drop (o+xs.length * sz+news.length)=L;have hlt:c<w.heap.size:=(zAX.1 hcur).1;have hnew:(w.setRow c L.toArray).heap[c]?=some (.cells L.toArray e (0,0)):=setRow_heap w c _ _ _ _ hcur;have hoth:∀ c',c'≠c->(w.setRow c L.toArray).heap[c']?=w.heap[c']?:=fun c' hne=>setRow_other w c c' _ hne
 have hsize:(w.setRow c L.toArray).heap.size=w.heap.size:=setRow_size w c _;generalize hF:cur.toList.take (o+xs.length * sz)++news=F at hcu;have hcell:∀ k v,F[k]?=some v->(w.setRow c L.toArray).cell? ⟨c,k,none⟩=some v:=fun k v hv'=>by
  rw [cell_of_row _ _ _ _ _ _ hnew,List.getElem?_toArray,<- hcu,zAR (zAB.1 hv').1];exact hv'
 have hext:∀ k v,g.M c k=some v->F[k]?=some v:=fun k v hm=>by
  have:=h.wok.mem _ _ _ hm;rw [cell_of_row w _ _ _ _ _ hcur] at this;have hk:k<cur.size:=(zAX.1 this).1;have hlt:k<o+xs.length * sz:=by
   rcases zAZ k (o+xs.length * sz) with h1|h1
   ·exact h1
   ·rw [own2 k h1 (by simp only;omega)] at hm;cases hm
  rw [<- hF,zAR (by rw [hpl];exact hlt),zA4,if_pos hlt]
  simpa using this
 have hR:=h.growRow ht0 ht1 own1 hlt F (some l) hoth hsize hcell hext rfl rfl rfl
 have hle:Gh.Le s.H.blks.length g (g.grown c F (some l)):=⟨fun c' o v hm=>by
  simp only [Gh.grown];split
  ·rename_i e;subst e;exact hext o v hm
  ·exact hm,fun _ _=>rfl,rfl,fun _ _ _ _ e=>e⟩
 have hall:RelCs g (zo (xs++ys)) (vs++news):=hold.append hcs;have hFl:F.length=o+xs.length * sz+news.length:=by rw [<- hF,zAi,hpl]
 have hol:(cur.toList.take o).length=o:=by rw [zBA];omega
 have hFo:∀ j,F[o+j]?=(vs++news)[j]?:=fun j=>by
  rw [<- hF,hpre,zAc,zAP (by omega),hol,zBw]
 refine ⟨_,hR,?_,vs++news,⟨by rw [zAi,hvl,hnl,zBM],.inr ⟨c,o,cap,L.toArray,rfl,hnew,hroom,hcm,.inr ?_,?_⟩⟩,fun c' hc'=>?_⟩
 ·rw [show xs.length+ys.length=(xs++ys).length by simp]
  refine .sl (c:=c) (o:=o) (fun j=>(vs++news).getD j .nilFunc) hzs (by simpa using hroom) (fun _=>rfl) hall.one (fun j x hj=>?_) (fun j x hj=>?_)
  ·obtain ⟨v,hv',_⟩:=hall.get hj;simp [Gh.grown,hFo,hv',List.getD]
  ·obtain ⟨v,hv',hr⟩:=hall.get hj;have:=hr.le hle (zAM (zg (zl hj)) (zAM va ht));simpa [List.getD,hv'] using this
 ·rw [<- hsz];simp only [List.size_toArray,<- hcu,zAi,hFl,List.length_drop,zAv];omega
 ·rw [zBM,<- hnl,<- hvl];simp only [<- hcu,<- hF,hpre];rw [zAc,zAc,List.drop_append_of_le_length (by omega),List.drop_of_length_le (by omega),zA7,<- zAc,List.take_append_of_le_length (by simp)]
  exact zBN (by simp)
 ·simp only [Value.ownBlock,zAA] at hc';subst hc';refine ⟨by simp [Gh.grown],fun j ho _=>?_,fun b hb e=>own3 b hb e⟩
  simp only [Gh.grown,if_true];simp only [zBM] at ho;exact zAk (by rw [hFl,hnl];omega)
end Go.Vm
namespace Go.Vm
open Go
variable {P:Program} {B:Base} {g:Gh} {s:St} {a:Act} {w:World}
theorem zl7 {e:TypeId} {n:Nat} {i:TypeInfo} (hn:zy P e=some n) (hi:P.info? e=some i):i.size=n:=by
 simpa [zy,hi] using hn
theorem RelV.slForm {sz:Nat} {xs:List V} {ow:Own} {cv:Value} (h:RelV g (.sl sz xs ow) cv):∃ base cap,cv=.slice base xs.length cap/\xs.length<=cap:=by
 cases h;exact ⟨_,_,rfl,by assumption⟩
theorem RelV.snilForm {cv:Value} (h:RelV g .snil cv):cv=.slice none 0 0:=by
 cases h;rfl
theorem zb6 {w:World} (t ty e:TypeId) (i:TypeInfo) (ht:P.underlying t=some (.slice e)) (hi:P.info? e=some i)
  (g o sLen sCap:Nat) (cur:Array Value) (hg:w.heap[g]?=some (.cells cur e (0,0)))
  (a:Addr) (m c:Nat) (news:List Value) (hl:news.length=m * i.size) (hnews:∀ j u,news[j]?=some u->w.cell? (a.add j)=some u) (h1:∀ u∈news,u.oneCell'=true)
  (hroom:sLen+m<=sCap) (hfit:o+sLen * i.size+news.length<=cur.size) :
  (Builtin.append_ #[t,t] ty #[.slice (some ⟨g,o,none⟩) sLen sCap,.slice (some a) m c]).run P w =
   .ok (.slice (some ⟨g,o,none⟩) (sLen+m) sCap) (w.setRow g (cur.toList.take (o+sLen * i.size)++news++cur.toList.drop (o+sLen * i.size+news.length)).toArray):=by
 have hf:=run_firstCells_some (P:=P) w i.size m a m c news hl hnews;have hst:=run_storeCells_at P g (o+sLen * i.size) e news 0 cur w hg (by simpa using hfit) h1
 simp only [zBf] at hst;simp [Builtin.append_,run_underlying ht,sizeOf,typeInfo,hi,Builtin.lenOf,hroom,hf,Addr.add_lit,hst]
theorem append_ok (h:Rel B g s a w) {t ty:TypeId} {x y:Operand} {yv v r:V} {env':List V}
  (hy:peek s.env y=some yv) (hx:take s.env x=some (v,env')) (hr:zV P s.H t v yv=some r) (l0:Nat) :
  ∃ g' cv w',(Builtin.append_ #[t,t] ty #[a.eval x,a.eval y]).run P w=.ok cv w'/\Rel B g' { s with env:=env' } a w'/\RelV g' r cv/\OwnV g' s.H.blks.length w' (.slot B.d l0) r cv/\r.top<=s.H.blks.length:=by
 obtain ⟨y1,y3,_⟩:=zm h hy;unfold zV at hr;simp only [Option.bind_eq_bind,zAG] at hr;obtain ⟨td,ht,hr⟩:=hr;split at hr<;>try (cases hr;done)
 rename_i e;simp only [zAG] at hr;obtain ⟨n,hn,i,hi,z,hz,hr⟩:=hr;have hin:=zl7 hn hi;split at hr<;>try (cases hr;done)
 rename_i hzs0;have hzs:z.cells.size=n:=zAJ (by simpa using hzs0)
 simp only [zAG] at hr;obtain ⟨ys,hys,hr⟩:=hr;have hsrc0:=yo h hn hys y1 y3
 by_cases hne:ys=[]
 ·subst hne;obtain ⟨ad,cap,hcy,_⟩:=hsrc0.form;obtain ⟨g1,h1,v1,v2,v3,hal⟩:=take_ok h hx (.slot B.d l0);have hzero:∃ base sLen sCap,a.eval x=.slice base sLen sCap/\sLen<=sCap/\RelV g1 r (a.eval x)/\OwnV g1 s.H.blks.length w (.slot B.d l0) r (a.eval x)/\r.top<=s.H.blks.length:=by
   split at hr
   ·simp only [zAA] at hr;subst hr;have e:=v1.snilForm;exact ⟨_,_,_,e,zAO _,v1,trivial,zAW _⟩
   ·split at hr<;>simp only [zAA,reduceCtorEq] at hr;rename_i hc;simp only [zAC] at hc;have e1:=zAJ hc.1.1.1;have e2:=zAJ hc.1.1.2;subst e1;subst e2;subst hr;simp only [zBB];obtain ⟨base,cap,f1,f2⟩:=v1.slForm;exact ⟨_,_,_,f1,f2,v1,v2,v3⟩
   ·cases hr
  obtain ⟨base,sLen,sCap,e1,e2,r1,r2,r3⟩:=hzero;refine ⟨g1,a.eval x,w,?_,h1,r1,r2,r3⟩;rw [hcy];have:=jT (P:=P) (ty:=ty) ht hn (a.eval x) base sLen sCap e1 e2 ad cap w;exact this
 ·obtain ⟨g1,h1,v1,v2,v3,hal⟩:=take_ok h hx (.slot B.d s.env.length);have hsrc:=yo h1 (s:={ s with env:=env' }) hn hys (hal.rel y1) y3;obtain ⟨ad,cy,hcy,hform⟩:=hsrc.form;obtain ⟨a0,news,rfl,hcs,hcells⟩:=hform hne;have hpos:0<ys.length:=zBd.2 hne;have hnl:news.length=ys.length * i.size:=by rw [<- hcs.len,zE hsrc.sized,hin]
  have hone:∀ u∈news,u.oneCell'=true:=fun u hu=>by
   obtain ⟨j,hj⟩:=List.getElem?_of_mem hu;have hj':j<(zo ys).length:=by rw [hcs.len];exact (zAB.1 hj).1
   have hx:=zAS hj';exact (hcs.rel j _ u hx hj).oneCell (hcs.one j _ hx)
  have hroomA:∀ m,qG m i.bytes=true->m<=maxLen/\m * i.bytes<=140737488355328:=fun m hm=>by
   simp only [qG,zAC] at hm;exact ⟨by have:=zAf hm.1;simp only [maxLen];omega,zAf hm.2⟩
  have henv:({ s with env:=env' }:St).env.length<=s.env.length:=by
   rw [h1.len,h.len];exact zAO _
  have henv':s.env.length<=({ s with env:=env' }:St).env.length:=by
   rw [h1.len,h.len];exact zAO _
  have fresh:∀ (zs:List V),zs=ys->a.eval x=.slice none 0 0->qG ys.length i.bytes=true->r=.sl n ys (.yes e) ->
    ∃ g' cv w',(Builtin.append_ #[t,t] ty #[a.eval x,a.eval y]).run P w=.ok cv w'/\Rel B g' { s with env:=env' } a w'/\RelV g' r cv/\OwnV g' s.H.blks.length w' (.slot B.d l0) r cv/\r.top<=s.H.blks.length:=by
   intro _ _ hax hro er;obtain ⟨m1,m2⟩:=hroomA _ hro;obtain ⟨g2,k1,k2,k3⟩:=zhi h1 (e:=e) (sz:=n) (z:=z) hsrc.sized hcs hsrc.tops hzs m1 0 (.slot B.d l0) (arr:=news.toArray) (by simp)
   refine ⟨g2,_,_,?_,k1,by rw [er];exact k2,by rw [er];exact k3,by rw [er];exact hsrc.tops⟩
   rw [hax,hcy];exact run_append_nil (P:=P) w t ty e i z ht hi hz a0 ys.length cy news hnl hcells hpos (by simp only [maxLen] at m1;omega) (by omega)
  split at hr
  ·split at hr
   ·exact absurd rfl hne
   ·split at hr<;>simp only [zAA,reduceCtorEq] at hr;rename_i hc;simp only [zAC] at hc;have hax:a.eval x=.slice none 0 0:=v1.snilForm;exact fresh ys rfl hax hc.1 hr.symm
  ·split at hr<;>simp only [zAA,reduceCtorEq] at hr;rename_i sz xs e' hc;simp only [zAC] at hc;have e1:=zAJ hc.1.1.1;have e2:=zAJ hc.1.1.2;subst e1;subst e2;obtain ⟨m1,m2⟩:=hroomA _ hc.2;have hown:OwnAt g1 s.H.blks.length w (.slot B.d s.env.length) e n xs.length (a.eval x):=v2;obtain ⟨vs,ho,_⟩:=id hown;have hold:=ze4 h1 v1 ho;have hxs:∀ y:V,y∈xs->y.cells.length=n:=by
    generalize a.eval x=c at v1;cases v1;assumption
   have hall:∀ y:V,y∈xs++ys->y.cells.length=n:=fun y hy=>(zA3.1 hy).elim (hxs y) (hsrc.sized y);have htops:tops (xs++ys)<=s.H.blks.length:=zN fun y hy=>(zA3.1 hy).elim (fun h=>zAM (zg h) v3) (fun h=>zAM (zg h) hsrc.tops);rcases id ho with ⟨hvl,⟨e3,e4⟩|⟨c,o,cap,cur,e3,hcur,hle,hcm,hcs',htk⟩⟩
   ·have hx0:xs=[]:=zBS.1 e4;subst hx0;exact fresh ys rfl e3 (by simpa using hc.2) (by simpa using hr.symm)
   ·by_cases hrm:xs.length+ys.length<=cap
    ·obtain ⟨g2,k1,k2,k3⟩:=ziN h1 v1 henv henv' hown hall hcs htops (.slot B.d l0) e3 hcur hrm hne;refine ⟨g2,_,_,?_,k1,by rw [<- hr];exact k2,by rw [<- hr];simpa [OwnV] using k3,by rw [<- hr];exact htops⟩
     rw [e3,hcy];have hcs':cur.size=o+cap * n:=by rcases hcs' with h|h;omega;exact h
     have:=zb6 (P:=P) (w:=w) t ty e i ht hi c o xs.length cap cur hcur a0 ys.length cy news hnl hcells hone hrm (by rw [hnl,hin,hcs',zBJ,<- zBM];exact Nat.add_le_add_left (zBh _ hrm) _)
     rw [hin] at this;exact this
    ·have hall':RelCs g1 (zo (xs++ys)) (vs++news):=hold.append hcs;obtain ⟨g2,k1,k2,k3⟩:=zhi h1 (e:=e) (sz:=n) (z:=z) hall hall' htops hzs (by simpa using m1) cap (.slot B.d l0) (arr:=vs.toArray++news.toArray) (by simp)
     simp only [zAi] at k1 k2 k3;refine ⟨g2,_,_,?_,k1,by rw [<- hr];exact k2,by rw [<- hr];simpa [OwnV] using k3,by rw [<- hr];exact htops⟩
     rw [e3,hcy];exact run_append_grow (P:=P) w t ty e i z ht hi hz ⟨c,o,none⟩ xs.length cap vs (by rw [hvl,hin]) (fun j u hu=>by rw [Addr.add_lit];exact (show rowAt w e n (.slice (some ⟨c,o,none⟩) xs.length cap) xs.length vs from e3 ▸ ho).cells j u hu) a0 ys.length cy news hnl hcells (by omega) (by simp only [maxLen] at m1;omega) (growslice_fits (by omega) m2)
  ·cases hr
end Go.Vm
namespace Go.Vm
open Go
variable {P:Program} {B:Base} {g:Gh} {s:St} {a:Act} {w:World}
def ValOk (P:Program) (B:Base) (s':St) (a:Act) (w:World) (o:Oper) (v:V):Prop :=
 ∃ g' cv w',(execOp a.eval o).run P w=.ok (.value cv) w'/\OpOk B g' s' a w' o.dst v cv
theorem ziO {w:World} {c:Nat} {cs:Array Value} {t:TypeId} (h:w.heap[c]?=some (.cells cs t (0,0))) (k:Nat):(w.freeze { block:=c,off:=cs.size } 1).heap[k]?=if k=c then some (.cells cs t (cs.size,cs.size+1)) else w.heap[k]?:=by
 unfold World.freeze;simp only [Nat.one_ne_zero,if_false,Array.getElem?_modify]
 by_cases hk:k=c
 ·subst hk;simp [h]
 ·simp [hk,Ne.symm hk]
theorem zeP {P:Program} {t e:TypeId} {w:World} {c o len cap:Nat} {cs:Array Value} {et:TypeId} (hs:P.underlying t=some (.slice e)) (h8:P.underlying e=some (.int .u8)) (h:w.heap[c]?=some (.cells cs et (0,0))) :
  (convert t t (.slice (some ⟨c,o,none⟩) len cap)).run P w=.ok (.slice (some ⟨c,o,none⟩) len cap) (w.freeze { block:=c,off:=cs.size } 1):=by
 have hsh:w.shape? c=some (et,cs.size):=by simp [World.shape?,h]
 simp [convert,run_underlying hs,run_underlying h8,markStringish,shape,freeze,Sem.run,hsh]
theorem zok (h:Rel B g s a w) {src dst:TypeId} {x:Operand} {o:Oper} {v:V} {env':List V} (hm:jO P src dst x s.env=some (v,env')) (ho:o.op=.convert src dst x):ValOk P B { s with env:=env' } a w o v:=by
 unfold jO at hm;split at hm<;>try (cases hm;done)
 rename_i e hab hs;have hab':=zAJ hab;subst hab';split at hm<;>simp only [zAA,reduceCtorEq,zAD] at hm;rename_i sz y ys e' env1 h8 ht;obtain ⟨rfl,rfl⟩:=hm;obtain ⟨g',k1,k2,k3,k4,_⟩:=take_ok h ht (.slot B.d s.env.length);have hlen:env1.length=s.env.length:=by
  have:=k1.len.trans h.len.symm;simpa using this
 have k3':OwnAt g' s.H.blks.length w (.slot B.d s.env.length) e' sz (y::ys).length (a.eval x):=k3;obtain ⟨vs,⟨_,hrow⟩,hown⟩:=k3';rcases hrow with ⟨_,h0⟩|⟨c,ro,cap,cur,hcv,hc,_⟩
 ·simp at h0
 obtain ⟨o1,o2,o3⟩:=hown c (by rw [hcv];rfl)
 rw [hcv] at k2;have hget:=ziO hc;have hcell:∀ ad,(w.freeze { block:=c,off:=cur.size } 1).cell? ad=w.cell? ad:=fun ad=>by
  simp only [World.cell?,hget]
  by_cases e0:ad.block=c
  ·rw [if_pos e0,e0,hc]
  ·rw [if_neg e0]
 have hsize:(w.freeze { block:=c,off:=cur.size } 1).heap.size=w.heap.size:=by simp [World.freeze]
 have hle:Gh.Le s.H.blks.length g' { g' with own:=fun k=>if k=c then none else g'.own k }:=⟨fun _ _ _ h=>h,fun _ _=>rfl,rfl,fun _ _ _ _ h=>h⟩
 have hsame:Same B.d none (some (.slot B.d s.env.length)) s.H.blks.length g' w { g' with own:=fun k=>if k=c then none else g'.own k } (w.freeze { block:=c,off:=cur.size } 1):=by
  refine ⟨hle,fun k _ _ hk=>?_,fun k _ hk=>?_,fun _ _ _ _=>rfl,by rw [hsize];exact zAO _,fun _ _ _=>rfl,fun l hl=>.inl ⟨_,(zAr hl).symm⟩,fun b hb=>(by cases hb),fun _ _ _ _=>rfl,rfl,rfl,rfl⟩
  ·have hne:¬ k=c:=fun e0=>hk _ rfl (by rw [e0];exact o1)
   rw [hget,if_neg hne]
  ·have hne:¬ k=c:=fun e0=>hk _ rfl (by rw [e0];exact o1)
   simp only;rw [if_neg hne]
 refine ⟨{ g' with own:=fun k=>if k=c then none else g'.own k },.slice (some ⟨c,ro,none⟩) (y::ys).length cap,w.freeze { block:=c,off:=cur.size } 1,?_,?_,?_,fun _ _=>trivial,k4⟩
 ·simp only [execOp,ho,hcv,Sem.run_bind,zeP hs h8 hc,Result.andThen_ok,Sem.run_pure]
 ·refine k1.master (b0:=none) (l0:=some (.slot B.d s.env.length)) hsame (zAO _) (fun _ _ _=>rfl) (fun b x hb hx=>?_) (fun b h1 h2=>?_) (fun b b' h1 h2=>?_) (fun c' o' v' hv'=>?_) (fun c' l hl=>?_) (fun b j e0=>by cases e0) rfl rfl (fun t x hx=>⟨x,hx,.inl ⟨rfl,fun e0=>?_⟩⟩) k1.edges k1.lks k1.lkl (fun t e0=>?_)
  ·rcases hb with hb|hb
   ·cases hb
   ·exact absurd (zAB.1 hx).1 (Nat.not_lt.2 hb)
  ·exact absurd h2 (Nat.not_lt.2 h1)
  ·exact absurd h2 (Nat.not_lt.2 h1)
  ·rw [hcell];exact k1.wok.mem c' o' v' hv'
  ·simp only at hl;rw [hsize];split at hl
   ·cases hl
   ·exact k1.wok.ownlt c' l hl
  ·simp only [zAA,Loc.slot.injEq,true_and] at e0;have:=(zAB.1 hx).1;simp only at this;omega
  ·simp only [zAA,Loc.slot.injEq,true_and] at e0;simp only;omega
 ·exact (k2.le hle k4).clr
def SkipOk (P:Program) (B:Base) (s':St) (a:Act) (w:World) (o:Oper):Prop :=
 ∃ g' w',(execOp a.eval o).run P w=.ok .skip w'/\Rel B g' s' a w'
theorem zfY (g:Gh) (n N:Nat):RelV (g.var n N) (.ptr n 0) (.pointer (some ⟨N,0,none⟩)):=by
 have:=RelV.ptr (g:=g.var n N) n 0;simpa [Gh.var] using this
theorem alloc_ok (h:Rel B g s a w) {t:TypeId} {z:V} (hz:zU P t=some z) (hc:okC z=true) {o:Oper} (ho:o.op=.alloc t) :
  ValOk P B { s with H:=s.H.push (.cells z.cells t) } a w o (.ptr s.H.blks.length 0):=by
 obtain ⟨cz,z1,z2,z3,_,z5⟩:=vj (g:=g) hz w;have hcs:=ky z2 hc
 have hnl:=fun x hx=>xy (v:=cz) (z:=z) (by
  simp only [zU,zAG] at hz;obtain ⟨i,hi,zz,hzz,hv⟩:=hz;simp only [hi,zAT] at z5
  rw [hzz] at z5;cases z5;exact hv) x hx
 refine ⟨g.var s.H.blks.length w.heap.size,.pointer (some ⟨w.heap.size,0,none⟩),w.alloc (.cells cz.cells t),?_,?_,?_,fun _ _=>trivial,?_⟩
 ·simp [execOp,ho,Instr.alloc,z1,newVar,newRow]
 ·refine h.pushCells hcs (zN fun x hx=>zAM (zag hx) (by omega)) fun j x v hx hv=>⟨?_,fun sz xs e=>hnl x (zl hx) _ _ _ e⟩
  cases x with
  | sl sz xs o=>exact absurd rfl (hnl _ (zl hx) sz xs o)
  | _=>trivial
 ·exact zfY _ _ _
 ·simp [V.top,Hp.push]
theorem box_ok (h:Rel B g s a w) {t:TypeId} {x:Operand} {v:V} {env':List V} (ht:take s.env x=some (v,env')) (hc:okC v=true) {o:Oper} (ho:o.op=.box t x) :
  ValOk P B { s with env:=env',H:=s.H.push (.cells v.laid t) } a w o (.ptr s.H.blks.length 0):=by
 obtain ⟨g',h1,v1,v2,v3,hal⟩:=take_ok h ht (.cell s.H.blks.length 0);obtain ⟨l1,l2,l3⟩:=zfW v1 hc v2 (v8 ht) v3;refine ⟨g'.var s.H.blks.length w.heap.size,.pointer (some ⟨w.heap.size,0,none⟩),w.alloc (.cells (a.eval x).cells t),?_,?_,?_,fun _ _=>trivial,?_⟩
 ·simp [execOp,ho,Instr.box,newVar,newRow]
 ·exact h1.pushCells l1 l2 fun j y u hy hu=>by have:=l3 j y u hy hu;rw [zA0] at this;exact this
 ·exact zfY _ _ _
 ·simp [V.top,Hp.push]
theorem ziP (h:Rel B g s a w) {t:TypeId} {o:Oper} (ho:o.op=.makeMap t none):ValOk P B { s with H:=s.H.push (.map []) } a w o (.map s.H.blks.length):=by
 have hv:(g.var s.H.blks.length w.heap.size).blk s.H.blks.length=w.heap.size:=by simp [Gh.var]
 refine ⟨g.var s.H.blks.length w.heap.size,.map (some w.heap.size),w.alloc (.map #[] 0),?_,?_,?_,fun _ _=>trivial,?_⟩
 ·simp [execOp,ho,Instr.makeMap]
 ·refine h.push (.map []) rfl rfl rfl rfl ⟨#[],0,?_,rfl,fun j x me hx=>by simp at hx⟩ (by simp [Blk.top,tops])
  rw [hv];exact zdA (w':=w.alloc (.map #[] 0)) rfl
 ·have:=RelV.map (g:=g.var s.H.blks.length w.heap.size) s.H.blks.length;rw [hv] at this;exact this
 ·simp [V.top,Hp.push]
theorem zl8 (h:Rel B g s a w) {t:TypeId} {x:Operand} {l:List Nat} (ht:P.underlying t=some .string) (hx:peek s.env x=some (.str l)) {o:Oper} (ho:o.op=.range t x) :
  ValOk P B { s with H:=s.H.push (.iter l 0) } a w o (.ptr s.H.blks.length 0):=by
 have x1:=(zm h hx).1;generalize hxe:a.eval x=cx at x1;cases x1 with
 | str hl =>
  have hv:(g.var s.H.blks.length w.heap.size).blk s.H.blks.length=w.heap.size:=by simp [Gh.var]
  refine ⟨g.var s.H.blks.length w.heap.size,.pointer (some ⟨w.heap.size,0,none⟩),w.alloc (.stringIter (bytes l) 0),?_,?_,?_,fun _ _=>trivial,?_⟩
  ·simp [execOp,ho,Instr.range,hxe,run_underlying ht]
  ·refine h.push (.iter l 0) rfl rfl rfl rfl ⟨?_,hl⟩ (by simp [Blk.top])
   rw [hv];exact zdA (w':=w.alloc (.stringIter (bytes l) 0)) rfl
  ·exact zfY _ _ _
  ·simp [V.top,Hp.push]
theorem zl9 {n:Nat} {z:V} {cz:Value} (hz:RelV g z cz) (hok:okC z=true) (hl:z.cells.length=n) (hn:n≠0) (len:Nat):RelCs g (zo (List.replicate len z)) (madeCells cz.cells (len * n)).toList:=by
 have hcz:=ky hz hok;have hczs:cz.cells.size=n:=by rw [<- hl,hcz.len];simp
 have hfl:(zo (List.replicate len z)).length=len * n:=by rw [zE (sz:=n) fun y hy=>by rw [(List.mem_replicate.1 hy).2];exact hl];simp
 refine ⟨by rw [hfl];simp [madeCells],fun j x hx=>?_,fun j x v hx hv=>?_⟩
 ·have hj:j<len * n:=by rw [<- hfl];exact (zAB.1 hx).1
  rw [jy hl len j hj] at hx;exact hcz.one _ x hx
 ·have hj:j<len * n:=by rw [<- hfl];exact (zAB.1 hx).1
  rw [jy hl len j hj] at hx;have hm:j % n<cz.cells.size:=by rw [hczs];exact Nat.mod_lt _ (by omega)
  simp only [madeCells,Array.toList_map,Array.toList_range,zAY,zBW,hj,zAa,zAA,hczs] at hv;rw [getElem!_pos cz.cells (j % n) hm] at hv;refine hcz.rel _ x v hx ?_;rw [zBC,zAy hm,hv]
theorem zaG (z:V):∀ n,(List.replicate n z.cells).flatten=zo (List.replicate n z)
 | 0=>rfl
 | n+1=>by simp only [zBe,List.flatten_cons,zaG z n,zo,zBK]
theorem zfZ (h:Rel B g s a w) {t e:TypeId} {lx cx:Operand} {k k':IntKind} {l c:Int} {n:Nat} {i:TypeInfo} {z:V} (ht:P.underlying t=some (.slice e)) (hlx:peek s.env lx=some (.int k l)) (hcx:peek s.env cx=some (.int k' c))
  (hn:zy P e=some n) (hi:P.info? e=some i) (hz:zU P e=some z) (hc:(Nat.beq n 0 || l<0 || c<l || !qG c.toNat i.bytes || !Nat.beq z.cells.length n || !okC z)=false) {o:Oper} (ho:o.op=.makeSlice t lx cx) :
  (l=0->ValOk P B s a w o (.sl n [] (.yes e)))/\ValOk P B { s with H:=s.H.push (.cells (List.replicate c.toNat z.cells).flatten e) } a w o (.sr s.H.blks.length 0 l.toNat c.toNat):=by
 simp only [zBb,Bool.not_eq_false',decide_eq_false_iff_not] at hc;obtain ⟨⟨⟨⟨⟨c1,c2⟩,c3⟩,c4⟩,c5⟩,hok⟩:=hc;have hn0:n≠0:=by intro e;subst e;simp at c1
 have hzl:z.cells.length=n:=zAJ c5;simp only [qG,zAC] at c4;have b1:=zAf c4.1;have b2:=zAf c4.2;obtain ⟨cz,z1,z2,z3,_,z5⟩:=vj (g:=g) hz w;simp only [hi,zAT] at z5;have l1:=(zm h hlx).1;have k1:=(zm h hcx).1;generalize hle:a.eval lx=cl at l1;generalize hce:a.eval cx=cc at k1;cases l1;cases k1;have hin:=zl7 hn hi;have hbb:(i.bytes:Int) * c<=281474976710656:=by
  have h1:(i.bytes:Int) * c=((c.toNat * i.bytes:Nat):Int):=by
   rw [Int.natCast_mul,Int.toNat_of_nonneg (by omega),Int.mul_comm]
  rw [h1];omega
 have hrun:=run_make (P:=P) w t e i cz ht hi z5 k k' l c (by omega) (by omega) hbb (by omega)
 have hrun':(execOp a.eval o).run P w=.ok (.value (.slice (some ⟨w.heap.size,0,none⟩) l.toNat c.toNat)) (w.alloc (.cells (madeCells cz.cells (c.toNat * i.size)) e)):=by
  simp [execOp,ho,hle,hce,hrun]
 constructor
 ·intro h0;subst h0;refine ⟨_,_,_,hrun',h.settle [] (some (.slot B.d (o.dst.getD 0))) (by simp) (fun j hj=>Go.heap_alloc_old w _ hj) (fun _ _ e=>by simp at e) rfl rfl rfl,?_,fun d hd=>?_,zAW _⟩
  ·exact .sl (c:=w.heap.size) (o:=0) (fun _=>.nilFunc) (fun _ e=>by simp at e) (zAW _) (fun e=>absurd rfl e) (fun _ _ e=>by simp [zo] at e) (fun _ _ e=>by simp [zo] at e) (fun _ _ e=>by simp [zo] at e)
  ·refine ⟨[],zg7 (World.ownsRow_made w _ c.toNat (zAW _) (by simp only [maxLen];omega) (by rw [size_madeCells,hin])),fun c' hc'=>?_⟩
   simp only [Value.ownBlock,zAA] at hc';subst hc';refine ⟨by simp [Gh.row,hd],fun o' _ _=>by simp [Gh.row],fun b hb e=>?_⟩
   have:=h.wok.lt b hb;simp only [Gh.row] at e;omega
 ·have hm:=zl9 z2 hok hzl hn0 c.toNat
  have hnl:=fun x hx=>xy (v:=cz) (z:=z) (by
   simp only [zU,zAG] at hz;obtain ⟨i',hi',zz,hzz,hv⟩:=hz;rw [hi] at hi';cases hi'
   rw [hzz] at z5;cases z5;exact hv) x hx
  have hno:∀ x∈zo (List.replicate c.toNat z),∀ sz xs o,x≠.sl sz xs o:=fun x hx=>by
   obtain ⟨y,hy,hxy⟩:=List.mem_flatMap.1 hx;rw [(List.mem_replicate.1 hy).2] at hxy;exact hnl x hxy
  have hv:(g.var s.H.blks.length w.heap.size).blk s.H.blks.length=w.heap.size:=by simp [Gh.var]
  rw [hin] at hrun';refine ⟨g.var s.H.blks.length w.heap.size,_,_,hrun',?_,?_,fun _ _=>trivial,by simp [V.top,Hp.push]⟩
  ·rw [zaG];refine h.pushCells hm (zN fun x hx=>?_) fun j x v hx hv'=>⟨?_,fun sz xs e=>hno x (zl hx) _ _ _ e⟩
   ·obtain ⟨y,hy,hxy⟩:=List.mem_flatMap.1 hx;rw [(List.mem_replicate.1 hy).2] at hxy;exact zAM (zag hxy) (by omega)
   ·cases x with
    | sl sz xs o=>exact absurd rfl (hno _ (zl hx) sz xs o)
    | _=>trivial
  ·have:=RelV.sr (g:=g.var s.H.blks.length w.heap.size) (b:=s.H.blks.length) (off:=0) (show l.toNat<=c.toNat by omega)
   rw [hv] at this;exact this
theorem zb7 {sz:Nat} {xs:List V} (hs:∀ y:V,y∈xs->y.cells.length=sz) {c j:Nat} {y:V} (h:(zo (xs.drop c))[j]?=some y):(zo xs)[c * sz+j]?=some y :=
 vi (b:=xs.length) hs (by rw [zBc];exact h)
theorem zma (h:Rel B g s a w) {t:TypeId} {x:Operand} {lo:Option Operand} {o:Oper} {v:V} {env':List V} (hm:zaN P t x lo s.env=some (v,env')) (ho:o.op=.slice t x lo none none):ValOk P B { s with env:=env' } a w o v:=by
 unfold zaN at hm;split at hm<;>try (cases hm;done)
 rename_i e' sz xs e env1 k i ht hx hlo;split at hm<;>try (cases hm;done)
 rename_i n hn;split at hm<;>simp only [zAA,reduceCtorEq,zAD] at hm;rename_i hc;obtain ⟨rfl,rfl⟩:=hm;simp only [zAC,decide_eq_true_eq] at hc;obtain ⟨⟨c1,c2⟩,c3⟩:=hc;obtain rfl:=zAJ c1;have c3:=zAf c3;have hlr:=opO h hlo;obtain ⟨g',k1,k2,k3,k4,_⟩:=take_ok h hx (.slot B.d (o.dst.getD 0));have k3':OwnAt g' s.H.blks.length w (.slot B.d (o.dst.getD 0)) e n xs.length (a.eval x):=k3
 obtain ⟨vs,hrow,hown⟩:=k3';have hu:=run_underlying ht w;generalize hi:i.toNat=j at *;generalize hax:a.eval x=cv at *;cases k2 with
 | sl f h1 h2 h3 h4 h5 h6 =>
  rename_i ad cap cb ro;have hb':=ym (P:=P) (isSlice:=true) (lo:=some (.int k i)) (hi:=none) (chi:=none) (len:=xs.length) (l:=j) (h:=xs.length) hlr trivial rfl (by simp [z8,c2,hi]) c3 (zAO _) h2 w
  have hlen:(xs.drop j).length=xs.length - j:=by simp
  have hrun:(execOp a.eval o).run P w=.ok (.value (.slice (if cap=j then ad else ad.map (·.add (j * n))) (xs.length - j) (cap - j))) w:=by
   simp [execOp,ho,hax,Instr.sliceAt,hu,Instr.slice,hb',zW hn]
  refine ⟨g',_,w,hrun,k1,?_,fun d hd=>?_,zAM (zN fun y hy=>zg (zA1 hy)) k4⟩
  ·rw [<- hlen];refine .sl (c:=cb) (o:=ro+j * n) (fun q=>f (j * n+q)) (fun y hy=>h1 y (zA1 hy)) (by rw [hlen];omega) (fun hne=>?_) (fun q y hq=>h4 _ y (zb7 h1 hq)) (fun q y hq=>?_) (fun q y hq=>h6 _ y (zb7 h1 hq))
   ·have:0<xs.length - j:=by rw [<- hlen];exact zBd.2 hne
    rw [if_neg (by omega),h3 (by rintro rfl;simp at hne)]
    simp [Addr.add_lit]
   ·rw [zBJ];exact h5 _ y (zb7 h1 hq)
  ·have hd':o.dst.getD 0=d:=by rw [hd];rfl
   subst hd';show OwnAt g' s.H.blks.length w _ e n (xs.drop j).length _;rw [hlen];obtain ⟨r1,⟨r2,r3⟩|⟨c,ro',cap',cur,r2,r3,r4,r5,r6,r7⟩⟩:=hrow
   ·simp only [Value.slice.injEq] at r2;obtain ⟨rfl,_,rfl⟩:=r2;have hj:j=0:=by omega
    subst hj;simp only [if_true,r3,Nat.zero_sub];exact ⟨[],⟨by simp,.inl ⟨rfl,rfl⟩⟩,fun c hc=>(by cases hc)⟩
   ·simp only [Value.slice.injEq,true_and] at r2;obtain ⟨rfl,rfl⟩:=r2;obtain ⟨o1,o2,o3⟩:=hown c rfl
    by_cases hcj:cap=j
    ·rw [if_pos hcj];have hx0:xs.length - j=0:=by omega
     rw [hx0,hcj,zBk];refine ⟨[],⟨by simp,.inr ⟨c,ro',0,cur,rfl,r3,zAO _,by simp [maxLen],.inl rfl,by simp⟩⟩,fun c' hc'=>?_⟩
     cases hc';exact ⟨o1,fun q q1 q2=>by simp only at q1 q2;omega,o3⟩
    ·rw [if_neg hcj];simp only [zAa,Addr.add_lit];have hcs:cur.size=ro'+cap * n:=by rcases r6 with r6|r6;omega;exact r6
     refine ⟨vs.drop (j * n),⟨by rw [List.length_drop,r1,Nat.sub_mul],.inr ⟨c,ro'+j * n,cap - j,cur,rfl,r3,by omega,by omega,.inr ?_,?_⟩⟩,fun c' hc'=>?_⟩
     ·rw [hcs,zBJ,<- zBM]
      congr 2
      omega
     ·rw [<- r7,<- List.drop_drop,List.drop_take,Nat.sub_mul]
     ·cases hc';refine ⟨o1,fun q q1 q2=>o2 q ?_ ?_,o3⟩
      ·simp only at q1 ⊢;have:j * n+(xs.length - j) * n=xs.length * n:=by rw [<- zBM];congr 1;omega
       omega
      ·simp only at q2 ⊢;have:j * n+(cap - j) * n=cap * n:=by rw [<- zBM];congr 1;omega
       omega
theorem zol (h:Rel B g s a w) {t:TypeId} {p:Operand} {b off sz:Nat} {xs:List V} {e:TypeId} {cs:List V} {ty:TypeId} (hag:qC P t=some false) (hp:peek s.env p=some (.ptr b off)) (hb:s.H.get b=some (.cells cs ty))
  (hc:cs[off]?=some (.sl sz xs (.yes e))) {o:Oper} (ho:o.op=.load t p) :
  ValOk P B { s with H:=s.H.set b (.cells (cs.set off (.sl sz xs .lock)) ty),lk:=(b,off)::s.lk } a w o (.sl sz xs (.yes e)):=by
 have p1:=(zm h hp).1;generalize hpe:a.eval p=cp at p1;cases p1;have hb2:s.H.blks[b]?=some (.cells cs ty):=by simpa [Hp.get,zd] using hb
 have hbl:b<s.H.blks.length:=(zAB.1 hb2).1;obtain ⟨arr,a1,a2,a3⟩:=h.wok.ok b _ hb2;have htop:=h.wok.tops b _ hb2;have hol:off<cs.length:=(zAB.1 hc).1;have hoa:off<arr.size:=by omega
 have hcv:arr[off]?=some arr[off]:=zAy hoa;generalize arr[off]=cv at hcv;obtain ⟨c1,c2,c3,_⟩:=a3 off _ cv hc hcv;have hown:OwnAt g s.H.blks.length w (.cell b off) e sz xs.length cv:=c3;have hcell:w.cell? ⟨g.blk b,off,none⟩=some cv:=by rw [cell_of_row w _ _ arr _ _ a1];exact hcv
 have hrun:(execOp a.eval o).run P w=.ok (.value cv) w:=by
  simp [execOp,ho,hpe,Instr.loadAt,Instr.sureAddr,loadVar,zbd hag,hcell]
 let l1:Loc:=.slot B.d (o.dst.getD 0)
 let g':Gh:={ g with own:=fun c=>if cv.ownBlock=some c then some l1 else g.own c,lk:=fun b' o'=>if b'=b/\o'=off then cv else g.lk b' o' }
 have hother:∀ c,(∀ l,some (Loc.cell b off)=some l->g.own c≠some l)->cv.ownBlock≠some c:=fun c hc' e=>by
  obtain ⟨vs,_,ho2⟩:=hown;exact hc' _ rfl (ho2 c e).1
 have hsame:Same B.d (some b) (some (.cell b off)) s.H.blks.length g w g' w :=
  ⟨⟨fun _ _ _ e=>e,fun _ _=>rfl,rfl,fun _ _ _ _ e=>e⟩,fun _ _ _ _=>rfl,fun c _ hc'=>by show (if _ then _ else _)=_;rw [if_neg (hother c hc')],fun _ _ _ _=>rfl,zAO _,
   fun b' o' hl=>by show (if _ then _ else _)=_;rw [if_neg];rintro ⟨rfl,rfl⟩;exact hl _ rfl rfl,fun l hl=>.inr ⟨b,off,by cases hl;rfl,rfl⟩,fun b' hb'=>by cases hb';exact hbl,fun _ _ _ _=>rfl,rfl,rfl,rfl⟩
 have hnl:¬ zP s.H.blks b off:=by
  rintro ⟨cs',t',sz',xs',h1,h2⟩;rw [hb2] at h1;cases h1;rw [hc] at h2;cases h2
 have hlen:(s.H.set b (.cells (cs.set off (.sl sz xs .lock)) ty)).blks.length=s.H.blks.length:=by simp [Hp.set]
 have hself:(s.H.set b (.cells (cs.set off (.sl sz xs .lock)) ty)).blks[b]?=some (.cells (cs.set off (.sl sz xs .lock)) ty):=by simp [Hp.set,hbl]
 have hoth:∀ b',b'≠b->(s.H.set b (.cells (cs.set off (.sl sz xs .lock)) ty)).blks[b']?=s.H.blks[b']?:=fun b' hne=>by simp [Hp.set,zA2 (Ne.symm hne)]
 have htop':(Blk.cells (cs.set off (.sl sz xs .lock)) ty).top<=(Blk.cells cs ty).top :=
  zdz (cs:=cs) (zAO _) (by show tops xs<=_;exact zg (zl hc))
 have hlock:∀ b' o',zP s.H.blks b' o'->zP (s.H.set b (.cells (cs.set off (.sl sz xs .lock)) ty)).blks b' o':=by
  rintro b' o' ⟨cs',t',sz',xs',h1,h2⟩
  by_cases e1:b'=b
  ·subst e1;rw [hb2] at h1;cases h1
   by_cases e2:o'=off
   ·subst e2;exact ⟨_,_,sz,xs,hself,zBR hol⟩
   ·exact ⟨_,_,sz',xs',hself,by rw [zA2 (Ne.symm e2)];exact h2⟩
  ·exact ⟨cs',t',sz',xs',by rw [hoth b' e1];exact h1,h2⟩
 have hR:Rel B g' { s with H:=s.H.set b (.cells (cs.set off (.sl sz xs .lock)) ty),lk:=(b,off)::s.lk } a w:=by
  refine h.master (s':={ s with H:=s.H.set b (.cells (cs.set off (.sl sz xs .lock)) ty),lk:=(b,off)::s.lk }) hsame (by rw [hlen];exact zAO _) (fun b' _ hne=>hoth b' fun e=>hne (by rw [e])) (fun b' x hx1 hx=>?_) (fun b' h1 h2=>?_) (fun b1 b2 h1 h2=>?_) h.wok.mem (fun c l hcl=>?_)
   (fun b' j e=>by cases e;exact hnl) rfl rfl (fun t x hx=>⟨x,hx,.inl ⟨rfl,fun e=>by cases e⟩⟩) (fun b' x hx=>?_) (fun b' o' hl=>hlock b' o' (h.lks b' o' hl)) (fun q hq=>?_) (fun _ e=>by cases e)
  ·have hb':b'=b:=by
    rcases hx1 with hx1|hx1
    ·cases hx1;rfl
    ·have:=(zAB.1 hx).1;rw [hlen] at this;omega
   subst hb';rw [hself] at hx;cases hx;rw [hlen];refine ⟨⟨arr,a1,by simpa using a2,fun j x v hx hv=>?_⟩,zAM htop' htop⟩
   by_cases e2:j=off
   ·subst e2;rw [zBR hol] at hx;cases hx;rw [hcv] at hv;cases hv;refine ⟨rfl,?_,trivial,?_⟩
    ·have:=c2.le hsame.le (zAM (zg (zl hc)) htop);cases this with
     | sl f h1 h2 h3 h4 h5 h6=>exact .sl f h1 h2 h3 h4 h5 h6
    ·show cv=(if _ then _ else _)
     rw [if_pos ⟨rfl,rfl⟩]
   ·rw [zA2 (Ne.symm e2)] at hx;obtain ⟨d1,d2,d3,d4⟩:=a3 j x v hx hv;refine ⟨d1,d2.le hsame.le (zAM (zg (zl hx)) htop),OwnV.same hsame (fun e=>by cases e;exact e2 rfl) (fun b1 h2 h3=>absurd h3 (Nat.not_lt.2 h2)) d3,?_⟩
    unfold zdv at *;split
    ·show v=(if _ then _ else _)
     rw [if_neg (fun e=>e2 e.2)];exact d4
    ·trivial
  ·rw [hlen] at h2;omega
  ·rw [hlen] at h2;omega
  ·simp only [g'] at hcl;split at hcl
   ·rename_i e;exact hown.lt c e
   ·exact h.wok.ownlt c l hcl
  ·by_cases e1:b'=b
   ·subst e1;rw [show ({ s with H:=s.H.set b' (.cells (cs.set off (.sl sz xs .lock)) ty),lk:=(b',off)::s.lk }:St).H.blks[b']?=_ from hself] at hx;cases hx;rcases h.edges b' _ hb2 with h1|⟨m,h1,h2⟩|⟨y,h1,h2⟩
    ·exact .inl (zAM htop' h1)
    ·exact .inr (.inl ⟨m,h1,zAM htop' h2⟩)
    ·exact .inr (.inr ⟨y,h1,zAM htop' h2⟩)
   ·rw [show ({ s with H:=s.H.set b (.cells (cs.set off (.sl sz xs .lock)) ty),lk:=(b,off)::s.lk }:St).H.blks[b']?=s.H.blks[b']? from hoth b' e1] at hx;exact h.edges b' x hx
  ·rcases zAK.1 hq with rfl|hq
   ·exact fun hl=>hnl (h.lks b off hl)
   ·exact h.lkl q hq
 have htx:tops xs<=s.H.blks.length:=zAM (show (V.sl sz xs (.yes e)).top<=_ from zg (zl hc)) htop;refine ⟨g',cv,w,hrun,hR,c2.le hsame.le (zAM (zg (zl hc)) htop),fun d hd=>?_,by rw [hlen];exact htx⟩
 obtain ⟨vs,ho1,ho2⟩:=hown;refine ⟨vs,ho1,fun c hc'=>⟨?_,(ho2 c hc').2.1,?_⟩⟩
 ·show (if _ then _ else _)=_
  rw [if_pos hc'];simp only [l1,hd,zAs]
 ·rw [hlen];exact (ho2 c hc').2.2
end Go.Vm
namespace Go.Vm
open Go
variable {P:Program} {B:Base} {g:Gh} {s:St} {a:Act} {w:World}
theorem zp3 {s':St} {o:Oper} {v:V} (h:ValOk P B s' a w o v) {K:Act->World->Prop} {Q:Exit->Act->World->Prop} (hk:∀ g' cv w',OpOk B g' s' a w' o.dst v cv->K (a.put o.dst cv) w'):o.wp P a w K Q:=by
 obtain ⟨g',cv,w',h1,h2⟩:=h;unfold Oper.wp;rw [h1,Oper.upon_value];exact hk g' cv w' h2
theorem wp_skip {s':St} {o:Oper} (h:SkipOk P B s' a w o) {K:Act->World->Prop} {Q:Exit->Act->World->Prop} (hk:∀ g' w',Rel B g' s' a w'->K (a.put o.dst undef) w'):o.wp P a w K Q:=by
 obtain ⟨g',w',h1,h2⟩:=h;unfold Oper.wp;rw [h1,Oper.upon_skip];exact hk g' w' h2
theorem zhj (h:Rel B g s a w) {x:Operand} {v:V} {env':List V} (ht:take s.env x=some (v,env')) {o:Oper} (ho:o.op=.move x\/o.op=.assign x):ValOk P B { s with env:=env' } a w o v:=by
 obtain ⟨g',h1,v1,v2,v3,_⟩:=take_ok h ht (.slot B.d (o.dst.getD 0));refine ⟨g',a.eval x,w,by rcases ho with ho|ho<;>simp [execOp,ho],h1,v1,fun d hd=>?_,v3⟩
 simpa [hd] using v2
theorem zom (h:Rel B g s a w) {x:Operand} {v:V} {t ty:TypeId} {n:Int} (hx:peek s.env x=some v) (hl:qH P s.H t v=some n):(Builtin.len_ #[t] ty #[a.eval x]).run P w=.ok (.int .i64 n) w:=by
 have x1:=(zm h hx).1;unfold qH at hl;split at hl
 ·rename_i ht;simp only [zAA] at hl;subst hl;generalize a.eval x=c at x1;cases x1;simp [Builtin.len_,run_underlying ht,goInt,qQ]
 ·rename_i ht;simp only [zAA] at hl;subst hl;rw [x1.snilForm];simp [Builtin.len_,run_underlying ht,goInt]
 ·rename_i ht;simp only [zAA] at hl;subst hl;obtain ⟨b,c,e,_⟩:=x1.slForm;rw [e];simp [Builtin.len_,run_underlying ht,goInt]
 ·rename_i ht;simp only [zAA] at hl;subst hl;generalize a.eval x=c at x1;cases x1;simp [Builtin.len_,run_underlying ht,goInt]
 ·rename_i ht;simp only [zAA] at hl;subst hl;generalize a.eval x=c at x1;cases x1;simp [Builtin.len_,run_underlying ht,goInt]
 ·rename_i ht;simp only [zAA] at hl;subst hl;generalize a.eval x=c at x1;cases x1;simp [Builtin.len_,run_underlying ht,goInt]
 ·rename_i b ht;split at hl<;>simp only [zAA,reduceCtorEq] at hl;rename_i es hb;subst hl;obtain ⟨en,ck,e1,e2,_⟩:=xx h hb;generalize a.eval x=c at x1;cases x1;have hg:(getObj (g.blk b)).run P w=.ok (.map en ck) w:=by simp [getObj,Sem.run,e1]
  have:es.length=en.size:=by have:=e2.len;simpa using this
  simp [Builtin.len_,run_underlying ht,hg,goInt,this]
 ·cases hl
theorem ze5 (h:Rel B g s a w) {x y:Operand} {k k':IntKind} {m n:Int} (hx:peek s.env x=some (.int k m)) (hy:peek s.env y=some (.int k' n)) (ps:Array TypeId) (ty:TypeId) :
  (Builtin.min_ ps ty #[a.eval x,a.eval y]).run P w=.ok (.int k (if n<m then n else m)) w/\(Builtin.max_ ps ty #[a.eval x,a.eval y]).run P w=.ok (.int k (if n > m then n else m)) w:=by
 have x1:=(zm h hx).1;have y1:=(zm h hy).1;generalize a.eval x=c at x1;generalize a.eval y=d at y1;cases x1;cases y1;constructor
 ·simp [Builtin.min_,Builtin.min2]
 ·simp [Builtin.max_,Builtin.max2]
end Go.Vm
namespace Go.Vm
open Go
variable {P:Program} {B:Base} {g:Gh} {s:St} {a:Act} {w:World}
structure After (d:Nat) (H:Hp) (g:Gh) (w:World) (H':Hp) (g':Gh) (w':World):Prop where
 wok:Wok g' H'.blks w'
 fr:Fr d H.blks g w g' w'
 len:H.blks.length<=H'.blks.length
 newer:∀ b,H.blks.length<=b->b<H'.blks.length->w.heap.size<=g'.blk b
 edges:∀ (b:Nat) (x:Blk),H'.blks[b]?=some x->x.top<=b+1\/(∃ m,(b,m)∈H'.edges/\x.top<=m)\/∃ y:Blk,H.blks[b]?=some y/\x.top<=y.top
 keep:∀ p∈H.edges,p∈H'.edges
 lks:∀ b off,zP H.blks b off->zP H'.blks b off
def CallPost (d:Nat) (H:Hp) (g:Gh) (w:World) (l:Loc) (out:Out) (H':Hp):Ending->World->Prop
 | .returned cv,w'=>∃ v g',out=.ret v/\After d H g w H' g' w'/\RelV g' v cv/\OwnV g' H'.blks.length w' l v cv/\v.top<=H'.blks.length
 | .panicked chain,w'=>∃ v cv g',out=.pan v/\chain=[{ v:=cv,recovered:=false }]/\After d H g w H' g' w'/\RelV g' v cv/\v.top<=H'.blks.length
 | .outgrown,_=>False
def zhk (args:List V):Prop:=∀ x∈args,∀ sz xs e,x≠.sl sz xs (.yes e)
structure ArgsOk (g:Gh) (n:Nat) (args:List V) (cargs:Array Value):Prop where
 len:args.length=cargs.size
 rel:∀ (j:Nat) (x:V) (v:Value),args[j]?=some x->cargs[j]?=some v->RelV g x v
 top:tops args<=n
 no:zhk args
def yJ (P:Program) (gl:Nat->Nat->Option V) (call:FuncId->List V->Hp->Option (Out×Hp)) (d:Nat):Prop :=
 ∀ f args H out H',call f args H=some (out,H')->∀ g w cargs l,GlOk P gl g->Wok g H.blks w->ArgsOk g H.blks.length args cargs->Calls P f cargs w (CallPost d H g w l out H')
theorem Prot.mono {d d' n:Nat} (h:d<=d') {c:Nat} (hp:Prot d' n g w c):Prot d n g w c :=
 ⟨hp.1,hp.2.1,hp.2.2.imp id fun ⟨k,t,e,hk⟩=>⟨k,t,e,Nat.lt_of_le_of_lt h hk⟩⟩
theorem Fr.mono {d d':Nat} (h:d<=d') {bs:List Blk} {g':Gh} {w':World} (hf:Fr d bs g w g' w'):Fr d' bs g w g' w' :=
 ⟨hf.le,fun c hc=>hf.heap c (hc.mono h),fun c hc=>hf.own c (hc.mono h),fun c hc=>hf.M c (hc.mono h),hf.size,hf.lk,hf.os,hf.tape,hf.output⟩
theorem OwnV.after {d dd t:Nat} (hd:d<dd) {H H':Hp} {g':Gh} {w':World} (hA:After d H g w H' g' w') {x:V} {cv:Value} (h:OwnV g H.blks.length w (.slot dd t) x cv):OwnV g' H'.blks.length w' (.slot dd t) x cv:=by
 unfold OwnV at *;split
 ·rename_i sz xs e;have h':OwnAt g H.blks.length w (.slot dd t) e sz xs.length cv:=h;have hlt:=h'.lt;obtain ⟨vs,h1,h2⟩:=h';have hp:∀ c,cv.ownBlock=some c->Prot d H.blks.length g w c:=fun c hc=>⟨hlt c hc,(h2 c hc).2.2,.inr ⟨dd,t,(h2 c hc).1,hd⟩⟩;refine ⟨vs,zaF h1 fun c hc=>hA.fr.heap c (hp c hc),fun c hc=>⟨?_,?_,fun b hb e=>?_⟩⟩
  ·rw [hA.fr.own c (hp c hc)];exact (h2 c hc).1
  ·exact (h2 c hc).2.1.eq fun o=>hA.fr.M c (hp c hc) o
  ·rcases zAZ b H.blks.length with hb'|hb'
   ·exact (h2 c hc).2.2 b hb' ((hA.fr.le.blk b hb').symm.trans e)
   ·have:=hA.newer b hb' hb;have:=hlt c hc;omega
 ·trivial
theorem Rel.call (h:Rel B g s a w) {d:Nat} (hd:d<B.d) {H':Hp} {g':Gh} {w':World} (hA:After d s.H g w H' g' w'):Rel B g' { s with H:=H' } a w':=by
 refine { wok:=hA.wok,len:=h.len,env:=fun t x v hx hv=>?_,envTop:=fun t x hx=>zAM (h.envTop t x hx) hA.len,n0:=zAM h.n0 hA.len,edges:=fun b x hx=>?_,newer:=fun b h1 h2=>?_,fr:=?_,lks:=fun b off hl=>hA.lks b off (h.lks b off hl),lkl:=h.lkl,pend:=fun p hp=>?_,deflen:=h.deflen,defers:=fun j x q hx hq=>(h.defers j x q hx hq).le hA.fr.le hA.len,marks:=fun dm hdd D hD=>?_,mdis:=h.mdis }
 ·obtain ⟨h1,h2⟩:=h.env t x v hx hv;exact ⟨h1.le hA.fr.le (h.envTop t x hx),h2.after hd hA⟩
 ·rcases hA.edges b x hx with h1|h1|⟨y,h1,h2⟩
  ·exact .inl h1
  ·exact .inr (.inl h1)
  ·rcases h.edges b y h1 with h3|⟨m,h3,h4⟩|⟨z,h3,h4⟩
   ·exact .inl (zAM h2 h3)
   ·exact .inr (.inl ⟨m,hA.keep _ h3,zAM h2 h4⟩)
   ·exact .inr (.inr ⟨z,h3,zAM h2 h4⟩)
 ·rcases zAZ b s.H.blks.length with h3|h3
  ·rw [hA.fr.le.blk b h3];exact h.newer b h1 h3
  ·exact zAM h.fr.size (hA.newer b h3 h2)
 ·exact h.fr.trans h.n0 h.newer (fun b off hl=>h.lks b off (.inl hl)) (hA.fr.mono (Nat.le_of_lt hd))
 ·obtain ⟨p1,p2,p3,p4,p5⟩:=h.pend p hp;refine ⟨p1,p2.le hA.fr.le p4,p3.after hd hA,zAM p4 hA.len,fun b off e=>?_⟩;rw [hA.fr.lk b off (h.lks b off (.inr ⟨p,hp,e⟩))];exact p5 b off e
 ·obtain ⟨h0,h1,h2,h3⟩:=h.marks dm hdd D hD;have hlt:D<w.heap.size:=(zAX.1 h1).1;have hp:Prot d s.H.blks.length g w D:=⟨hlt,h2,.inl h3⟩;refine ⟨h0,(hA.fr.heap D hp).trans h1,fun b hb e=>?_,(hA.fr.own D hp).trans h3⟩;rcases zAZ b s.H.blks.length with h4|h4
  ·rw [hA.fr.le.blk b h4] at e;exact h2 b h4 e
  ·have:=hA.newer b h4 hb;omega
structure Ends (P:Program) (B:Base) (o:Oper) (r:OR) (s':St) (K:Act->World->Prop) (Q:Exit->Act->World->Prop):Prop where
 val:∀ v,r=.val v->∀ g' cv a' w',OpOk B g' s' a' w' o.dst v cv->K (a'.put o.dst cv) w'
 skip:r=.skip->∀ g' a' w',Rel B g' s' a' w'->K (a'.put o.dst undef) w'
 pan:∀ v,r=.pan v->∀ g' cv a' w',Rel B g' s' a' w'->RelV g' v cv->v.top<=s'.H.blks.length->Q (.panic [{ v:=cv,recovered:=false }]) a' w'
def vM (P:Program):Prop:=∀ (f:FuncId) (fn:Func),P.funcs[f]?=some fn->(fn.name == "runtime.NumGoroutine")=false
def kz (P:Program):Prop:=∀ (f:FuncId) (fn:Func) (args:List V) (v:V),P.funcs[f]?=some fn->fn.body=none->zl1 fn.name args=some v ->
 ∀ g n cargs w,ArgsOk g n args cargs->∃ cv,(callFunc f cargs).run P w=.ok (.value cv) w/\RelV g v cv/\v.top=0/\(∀ k l,OwnV g k w l v cv)
theorem zhl {cx:Cx} (hP:cx.P=P) (hnum:vM P) (hprim:kz P) {d:Nat} (hd:d<B.d) (hgl:GlOk P cx.gl B.g) (hcall:yJ P cx.gl cx.call d) (h:Rel B g s a w) {f:FuncId} {args:List V} {cargs:Array Value} {r:OR} {H':Hp}
  (hc:cx.callF f args s.H=some (r,H')) (hargs:ArgsOk g s.H.blks.length args cargs) {o:Oper} (ho:(execOp a.eval o).run P w=(callFunc f cargs).run P w) {K:Act->World->Prop} {Q:Exit->Act->World->Prop} (hE:Ends P B o r { s with H:=H' } K Q):o.wp P a w K Q:=by
 have hgl':GlOk P cx.gl g:=hgl.le h.fr.le;unfold Cx.callF at hc;rw [hP] at hc;cases hf:P.funcs[f]? with
 | none=>rw [hf] at hc;cases hc
 | some fn =>
  rw [hf] at hc;simp only at hc;cases hb:fn.body with
  | none =>
   rw [hb] at hc;simp only at hc;split at hc<;>simp only [zAA,reduceCtorEq,zAD] at hc;rename_i v hv;obtain ⟨rfl,rfl⟩:=hc;obtain ⟨cv,h1,h2,h3,h4⟩:=hprim f fn args v hf hb hv g _ cargs w hargs;unfold Oper.wp;rw [ho,h1,Oper.upon_value];exact hE.val v rfl g cv a w ⟨h,h2,fun _ _=>h4 _ _,by omega⟩
  | some c =>
   rw [hb] at hc;simp only at hc;split at hc<;>simp only [zAA,reduceCtorEq] at hc;rename_i res hres;obtain ⟨out,H1⟩:=res;have hrun:(callFunc f cargs).run P w=.ok (.enter f cargs) w:=by
    have hne:fn.name≠ "runtime.NumGoroutine":=by simpa using hnum f fn hf
    simp [callFunc,hf,hb,hne]
   unfold Oper.wp;rw [ho,hrun,Oper.upon_enter];refine Calls.mono (hcall f args s.H out H1 hres g w cargs (.slot B.d (o.dst.getD 0)) hgl' h.wok hargs) fun e w' hp=>?_;cases e with
   | returned cv =>
    obtain ⟨v,g',rfl,hA,v1,v2,v3⟩:=hp;simp only [orOf,zAD] at hc;obtain ⟨rfl,rfl⟩:=hc;exact hE.val v rfl g' cv a w' ⟨h.call hd hA,v1,fun t ht=>by simpa [ht] using v2,v3⟩
   | panicked chain =>
    obtain ⟨v,cv,g',rfl,rfl,hA,v1,v3⟩:=hp;simp only [orOf,zAD] at hc;obtain ⟨rfl,rfl⟩:=hc;exact hE.pan v rfl g' cv a w' (h.call hd hA) v1 v3
   | outgrown=>exact hp.elim
end Go.Vm
namespace Go.Vm
open Go
variable {P:Program} {B:Base} {g:Gh} {s:St} {a:Act} {w:World}
theorem zf0 (l:List V):zhk (l.map clr):=fun x hx sz xs e h=>by
 obtain ⟨y,_,rfl⟩:=zAo.1 hx;exact wu y sz xs e h
theorem ArgsOk.ofRel {n:Nat} {l:List V} {arr:Array Value} (hl:l.length=arr.size) (hr:∀ (j:Nat) (x:V) (v:Value),l[j]?=some x->arr[j]?=some v->RelV g x v) (ht:tops l<=n):ArgsOk g n (l.map clr) arr :=
 ⟨by simpa using hl,fun j x v hx hv=>by
  simp only [zAY,zAV] at hx;obtain ⟨y,hy,rfl⟩:=hx
  exact (hr j y v hy hv).clr,by rw [qo];exact ht,zf0 l⟩
theorem kX {l m:List V} {x y:Array Value} (h1:l.length=x.size) (hl:∀ (j:Nat) (z:V) (v:Value),l[j]?=some z->x[j]?=some v->RelV g z v) (hm:∀ (j:Nat) (z:V) (v:Value),m[j]?=some z->y[j]?=some v->RelV g z v) :
  ∀ (j:Nat) (z:V) (v:Value),(l++m)[j]?=some z->(x++y)[j]?=some v->RelV g z v:=fun j z v hz hv=>by
 rcases zAZ j l.length with h|h
 ·rw [zAR h] at hz;rw [Array.getElem?_append_left (by omega)] at hv
  exact hl j z v hz hv
 ·rw [zAP h] at hz;rw [Array.getElem?_append_right (by omega),<- h1] at hv
  exact hm _ z v hz hv
theorem kf {l m:List V} {n:Nat} (h1:tops l<=n) (h2:tops m<=n):tops (l++m)<=n :=
 zN fun _ hx=>(zA3.1 hx).elim (fun h=>zAM (zg h) h1) (fun h=>zAM (zg h) h2)
theorem zkZ {t:TypeId} {v rv:V} {cv:Value} {name:String} {f:FuncId} (hm:zfL P t v name=some (f,rv)) (k:Nat):rv=v/\(method (k+1) t cv name).run P w=.ok (f,cv) w:=by
 simp only [zfL,Option.bind_eq_bind,zAG] at hm;obtain ⟨i,hi,m,hmm,hm⟩:=hm;split at hm<;>try (cases hm;done)
 rename_i hp;simp only [zAG] at hm;obtain ⟨⟨f',pr⟩,hf,ds,hds,hm⟩:=hm;have hp':m.path=#[]:=by simpa using hp
 simp only at hm;split at hm<;>simp only [zAA,reduceCtorEq,zAD] at hm
 ·obtain ⟨rfl,rfl⟩:=hm;refine ⟨rfl,?_⟩;simp [method,typeInfo,hi,hmm,hp',follow,hf,receiverAt,run_underlying hds,Place.get]
 ·obtain ⟨rfl,rfl⟩:=hm;refine ⟨rfl,?_⟩;cases ds<;>first
   |(simp [method,typeInfo,hi,hmm,hp',follow,hf,receiverAt,run_underlying hds,Place.get];done)
   |(exfalso;simp_all;done)
theorem ziQ (P:Program):∃ k,P.types.size+Made.depth=k+1:=⟨P.types.size+(Made.depth - 1),by simp [Made.depth]⟩
theorem zhm {cx:Cx} (hP:cx.P=P) (hnum:vM P) (hprim:kz P) {d:Nat} (hd:d<B.d) (hgl:GlOk P cx.gl B.g) (hcall:yJ P cx.gl cx.call d) (h:Rel B g s a w) {fv:V} {args:List V} {fn:Fn} {fa fc cargs:Array Value} {r:OR} {H':Hp}
  (hc:cx.callV fv args s.H=some (r,H')) (hfv:RelV g fv (.func fn fa fc)) (hft:fv.top<=s.H.blks.length) (hl:args.length=cargs.size) (hr:∀ (j:Nat) (x:V) (v:Value),args[j]?=some x->cargs[j]?=some v->RelV g x v) (ht:tops args<=s.H.blks.length)
  {o:Oper} (ho:(execOp a.eval o).run P w=(invoke (.fn fn fc) (fa++cargs)).run P w) {K:Act->World->Prop} {Q:Exit->Act->World->Prop} (hE:Ends P B o r { s with H:=H' } K Q):o.wp P a w K Q:=by
 unfold Cx.callV at hc;split at hc
 ·rename_i f first cap
  simp only [fL_eq] at hc;cases hfv with
  | fn f1 f2 f3 f4 =>
   have htt:tops first<=s.H.blks.length/\tops cap<=s.H.blks.length:=zBO.1 hft
   refine zhl hP hnum hprim hd hgl hcall h hc (cargs:=fa++cargs++fc) (ArgsOk.ofRel (by simp [f1,f2,hl]) (kX (by simp [f1,hl]) (kX f1 f3 hr) f4) (kf (kf htt.1 ht) htt.2)) ?_ hE
   rw [ho];rfl
 ·rename_i name first cap
  split at hc<;>try (cases hc;done)
  rename_i t v rest hcons;split at hc<;>try (cases hc;done)
  rename_i f rv hm;rw [hP] at hm;simp only [fL_eq] at hc;cases hfv with
  | fn f1 f2 f3 f4 =>
   have htt:tops first<=s.H.blks.length/\tops cap<=s.H.blks.length:=zBO.1 hft
   have hall:=kX f1 f3 hr;have hlen:(first++args).length=(fa++cargs).size:=by simp [f1,hl]
   have htop:=kf htt.1 ht;rw [hcons] at hall hlen htop;have h0:0<(fa++cargs).size:=by rw [<- hlen];simp
   have hrec:=hall 0 _ _ rfl (zAy h0);generalize hcr:(fa++cargs)[0]=cr at hrec;cases hrec with
   | ifc hv =>
    rename_i cv;obtain ⟨k,hk⟩:=ziQ P;obtain ⟨rfl,hmr⟩:=zkZ (P:=P) (w:=w) (cv:=cv) hm k;have hsome:(fa++cargs)[0]?=some (.iface t cv):=by rw [zAy h0,hcr]
    refine zhl hP hnum hprim hd hgl hcall h hc (cargs:=#[cv]++(fa++cargs).extract 1 (fa++cargs).size) (ArgsOk.ofRel ?_ (fun j x u hx hu=>?_) ?_) ?_ hE
    ·simp only [zAj] at hlen;simp only [zAj,Array.size_append,Array.size_extract,List.size_toArray,List.length_nil] at *;omega
    ·cases j with
     | zero =>
      rw [Array.getElem?_append_left (by simp)] at hu
      simp only [zAt,zAA,List.getElem?_toArray] at hx hu;subst hx;subst hu;exact hv
     | succ j =>
      refine hall (j+1) x u (by simpa using hx) ?_
      rw [Array.getElem?_append_right (by simp)] at hu
      simp only [List.size_toArray,zAj,List.length_nil,zA0,Nat.add_sub_cancel] at hu;rw [Array.getElem?_extract] at hu;split at hu
      ·rw [Nat.add_comm] at hu;exact hu
      ·cases hu
    ·exact zN fun x hx=>by
      rcases zAK.1 hx with rfl|hx
      ·exact zAM (show _<=(V.ifc t x).top from zAO _) (zAM (zg (zAL ..)) htop)
      ·exact zAM (zg (zAE _ hx)) htop
    ·rw [ho];simp only [invoke,hsome,callMethod];simp [hk,hmr]
 ·cases hc
end Go.Vm
namespace Go.Vm
open Go
variable {P:Program} {B:Base} {g:Gh} {s:St} {a:Act} {w:World}
theorem args2 {args:Array Operand} {x y:Operand} (h:args.toList=[x,y]):args=#[x,y]:=by
 apply Array.ext';simpa using h
theorem zqV {args:Array Operand} {x:Operand} (h:args.toList=[x]):args=#[x]:=by
 apply Array.ext';simpa using h
theorem zmb {args:Array TypeId} {x y:TypeId} (h:args.toList=[x,y]):args=#[x,y]:=by
 apply Array.ext';simpa using h
theorem zp4 {args:Array TypeId} {x:TypeId} (h:args.toList=[x]):args=#[x]:=by
 apply Array.ext';simpa using h
theorem ziR {cx:Cx} (hP:cx.P=P) (h:Rel B g s a w) {b:Builtin} {ts:Array TypeId} {args:Array Operand} {r:OR} {env':List V} (hb:cx.builtin b ts args s.env s.H=some (r,env')) {o:Oper} {c:Call} (ho:o.op=.call c) (hc:c.callee=.builtin b) (hts:c.argTypes=ts) (hargs:c.args=args) :
  ∃ v,r=.val v/\ValOk P B { s with env:=env' } a w o v:=by
 have hrun:∀ m:Sem Value,(∀ x,builtin b ts o.type x (args.map a.eval)=(do pure (.value (<- m))))->∀ cv w',m.run P w=.ok cv w'->(execOp a.eval o).run P w=.ok (.value cv) w':=by
  intro m hm cv w' hr;simp [execOp,ho,resolve,hc,hts,hargs,invoke,hm,hr]
 unfold Cx.builtin at hb;split at hb
 ·rename_i x t hx ht;have e1:=zqV hx;have e2:=zp4 ht;subst e1;subst e2;simp only [Option.bind_eq_bind,zAG,zAA,zAD] at hb;obtain ⟨v,hv,n,hn,rfl,rfl⟩:=hb;rw [hP] at hn;exact ⟨_,rfl,g,.int .i64 n,w,hrun (Builtin.len_ #[t] o.type #[a.eval x]) (fun _=>by simp [builtin]) _ _ (zom h hv hn),h,.int _ _,fun _ _=>trivial,zAW _⟩
 ·rename_i x y t u hx ht;have e1:=args2 hx;have e2:=zmb ht;subst e1;subst e2;split at hb<;>try (cases hb;done)
  rename_i htu;have e3:t=u:=zAJ (by simpa using htu)
  subst e3;simp only [Option.bind_eq_bind,zAG,zAA,zAD] at hb;obtain ⟨yv,hy,⟨v,env2⟩,hx',r',hr',rfl,rfl⟩:=hb;rw [hP] at hr';obtain ⟨g',cv,w',h1,h2,h3,h4,h5⟩:=append_ok (ty:=o.type) h hy hx' hr' (o.dst.getD 0);exact ⟨_,rfl,g',cv,w',hrun (Builtin.append_ #[t,t] o.type #[a.eval x,a.eval y]) (fun _=>by simp [builtin]) _ _ h1,h2,h3,fun d hd=>by simpa [hd] using h4,h5⟩
 ·rename_i x y hx;have e1:=args2 hx;subst e1;simp only [Option.bind_eq_bind,zAG] at hb;obtain ⟨u,hu,v,hv,hb⟩:=hb;split at hb<;>simp only [zAA,reduceCtorEq,zAD] at hb;obtain ⟨rfl,rfl⟩:=hb;exact ⟨_,rfl,g,_,w,hrun (Builtin.min_ ts o.type #[a.eval x,a.eval y]) (fun _=>by simp [builtin]) _ _ (ze5 h hu hv ts o.type).1,h,.int _ _,fun _ _=>trivial,zAW _⟩
 ·rename_i x y hx;have e1:=args2 hx;subst e1;simp only [Option.bind_eq_bind,zAG] at hb;obtain ⟨u,hu,v,hv,hb⟩:=hb;split at hb<;>simp only [zAA,reduceCtorEq,zAD] at hb;obtain ⟨rfl,rfl⟩:=hb;exact ⟨_,rfl,g,_,w,hrun (Builtin.max_ ts o.type #[a.eval x,a.eval y]) (fun _=>by simp [builtin]) _ _ (ze5 h hu hv ts o.type).2,h,.int _ _,fun _ _=>trivial,zAW _⟩
 ·cases hb
end Go.Vm
namespace Go.Vm
open Go
variable {P:Program} {B:Base} {g:Gh} {s:St} {a:Act} {w:World}
def Gh.ver (g:Gh) (b u:Nat) (v:Value) (own:Nat->Option Loc):Gh :=
 {g with hdr:=fun b' u'=>if b'=b/\u'=u then some v else g.hdr b' u',own:=own }
theorem zhn {H:Hp} {bs0:List Blk} (h:zg8 bs0 H) {b:Nat} {x0 x:Blk} {v:V} (hb:H.blks[b]?=some x0) (hedge:x.top<=max x0.top v.top):zg8 bs0 ((H.set b x).edge b v):=by
 have hbl:b<H.blks.length:=(zAB.1 hb).1;have hblks:((H.set b x).edge b v).blks=H.blks.set b x:=by simp only [Hp.edge,Hp.set];split<;>rfl
 have hmem:∀ p∈H.edges,p∈((H.set b x).edge b v).edges:=by
  intro p hp;simp only [Hp.edge,Hp.set];split
  ·exact hp
  ·exact zAE _ hp
 intro b' y hy;rw [hblks] at hy
 by_cases e:b'=b
 ·subst e;rw [zBR hbl] at hy;cases hy;rcases Nat.le_total x0.top v.top with h2|h2
  ·rw [Nat.max_eq_right h2] at hedge
   by_cases h3:v.top<=b'+1
   ·exact .inl (zAM hedge h3)
   ·refine .inr (.inl ⟨v.top,?_,hedge⟩);simp only [Hp.edge,Hp.set];rw [if_neg h3];exact zAL ..
  ·rw [Nat.max_eq_left h2] at hedge;rcases h b' x0 hb with h1|⟨m,h1,h2⟩|⟨y,h1,h2⟩
   ·exact .inl (zAM hedge h1)
   ·exact .inr (.inl ⟨m,hmem _ h1,zAM hedge h2⟩)
   ·exact .inr (.inr ⟨y,h1,zAM hedge h2⟩)
 ·rw [zA2 (fun e'=>e e'.symm)] at hy;rcases h b' y hy with h1|⟨m,h1,h2⟩|h1
  ·exact .inl h1
  ·exact .inr (.inl ⟨m,hmem _ h1,h2⟩)
  ·exact .inr (.inr h1)
theorem Rel.writeU (h:Rel B g s a w) {b ver sz:Nat} {cs:List V} {e:TypeId} {x:Blk} {v:V} {g':Gh} {w':World} (hb:s.H.get b=some (.ul ver sz cs e))
  (hs:Same B.d (some b) (some (.cell b 0)) s.H.blks.length g w g' w') (hM:g'.M=g.M) (hheap:∀ c o v,g.M c o=some v->w'.heap[c]?=w.heap[c]?) (hownlt:∀ c l,g'.own c=some l->c<w'.heap.size)
  (hok:BlkOk g' s.H.blks.length w' b x) (htop:x.top<=s.H.blks.length) (hedge:x.top<=max (tops cs) v.top):Rel B g' { s with H:=(s.H.set b x).edge b v } a w':=by
 simp only [Hp.get,zd] at hb;have hbl:b<s.H.blks.length:=(zAB.1 hb).1;have hblks:((s.H.set b x).edge b v).blks=s.H.blks.set b x:=by
  simp only [Hp.edge,Hp.set];split<;>rfl
 have hlen:((s.H.set b x).edge b v).blks.length=s.H.blks.length:=by rw [hblks];simp
 have hnl:∀ off,¬ zP s.H.blks b off:=by
  rintro off ⟨cs',t',sz',xs',h1,h2⟩;rw [hb] at h1;cases h1
 refine h.master (s':={ s with H:=(s.H.set b x).edge b v }) hs (by rw [hlen];exact zAO _) (fun b' hb' hne=>?_) (fun b' y hy1 hy=>?_) (fun b' h1 h2=>?_) (fun b1 b2 h1 h2=>?_) (fun c o u hu=>?_) hownlt
  (fun b' j e=>by cases e;exact hnl 0) rfl rfl (fun t y hy=>⟨y,hy,.inl ⟨rfl,fun e=>by cases e⟩⟩) (zhn h.edges hb hedge) (fun b' off hlk'=>?_) h.lkl (fun _ e=>by cases e)
 ·rw [hblks,zA2 (fun e=>hne (by rw [e]))]
 ·have hb':b'=b:=by
   rcases hy1 with hy1|hy1
   ·cases hy1;rfl
   ·have:=(zAB.1 hy).1;rw [hlen] at this;omega
  subst hb';rw [hblks,zBR hbl] at hy;cases hy;rw [hlen];exact ⟨hok,htop⟩
 ·rw [hlen] at h2;omega
 ·rw [hlen] at h2;omega
 ·rw [hM] at hu;rw [vm (hheap c o u hu)];exact h.wok.mem c o u hu
 ·have h0:=h.lks b' off hlk';have hne:b'≠b:=fun e=>hnl off (e ▸ h0);obtain ⟨cs,t,sz,xs,h1,h2⟩:=h0;exact ⟨cs,t,sz,xs,by rw [hblks,zA2 (fun e'=>hne e'.symm)];exact h1,h2⟩
theorem zf3 (h:Rel B g s a w) {b ver sz:Nat} {cs:List V} {e:TypeId} (hb:s.H.get b=some (.ul ver sz cs e)):b<s.H.blks.length/\(g.own (g.blk b)=none):=by
 simp only [Hp.get,zd] at hb;have hbl:b<s.H.blks.length:=(zAB.1 hb).1;exact ⟨hbl,h.wok.unowned b hbl⟩
theorem Gh.ver_le {n:Nat} {g:Gh} {b u:Nat} {v:Value} {own:Nat->Option Loc} (hf:g.hdr b u=none):Gh.Le n g (g.ver b u v own):=by
 refine ⟨fun _ _ _ e=>e,fun _ _=>rfl,rfl,fun b' u' v' _ e=>?_⟩;simp only [Gh.ver];split
 ·rename_i e';obtain ⟨rfl,rfl⟩:=e';rw [hf] at e;cases e
 ·exact e
theorem flatV_eq:∀ (l:List V),flatV l=zo l
 | []=>rfl
 | x::xs=>by simp [flatV,zo,flatV_eq xs]
theorem zf4 (h:Rel B g s a w) {b ver sz:Nat} {cs cs':List V} {e:TypeId} {c len cap c' len' cap':Nat} {vs vs':List Value} {v:V} {w':World} (hb:s.H.get b=some (.ul ver sz cs e)) (hu:UlOk g s.H.blks.length w b ver sz cs e c len cap vs)
  (hoth:∀ k,k<w.heap.size->k≠c->w'.heap[k]?=w.heap[k]?) (hsz:w.heap.size<=w'.heap.size) (hos:w'.os=w.os) (ht:w'.tape=w.tape) (hout:w'.output=w.output) (hc':c'=c\/c'=w.heap.size)
  (hrow:w'.ownsRow 0 e sz (.slice (some ⟨c',0,none⟩) len' cap') len' vs') (hcs:RelCs g cs' vs') (htop:tops cs'<=s.H.blks.length) (hedge:tops cs'<=max (tops cs) v.top) :
  ∃ g',Rel B g' { s with H:=(s.H.set b (.ul (ver+1) sz cs' e)).edge b v } a w'/\RelV g' (.ulr b (ver+1) len') (.slice (some ⟨c',0,none⟩) len' cap'):=by
 obtain ⟨hbl,hun⟩:=zf3 h hb;have hlt:c<w.heap.size:=(hu.row.lt c rfl).2;have hlt':c'<w'.heap.size:=(hrow.lt c' rfl).2;have hno:∀ k,k<w.heap.size->(∀ b',some b=some b'->g.blk b'≠k)->(∀ l,some (Loc.cell b 0)=some l->g.own k≠some l)->k≠c:=fun k _ h1 h2 e=>by
  subst e;rcases hu.mine with h3|h3
  ·exact h1 b rfl h3.symm
  ·exact h2 _ rfl h3
 let own:Nat->Option Loc:=fun k=>if c'≠c/\k=c' then some (.cell b 0) else g.own k
 let g':Gh:=g.ver b (ver+1) (.slice (some ⟨c',0,none⟩) len' cap') own
 have hown:∀ k,k<w.heap.size->own k=g.own k:=fun k hk=>by
  show (if _ then _ else _)=_
  rw [if_neg];rintro ⟨h1,rfl⟩;rcases hc' with h2|h2
  ·exact h1 h2
  ·omega
 have hle:Gh.Le s.H.blks.length g g':=Gh.ver_le (hu.fresh _ (zBu _));have hhdr:g'.hdr b (ver+1)=some (.slice (some ⟨c',0,none⟩) len' cap'):=by simp [g',Gh.ver]
 have hS:Same B.d (some b) (some (.cell b 0)) s.H.blks.length g w g' w' :=
  ⟨hle,fun k hk h1 h2=>hoth k hk (hno k hk h1 h2),fun k hk _=>hown k hk,fun _ _ _ _=>rfl,hsz,fun _ _ _=>rfl,fun l hl=>.inr ⟨b,0,by cases hl;rfl,rfl⟩,fun b' hb'=>by cases hb';exact hbl,
   fun b' u hb' hne=>by
    show (if _ then _ else _)=_
    rw [if_neg];rintro ⟨rfl,_⟩;exact hne rfl,hos,ht,hout⟩
 refine ⟨g',h.writeU hb hS rfl (fun k o x hx=>?_) (fun k l hk=>?_) ⟨c',len',cap',vs',hhdr,hu.pos,hrow,?_,fun o=>?_,fun b' hb' hne e'=>?_,hcs.len,fun j x u hx hv=>⟨hcs.one j x hx,?_⟩,fun u hlu=>?_⟩ htop hedge,.ulr hhdr⟩
 ·refine hoth k (kx (h.wok.mem k o x hx)) fun e=>?_;subst e;rw [hu.M o] at hx;cases hx
 ·have:(if c'≠c/\k=c' then some (Loc.cell b 0) else g.own k)=some l:=hk
  split at this
  ·rename_i e;rw [e.2];exact hlt'
  ·exact zAh (h.wok.ownlt k l this) hsz
 ·rcases hc' with e'|e'
  ·subst e';rcases hu.mine with h1|h1
   ·exact .inl h1
   ·refine .inr ?_;show (if _ then _ else _)=_
    rw [if_neg (fun e=>e.1 rfl)];exact h1
  ·refine .inr ?_;show (if _ then _ else _)=_
   rw [if_pos ⟨by omega,rfl⟩]
 ·show g.M c' o=none;rcases hc' with e'|e'
  ·subst e';exact hu.M o
  ·cases hm:g.M c' o with
   | none=>rfl
   | some x=>have:=kx (h.wok.mem _ _ _ hm);omega
 ·rcases hc' with e2|e2
  ·subst e2;exact hu.others b' hb' hne e'
  ·have:=h.wok.lt b' hb';have e3:g.blk b'=c':=e';omega
 ·exact (hcs.rel j x u hx hv).le hle (zAM (zg (zl hx)) htop)
 ·show (if _ then _ else _)=_
  rw [if_neg (fun e=>by omega)]
  exact hu.fresh u (by omega)
theorem zho {w:World} {e:TypeId} {sz c len cap k:Nat} {vs:List Value} (h:w.ownsRow 0 e sz (.slice (some ⟨c,0,none⟩) len cap) len vs) (hk:k<=len):w.ownsRow 0 e sz (.slice (some ⟨c,0,none⟩) k cap) k (vs.take (k * sz)):=by
 obtain ⟨hl,h|⟨c',cap',cur,hv,h0,hb,h1,h2,h3,hx⟩⟩:=h
 ·cases h.1
 ·cases hv;have hm:k * sz<=len * sz:=zBh _ hk;refine ⟨by rw [zBA,hl];omega,.inr ⟨c,cap,cur,rfl,h0,hb,by omega,h2,h3,?_⟩⟩
  rw [<- hx,List.take_take,Nat.min_eq_left hm]
theorem tops_take (cs:List V) (k:Nat):tops (cs.take k)<=tops cs:=zN fun _ hx=>zg (zAw hx)
theorem zk0 {cx:Cx} (hP:cx.P=P) (h:Rel B g s a w) {t:TypeId} {x:Operand} {lo hi:Option Operand} {r:OR} {s':St} (hop:cx.sliceU t x lo hi s.env s.H s.lk s.defers=some (r,s')) {o:Oper} (ho:o.op=.slice t x lo hi none) :
  ∃ v,r=.val v/\ValOk P B s' a w o v:=by
 unfold Cx.sliceU at hop;rw [hP] at hop;split at hop<;>try (cases hop;done)
 rotate_left
 ·rename_i b off len cap lo' hi' hx hlo hhi;split at hop<;>simp only [zAA,reduceCtorEq,zAD] at hop;rename_i v hv;obtain ⟨rfl,rfl⟩:=hop;obtain ⟨x1,x2,_⟩:=zm h hx;obtain ⟨cv,e1,e2,e3,e4⟩:=ze3 (P:=P) (n:=s.H.blks.length) hv x1 (opO h hlo) (opO h hhi) x2 w;exact ⟨v,rfl,g,cv,w,by simp [execOp,ho,e1],h,e2,fun d _=>e4 _ _,e3⟩
 rename_i e' b u len k hh ht hx hlo hhi;split at hop<;>try (cases hop;done)
 rename_i m ver sz cs e hm hb;split at hop<;>try (cases hop;done)
 rename_i hc;simp only [fL_eq,zH,zR,zAA,zAD] at hop;obtain ⟨rfl,rfl⟩:=hop;simp only [zAC,decide_eq_true_eq] at hc;obtain ⟨⟨hv,h0⟩,hle⟩:=hc;have hv:=zAJ hv;have hle:=zAf hle;subst hv;obtain ⟨x1,x2,_⟩:=zm h hx;obtain ⟨c,l0,cap,vs,hu,h2,h3⟩:=zbg h hb;have hlo':=opO h hlo;have hhi':=opO h hhi;have hcap:l0<=cap:=by
  obtain ⟨_,hr|⟨_,_,_,hr,_,_,h5,_⟩⟩:=hu.row
  ·cases hr.1
  ·cases hr;exact h5
 generalize hxe:a.eval x=cx' at x1;cases x1 with
 | ulr hh' =>
  rw [hu.hdr] at hh';cases hh';have hb':=ym (P:=P) (isSlice:=true) (len:=len) (cap:=cap) (l:=0) (h:=hh.toNat) hlo' hhi' (by simp [z8,h0]) rfl (zAW _) hle hcap w
  obtain ⟨g',r1,r2⟩:=zf4 (v:=.nilp) h hb hu (fun _ _ _=>rfl) (zAO _) rfl rfl rfl (.inl rfl) (zho hu.row hle) (h2.take _) (zAM (tops_take _ _) h3) (zAM (tops_take _ _) (zBT _ _));refine ⟨_,rfl,g',_,w,?_,r1,r2,fun _ _=>trivial,?_⟩
  ·have hs:(Instr.sliceAt t (.slice (some ⟨c,0,none⟩) len cap) (lo.map a.eval) (hi.map a.eval) none).run P w=.ok (.slice (some ⟨c,0,none⟩) hh.toNat cap) w:=by
    simp [Instr.sliceAt,run_underlying ht,Instr.slice,hb',zW hm,Addr.add_lit]
   simp [execOp,ho,hxe,hs]
  ·have:((s.H.set b (.ul (ver+1) sz (cs.take (hh.toNat * sz)) e)).edge b .nilp).blks.length=s.H.blks.length:=by
    simp only [Hp.edge,Hp.set];split<;>simp
   rw [this];have:=(zf3 h hb).1;simp only [V.top];omega
end Go.Vm
namespace Go.Vm
open Go
variable {P:Program} {B:Base} {g:Gh} {s:St} {a:Act} {w:World}
theorem zc0 {α:Type} (l vs:List α) (off m:Nat) (h:off+vs.length<=m) (hm:m<=l.length):(storeCells l off vs).take m=storeCells (l.take m) off vs:=by
 apply zBP;intro j;rw [zA4,zC _ _ _ _ (by omega),zC _ _ _ _ (by rw [zBA];omega),zA4]
 by_cases hj:j<m
 ·simp [hj]
 ·have:¬ (off<=j/\j<off+vs.length):=by omega
  simp [hj,this]
theorem zhp (H:Hp) (b:Nat) (x:Blk) (v:V):((H.set b x).edge b v).blks.length=H.blks.length:=by
 simp only [Hp.edge,Hp.set];split<;>simp
theorem zk1 {w:World} {e:TypeId} {sz c len cap off:Nat} {vs news:List Value} (h:w.ownsRow 0 e sz (.slice (some ⟨c,0,none⟩) len cap) len vs) (hf:off+news.length<=vs.length) (h1:∀ u∈news,u.oneCell'=true) :
  ∃ w',(Go.storeCells ⟨c,off,none⟩ news 0).run P w=.ok () w'/\w'.ownsRow 0 e sz (.slice (some ⟨c,0,none⟩) len cap) len (storeCells vs off news)/\(∀ k,k≠c->w'.heap[k]?=w.heap[k]?)/\w'.heap.size=w.heap.size/\w'.os=w.os/\w'.tape=w.tape/\w'.output=w.output:=by
 obtain ⟨hl,h|⟨c',cap',cur,hv,h0,hb,h1',h2,h3,hx⟩⟩:=h
 ·cases h.1
 ·cases hv;have hvl:vs.length<=cur.toList.length:=by rw [<- hx];simp;omega
  have harr:cur.toList.take off++news++cur.toList.drop (off+news.length)=storeCells cur.toList off news:=by
   have hsplit:cur.toList=cur.toList.take off++(cur.toList.drop off).take news.length++cur.toList.drop (off+news.length):=by
    rw [zAc,<- List.drop_drop,zA8,zA8]
   have hlen:(cur.toList.take off).length=off:=by rw [zBA];omega
   have:=qX news ((cur.toList.drop off).take news.length) (cur.toList.take off) (cur.toList.drop (off+news.length)) (by rw [zBA,List.length_drop];omega)
   rw [hlen,<- hsplit] at this;rw [this]
  have hst:=run_storeCells_at P c off e news 0 cur w hb (by simp at hvl ⊢;omega) h1
  simp only [zBf] at hst;rw [harr] at hst;refine ⟨_,hst,⟨by rw [qI];exact hl,.inr ⟨c,cap,_,rfl,h0,setRow_heap w c _ _ _ _ hb,h1',h2,by simp [qI,h3],?_⟩⟩,fun k hk=>setRow_other w c k _ hk,setRow_size w c _,rfl,rfl,rfl⟩
  show (storeCells cur.toList off news).take (len * sz)=_;have hle:len * sz<=cur.toList.length:=by rw [<- hl];exact hvl
  rw [zc0 _ _ _ _ (by omega) hle,hx]
theorem Rel.setU (h:Rel B g s a w) {b ver sz:Nat} {cs cs':List V} {e:TypeId} {c len cap:Nat} {vs vs':List Value} {v:V} {w':World} (hb:s.H.get b=some (.ul ver sz cs e)) (hu:UlOk g s.H.blks.length w b ver sz cs e c len cap vs)
  (hoth:∀ k,k≠c->w'.heap[k]?=w.heap[k]?) (hsz:w'.heap.size=w.heap.size) (hos:w'.os=w.os) (ht:w'.tape=w.tape) (hout:w'.output=w.output)
  (hrow:w'.ownsRow 0 e sz (.slice (some ⟨c,0,none⟩) len cap) len vs') (hcs:RelCs g cs' vs') (htop:tops cs'<=s.H.blks.length) (hedge:tops cs'<=max (tops cs) v.top) :
  Rel B g { s with H:=(s.H.set b (.ul ver sz cs' e)).edge b v } a w':=by
 obtain ⟨hbl,hun⟩:=zf3 h hb;have hno:∀ k,k<w.heap.size->(∀ b',some b=some b'->g.blk b'≠k)->(∀ l,some (Loc.cell b 0)=some l->g.own k≠some l)->k≠c:=fun k _ h1 h2 e=>by
  subst e;rcases hu.mine with h3|h3
  ·exact h1 b rfl h3.symm
  ·exact h2 _ rfl h3
 have hS:Same B.d (some b) (some (.cell b 0)) s.H.blks.length g w g w' :=
  ⟨.refl _ _,fun k hk h1 h2=>hoth k (hno k hk h1 h2),fun k hk _=>rfl,fun _ _ _ _=>rfl,by omega,fun _ _ _=>rfl,fun l hl=>.inr ⟨b,0,by cases hl;rfl,rfl⟩,fun b' hb'=>by cases hb';exact hbl,
   fun b' u hb' hne=>rfl,hos,ht,hout⟩
 refine h.writeU hb hS rfl (fun k o x hx=>?_) (fun k l hk=>?_) ⟨c,len,cap,vs',hu.hdr,hu.pos,hrow,hu.mine,hu.M,hu.others,hcs.len,fun j x u hx hv=>⟨hcs.one j x hx,hcs.rel j x u hx hv⟩,hu.fresh⟩ htop hedge
 ·refine hoth k fun e=>?_;subst e;rw [hu.M o] at hx;cases hx
 ·rw [hsz];exact h.wok.ownlt k l hk
theorem RelCs.oneCells {cs:List V} {vs:List Value} (h:RelCs g cs vs):∀ u∈vs,u.oneCell'=true:=fun u hu=>by
 obtain ⟨j,hj⟩:=List.getElem?_of_mem hu;have hj':j<cs.length:=by rw [h.len];exact (zAB.1 hj).1
 have hx:=zAS hj';exact (h.rel j _ u hx hj).oneCell (h.one j _ hx)
theorem zk2 (h:Rel B g s a w) {t:TypeId} {p x:Operand} {b ver k n sz:Nat} {v0 v:V} {env':List V} {cs:List V} {e:TypeId} (hp:peek s.env p=some (.ulp b ver k)) (hx:take s.env x=some (v0,env')) (hv:clr v0=v) (hn:zy P t=some n)
  (hb:s.H.get b=some (.ul ver sz cs e)) (hok:okC v=true) (hl:v.cells.length=n) (hle:k+n<=cs.length) :
  ∃ g' w',(Instr.storeAt t (a.eval p) (a.eval x)).run P w=.ok () w'/\Rel B g' { s with env:=env',H:=(s.H.set b (.ul ver sz (storeCells cs k v.cells) e)).edge b v } a w':=by
 obtain ⟨p1,p2,_⟩:=zm h hp;obtain ⟨g',h1,v1,_,v2,hal⟩:=take_ok h hx .ret;have v1:=v1.clr;rw [hv] at v1;have v2:v.top<=s.H.blks.length:=by rw [<- hv,top_clr];exact v2
 have p1:=hal.rel p1;have hb':({ s with env:=env' }:St).H.get b=some (.ul ver sz cs e):=hb;obtain ⟨c,len,cap,vs,hu,h2,h3⟩:=zbg h1 hb';generalize hpe:a.eval p=cp at p1;cases p1 with
 | ulp _ hh =>
  rw [hu.hdr] at hh;cases hh;have hcs:=ky v1 hok;have hcsz:(a.eval x).cells.size=n:=by rw [<- hl,hcs.len];simp
  obtain ⟨w',e1,e2,e3,e4,e5,e6,e7⟩:=zk1 (P:=P) (off:=k) hu.row (by rw [<- hu.len,zAv,hcsz];exact hle) hcs.oneCells
  refine ⟨g',w',?_,h1.setU (v:=v) hb' hu e3 e4 e5 e6 e7 e2 (h2.store k hcs) (kW h3 (zAM (vn v) v2)) (zAM v9 (zBO.2 ⟨zBT _ _,zAM (vn v) (zBm _ _)⟩))⟩;unfold Instr.storeAt storeVar;simp [Instr.sureAddr,zW hn,hcsz,e1]
def Gh.newU (g:Gh) (n N:Nat) (v:Value):Gh:={ g.var n N with hdr:=fun b u=>if b=n then (if u=0 then some v else none) else g.hdr b u }
theorem Gh.newU_le (g:Gh) (n N:Nat) (v:Value):Gh.Le n g (g.newU n N v) :=
 ⟨fun _ _ _ h=>h,fun b hb=>by simp only [Gh.newU,Gh.var];rw [if_neg (by omega)],rfl,fun b u x hb e=>by simp only [Gh.newU];rw [if_neg (by omega)];exact e⟩
theorem Rel.pushU (h:Rel B g s a w) (blk:Blk) {obj:Obj} {w':World} {v:Value} (hw:w'.heap=w.heap.push obj) (hos:w'.os=w.os) (ht:w'.tape=w.tape) (hout:w'.output=w.output)
  (hok:BlkOk (g.newU s.H.blks.length w.heap.size v) (s.H.blks.length+1) w' s.H.blks.length blk) (htop:blk.top<=s.H.blks.length+1):Rel B (g.newU s.H.blks.length w.heap.size v) { s with H:=s.H.push blk } a w':=by
 have hl:(s.H.push blk).blks.length=s.H.blks.length+1:=by simp [Hp.push]
 have hget:∀ b,b<s.H.blks.length->(s.H.push blk).blks[b]?=s.H.blks[b]?:=fun b hb=>by simp only [Hp.push];rw [zAR hb]
 have hlast:(s.H.push blk).blks[s.H.blks.length]?=some blk:=by simp [Hp.push]
 have hv:(g.newU s.H.blks.length w.heap.size v).blk s.H.blks.length=w.heap.size:=by simp [Gh.newU,Gh.var]
 have hsz:w'.heap.size=w.heap.size+1:=by rw [hw];simp
 have hS:Same B.d none none s.H.blks.length g w (g.newU s.H.blks.length w.heap.size v) w' :=
  ⟨g.newU_le _ _ _,fun c hc _ _=>zbi hw hc,fun _ _ _=>rfl,fun _ _ _ _=>rfl,by rw [hw];simp,fun _ _ _=>rfl,fun l hl=>(by cases hl),fun b hb=>(by cases hb),fun b u hb _=>by simp only [Gh.newU];rw [if_neg (by omega)],hos,ht,hout⟩
 refine h.master (s':={ s with H:=s.H.push blk }) hS (by rw [hl];omega) (fun b hb _=>hget b hb) (fun b x hb hx=>?_) (fun b h1 h2=>?_) (fun b b' h1 h2 h3 h4 _=>?_) (fun c o v hv=>?_) (fun c l hc=>?_)
  (fun b j e=>by cases e) rfl rfl (fun t x hx=>⟨x,hx,.inl ⟨rfl,fun e=>by cases e⟩⟩) ?_ (fun b off hlk=>v7 hget (h.lks b off hlk)) h.lkl (fun _ e=>by cases e)
 ·have hb':b=s.H.blks.length:=by
   rcases hb with hb|hb
   ·cases hb
   ·have:=(zAB.1 hx).1;rw [hl] at this;omega
  subst hb';rw [hlast] at hx;cases hx;rw [hl];exact ⟨hok,htop⟩
 ·have:b=s.H.blks.length:=by rw [hl] at h2;omega
  subst this;rw [hv];refine ⟨zAO _,by omega,?_,fun o=>?_⟩
  ·show g.own w.heap.size=none;cases ho:g.own w.heap.size with
   | none=>rfl
   | some l=>have:=h.wok.ownlt _ _ ho;omega
  ·show g.M w.heap.size o=none;cases hm:g.M w.heap.size o with
   | none=>rfl
   | some v=>have:=kx (h.wok.mem _ _ _ hm);omega
 ·rw [hl] at h2 h4;omega
 ·rw [vm (zbi hw (kx (h.wok.mem c o v hv)))];exact h.wok.mem c o v hv
 ·have:=h.wok.ownlt c l hc;omega
 ·intro b x hx;rcases zAZ b s.H.blks.length with h1|h1
  ·rw [show ({ s with H:=s.H.push blk }:St).H.blks[b]?=s.H.blks[b]? from hget b h1] at hx;exact h.edges b x hx
  ·have hb':b=s.H.blks.length:=by
    have:=(zAB.1 hx).1;have hl':({ s with H:=s.H.push blk }:St).H.blks.length=s.H.blks.length+1:=hl;omega
   subst hb';rw [show ({ s with H:=s.H.push blk }:St).H.blks[s.H.blks.length]?=some blk from hlast] at hx;cases hx;exact .inl htop
theorem zp5 (h:Rel B g s a w) {cs:List V} {vs:List Value} {e:TypeId} {sz len cap:Nat} {cur:Array Value} {w':World} (hw:w'.heap=w.heap.push (.cells cur e (0,0))) (hos:w'.os=w.os) (ht:w'.tape=w.tape) (hout:w'.output=w.output)
  (hpos:0<sz) (hrow:w'.ownsRow 0 e sz (.slice (some ⟨w.heap.size,0,none⟩) len cap) len vs) (hcs:RelCs g cs vs) (htop:tops cs<=s.H.blks.length) :
  ∃ g',Rel B g' { s with H:=s.H.push (.ul 0 sz cs e) } a w'/\RelV g' (.ulr s.H.blks.length 0 len) (.slice (some ⟨w.heap.size,0,none⟩) len cap):=by
 have hhdr:(g.newU s.H.blks.length w.heap.size (.slice (some ⟨w.heap.size,0,none⟩) len cap)).hdr s.H.blks.length 0=some (.slice (some ⟨w.heap.size,0,none⟩) len cap):=by simp [Gh.newU]
 refine ⟨_,h.pushU (.ul 0 sz cs e) hw hos ht hout ⟨w.heap.size,len,cap,vs,hhdr,hpos,hrow,.inl (by simp [Gh.newU,Gh.var]),fun o=>?_,fun b' hb' hne e'=>?_,hcs.len,fun j x u hx hv=>⟨hcs.one j x hx,?_⟩,fun u hu=>?_⟩ (zBt htop),.ulr hhdr⟩
 ·show g.M w.heap.size o=none;cases hm:g.M w.heap.size o with
  | none=>rfl
  | some v=>have:=kx (h.wok.mem _ _ _ hm);omega
 ·have h1:b'<s.H.blks.length:=by omega
  have:=h.wok.lt b' h1;simp only [Gh.newU,Gh.var] at e';rw [if_neg hne] at e';omega
 ·exact (hcs.rel j x u hx hv).le (g.newU_le _ _ _) (zAM (zg (zl hx)) htop)
 ·simp only [Gh.newU,if_true];rw [if_neg (by omega)]
theorem zaH {w:World} {e:TypeId} {sz k old:Nat} {z:Value} {vs:List Value} {arr:Array Value} (harr:arr.toList=vs) (hl:vs.length=k * sz) (hz:z.cells.size=sz) (hmax:k<=maxLen) :
  (w.drew.alloc (.cells (arr++Builtin.zeroCells z.cells (grownCap w k old e - k)) e)).ownsRow 0 e sz (.slice (some ⟨w.heap.size,0,none⟩) k (grownCap w k old e)) k vs:=by
 have hge:=grownCap_ge w k old e;have hcm:grownCap w k old e<=maxLen:=grownCap_le_maxLen w k old e hmax;have hasz:arr.size=k * sz:=by rw [<- hl,<- harr];simp
 refine ⟨hl,.inr ⟨w.heap.size,_,_,rfl,zAW _,heap_alloc_new w.drew _,hge,hcm,?_,?_⟩⟩
 ·rw [Array.size_append,hasz,size_zeroCells,hz,<- zBM];congr 1;omega
 ·rw [Array.toList_append,List.take_append_of_le_length (by simp;omega),harr]
  exact zBN (by omega)
end Go.Vm
namespace Go.Vm
open Go
variable {P:Program} {B:Base} {g:Gh} {s:St} {a:Act} {w:World}
theorem zmc (v:V):clr (clr v)=clr v:=by cases v<;>rfl
theorem xz (h:Rel B g s a w) {b off:Nat} {cs L:List V} {tt:TypeId} {arr:Array Value} {news:List Value} (hb:s.H.get b=some (.cells cs tt)) (a1:w.heap[g.blk b]?=some (.cells arr tt (0,0))) (a2:RelCs g cs arr.toList) (a3:tops cs<=s.H.blks.length)
  (a4:∀ (j:Nat) (x:V) (v:Value),cs[j]?=some x->arr[j]?=some v->OwnV g s.H.blks.length w (.cell b j) x v/\zdv g b j x v) (hnew:RelCs g L news) (hcl:∀ q∈L,clr q=q) (hLt:tops L<=s.H.blks.length) (c3:off+L.length<=cs.length) (hmay:kQ s.lk b off L.length (cs.drop off)=true) :
  Rel B g { s with H:=(s.H.set b (.cells (storeCells cs off L) tt)).edge b (.tup L) } a (w.setRow (g.blk b) (storeCells arr.toList off news).toArray):=by
 have hasz:cs.length=arr.size:=by have:=a2.len;simpa using this
 have hbl:b<s.H.blks.length:=by simp only [Hp.get,zd] at hb;exact (zAB.1 hb).1
 have hnl:news.length=L.length:=hnew.len.symm;have hLc:∀ q∈L,(∀ sz xs o,q=.sl sz xs o->o=.no):=fun q hq sz xs o e=>by
  have:=hcl q hq;subst e;simp [clr] at this;exact this.symm
 have hheap':(w.setRow (g.blk b) (storeCells arr.toList off news).toArray).heap[g.blk b]?=some (.cells (storeCells arr.toList off news).toArray tt (0,0)):=setRow_heap w _ _ _ tt _ a1;have hsame:Same B.d (some b) none s.H.blks.length g w g (w.setRow (g.blk b) (storeCells arr.toList off news).toArray) :=
  ⟨.refl _ _,fun c _ hc _=>setRow_other w _ c _ (fun e=>hc b rfl e.symm),fun _ _ _=>rfl,fun _ _ _ _=>rfl,by simp [World.setRow],fun _ _ _=>rfl,fun l hl=>(by cases hl),fun b' hb'=>(by cases hb';exact hbl),fun _ _ _ _=>rfl,rfl,rfl,rfl⟩
 refine Rel.write (l:=s.lk) (v:=.tup L) h (b:=b) (x0:=.cells cs tt) (x:=.cells (storeCells cs off L) tt) (N:=g.blk b) rfl hb (fun c hc=>setRow_other w _ c _ hc) (by simp [World.setRow]) rfl rfl rfl
  ⟨_,hheap',by simp [qI,hasz],fun j y u hy hu=>?_⟩ (kW a3 hLt) (.inr (.inr (.inr (zAM v9 (zBO.2 ⟨zBT _ _,zBm _ _⟩))))) (fun o hlo=>?_) h.lkl
 ·have hst:=a2.store off hnew;have hr:=hst.rel j y u hy (by simpa using hu)
  refine ⟨hst.one j y hy,hr,?_,?_⟩
  ·rw [zC _ _ _ _ (by omega)] at hy
   have hu':(storeCells arr.toList off news)[j]?=some u:=by simpa using hu
   rw [zC _ _ _ _ (by have:arr.toList.length=arr.size:=zAv;omega)] at hu'
   by_cases hj:off<=j/\j<off+L.length
   ·rw [if_pos hj] at hy;have:=hLc y (zl hy);cases y with
    | sl sz xs o=>have e:=this sz xs o rfl;subst e;trivial
    | _=>trivial
   ·rw [if_neg hj] at hy;rw [if_neg (by rw [hnl];exact hj)] at hu'
    exact OwnV.same hsame (fun e=>by cases e) (fun b1 h2 h3=>absurd (show b1<s.H.blks.length from h3) (Nat.not_lt.2 h2)) (a4 j y u hy (by simpa using hu')).1
  ·rw [zC _ _ _ _ (by omega)] at hy
   have hu':(storeCells arr.toList off news)[j]?=some u:=by simpa using hu
   rw [zC _ _ _ _ (by have:arr.toList.length=arr.size:=zAv;omega)] at hu'
   by_cases hj:off<=j/\j<off+L.length
   ·rw [if_pos hj] at hy;have:=hLc y (zl hy);cases y with
    | sl sz xs o=>have e:=this sz xs o rfl;subst e;trivial
    | _=>trivial
   ·rw [if_neg hj] at hy;rw [if_neg (by rw [hnl];exact hj)] at hu'
    exact (a4 j y u hy (by simpa using hu')).2
 ·obtain ⟨cs2,t2',sz,xs,d1,d2⟩:=h.lks b o hlo;have hb2:s.H.blks[b]?=some (.cells cs tt):=by simpa [Hp.get,zd] using hb
  rw [hb2] at d1;cases d1;refine ⟨_,_,sz,xs,rfl,?_⟩;rw [zC _ _ _ _ (by omega)]
  by_cases hj:off<=o/\o<off+L.length
  ·have:=zfX hmay (o - off) (.sl sz xs .lock) (by omega) (by rw [zBQ,show off+(o - off)=o by omega];exact d2) rfl
   rw [show off+(o - off)=o by omega] at this
   exact absurd hlo (h.lkl _ this)
  ·rw [if_neg hj];exact d2
theorem ziS {cx:Cx} (hP:cx.P=P) (h:Rel B g s a w) {t ty:TypeId} {x y:Operand} {r:OR} {s':St} (hop:cx.appendU t x y s.env s.H s.lk s.defers=some (r,s')) :
  ∃ v g' cv w',r=.val v/\(Builtin.append_ #[t,t] ty #[a.eval x,a.eval y]).run P w=.ok cv w'/\Rel B g' s' a w'/\RelV g' v cv/\(∀ n l,OwnV g' n w' l v cv)/\v.top<=s'.H.blks.length:=by
 unfold Cx.appendU at hop;rw [hP] at hop;simp only [Option.bind_eq_bind,zAG] at hop;obtain ⟨td,ht,hop⟩:=hop;split at hop<;>try (cases hop;done)
 rename_i e;simp only [zAG] at hop;obtain ⟨n,hn,i,hi,z,hz,yv,hy,ys,hys,hop⟩:=hop;have hin:=zl7 hn hi;split at hop<;>try (cases hop;done)
 rename_i hcond;simp only [zAe,not_or,Bool.not_eq_true,Bool.not_eq_false'] at hcond;have hzs:z.cells.size=n:=zAJ (by simpa using hcond.1)
 have hn0:0<n:=by
  rcases zBx n with e|e
  ·subst e;simp at hcond
  ·exact e
 simp only [zAG] at hop;obtain ⟨xv,hx,hop⟩:=hop;obtain ⟨y1,y3,_⟩:=zm h hy;obtain ⟨x1,x3,x4⟩:=zm h hx;clear x4;have hsrc:=yo h hn hys y1 y3;have hroomA:∀ m,qG m i.bytes=true->m<=maxLen/\m * i.bytes<=140737488355328:=fun m hm=>by
  simp only [qG,zAC] at hm;exact ⟨by have:=zAf hm.1;simp only [maxLen];omega,zAf hm.2⟩
 split at hop
 ·have hax:=x1.snilForm;split at hop
  ·simp only [zAA,zAD] at hop;obtain ⟨rfl,rfl⟩:=hop;obtain ⟨ad,cap,hcy,_⟩:=hsrc.form;refine ⟨.snil,g,.slice none 0 0,w,rfl,?_,h,.snil,fun _ _=>trivial,zAW _⟩;rw [hax,hcy];exact jT (P:=P) (ty:=ty) ht hn _ none 0 0 rfl (zAO _) ad cap w
  ·rename_i hne;have hne:ys≠[]:=fun e=>hne e;split at hop<;>try (cases hop;done)
   rename_i hro;simp only [fCs_eq,zH,zB,zAA,zAD] at hop;obtain ⟨rfl,rfl⟩:=hop;obtain ⟨ad,cy,hcy,hform⟩:=hsrc.form;obtain ⟨a0,news,rfl,hcs,hcells⟩:=hform hne;obtain ⟨m1,m2⟩:=hroomA _ hro;have hpos:0<ys.length:=zBd.2 hne;have hnl:news.length=ys.length * i.size:=by rw [<- hcs.len,zE hsrc.sized,hin]
   have hrow:=zaH (w:=w) (e:=e) (old:=0) (k:=ys.length) (sz:=n) (z:=z) (arr:=news.toArray) (vs:=news) (by simp) (by rw [hnl,hin]) hzs m1
   have hcs':RelCs g (flatV ys) news:=by rw [flatV_eq];exact hcs
   obtain ⟨g',r1,r2⟩:=zp5 (w':=w.drew.alloc (.cells (news.toArray++Builtin.zeroCells z.cells (grownCap w ys.length 0 e - ys.length)) e)) h rfl rfl rfl rfl hn0 hrow hcs' (by rw [flatV_eq];exact zAM va hsrc.tops)
   refine ⟨_,g',_,_,rfl,?_,r1,r2,fun _ _=>trivial,by simp [V.top,Hp.push]⟩
   rw [hax,hcy];exact run_append_nil (P:=P) w t ty e i z ht hi hz a0 ys.length cy news hnl hcells hpos (by simp only [maxLen] at m1;omega) (by omega)
 ·rename_i b u len;split at hop<;>try (cases hop;done)
  rename_i ver sz cs e' hb;split at hop<;>try (cases hop;done)
  rename_i hc;simp only [fCs_eq,zH,zR,zAA,zAD] at hop;obtain ⟨rfl,rfl⟩:=hop;simp only [zAC] at hc;obtain ⟨⟨⟨c1,c2⟩,c3⟩,hro⟩:=hc;have c1:=zAJ c1;have c2:=zAJ c2;have c3:=zAJ c3;subst c1;subst c2;subst c3;obtain ⟨m1,m2⟩:=hroomA _ hro;obtain ⟨c,l0,cap,vs,hu,h2,h3⟩:=zbg h hb;have htl:tops (cs++flatV ys)<=max (tops cs) (V.tup ys).top:=by
   refine zN fun q hq=>?_;rcases zA3.1 hq with hq|hq
   ·exact zAM (zg hq) (zBT _ _)
   ·rw [flatV_eq] at hq;exact zAM (zdu hq) (zBm _ _)
  have htl':tops (cs++flatV ys)<=s.H.blks.length:=zAM htl (zBO.2 ⟨h3,hsrc.tops⟩);have htop:(V.ulr b (ver+1) (len+ys.length)).top<=((s.H.set b (.ul (ver+1) n (cs++flatV ys) e)).edge b (.tup ys)).blks.length:=by
   rw [zhp];have:=(zf3 h hb).1;simp only [V.top];omega
  generalize hxe:a.eval x=cx' at x1;cases x1 with
  | ulr hh =>
   rw [hu.hdr] at hh;cases hh
   by_cases hne:ys=[]
   ·subst hne;obtain ⟨ad,cap',hcy,_⟩:=hsrc.form;have hlc:len<=cap:=by
     obtain ⟨_,hr|⟨_,_,_,hr,_,_,h5,_⟩⟩:=hu.row
     ·cases hr.1
     ·cases hr;exact h5
    obtain ⟨g',r1,r2⟩:=zf4 (v:=.tup []) h hb hu (fun _ _ _=>rfl) (zAO _) rfl rfl rfl (.inl rfl) hu.row (cs':=cs++flatV []) (by simpa [flatV] using h2) htl' htl
    refine ⟨_,g',_,w,rfl,?_,r1,r2,fun _ _=>trivial,htop⟩;rw [hcy];exact jT (P:=P) (ty:=ty) ht hn _ (some ⟨c,0,none⟩) len cap rfl hlc ad cap' w
   ·obtain ⟨ad,cy,hcy,hform⟩:=hsrc.form;obtain ⟨a0,news,rfl,hcs,hcells⟩:=hform hne;have hpos:0<ys.length:=zBd.2 hne;have hnl:news.length=ys.length * i.size:=by rw [<- hcs.len,zE hsrc.sized,hin]
    have hcs':RelCs g (flatV ys) news:=by rw [flatV_eq];exact hcs
    have hall:RelCs g (cs++flatV ys) (vs++news):=by
     refine ⟨by simp only [zAi,h2.len,hcs'.len],fun j q hq=>?_,fun j q v' hq hv'=>?_⟩
     ·rcases zAZ j cs.length with h4|h4
      ·rw [zAR h4] at hq;exact h2.one j q hq
      ·rw [zAP h4] at hq;exact hcs'.one _ q hq
     ·rcases zAZ j cs.length with h4|h4
      ·rw [zAR h4] at hq;rw [zAR (by rw [<- h2.len];exact h4)] at hv'
       exact h2.rel j q v' hq hv'
      ·rw [zAP h4] at hq;rw [zAP (by rw [<- h2.len];exact h4),<- h2.len] at hv'
       exact hcs'.rel _ q v' hq hv'
    obtain ⟨hvl,hr|⟨c',cap',cur,hr,_,hcur,hlc,hcm,hcsz,htk⟩⟩:=id hu.row
    ·cases hr.1
    cases hr;have hlen:(vs++news).length=(len+ys.length) * n:=by rw [zAi,hvl,hnl,hin,zBM]
    by_cases hrm:len+ys.length<=cap
    ·have hfit:len * i.size+news.length<=cur.size:=by rw [hnl,hin,hcsz,<- zBM];exact zBh _ hrm
     have hrun:=run_append_room (P:=P) w t ty e i ht hi c len cap cur hcur a0 ys.length cy news hnl hcells hcs.oneCells hrm hfit;rw [hin] at hrun hfit;have hrow:(w.setRow c (cur.toList.take (len * n)++news++cur.toList.drop (len * n+news.length)).toArray).ownsRow 0 e n (.slice (some ⟨c,0,none⟩) (len+ys.length) cap) (len+ys.length) (vs++news):=by
      refine ⟨hlen,.inr ⟨c,cap,_,rfl,zAW _,setRow_heap w c cur _ e _ hcur,hrm,hcm,?_,?_⟩⟩
      ·simp only [List.size_toArray,zAi,zBA,List.length_drop,zAv];omega
      ·rw [htk,<- hlen];exact List.take_left
     obtain ⟨g',r1,r2⟩:=zf4 (v:=.tup ys) h hb hu (fun k _ hk=>setRow_other w c k _ hk) (Nat.le_of_eq (setRow_size w c _).symm) rfl rfl rfl (.inl rfl) hrow hall htl' htl;refine ⟨_,g',_,_,rfl,?_,r1,r2,fun _ _=>trivial,htop⟩;rw [hcy];exact hrun
    ·have hrow:=zaH (w:=w) (e:=e) (old:=cap) (k:=len+ys.length) (sz:=n) (z:=z) (arr:=vs.toArray++news.toArray) (vs:=vs++news) (by simp) hlen hzs m1
     obtain ⟨g',r1,r2⟩:=zf4 (v:=.tup ys) h hb hu (fun k hk _=>heap_alloc_old w.drew _ hk) (by simp) rfl rfl rfl (.inr rfl) hrow hall htl' htl
     refine ⟨_,g',_,_,rfl,?_,r1,r2,fun _ _=>trivial,htop⟩;rw [hcy];exact run_append_grow (P:=P) w t ty e i z ht hi hz ⟨c,0,none⟩ len cap vs (by rw [hvl,hin]) (hu.row.cells rfl) a0 ys.length cy news hnl hcells (by omega) (by simp only [maxLen] at m1;omega) (growslice_fits (by omega) m2)
 ·rename_i b off len cap;split at hop<;>try (cases hop;done)
  rename_i cs tt hb;split at hop<;>try (cases hop;done)
  rename_i hc;simp only [fCs_eq,zH,zR,zAA,zAD] at hop;obtain ⟨rfl,rfl⟩:=hop;simp only [zAC] at hc;obtain ⟨⟨⟨⟨⟨⟨c1,c2⟩,c3⟩,c4⟩,c5⟩,c6⟩,hmay⟩:=hc;have c1:=zAJ c1;have c2:=zAJ c2;have c3:=zAJ c3;have c4:=zAJ c4;have c5:=zAf c5;have c6:=zAf c6;subst c1;subst c2;subst c3;rw [flatV_eq] at c4 ⊢;have hbl:b<s.H.blks.length:=by simp only [Hp.get,zd] at hb;exact (zAB.1 hb).1
  have htop:(V.sr b 0 (len+ys.length) cap).top<=((s.H.set b (.cells (storeCells cs len ((zo ys).map clr)) tt)).edge b (.tup ((zo ys).map clr))).blks.length:=by
   rw [zhp];simp only [V.top];omega
  generalize hxe:a.eval x=cx' at x1;cases x1 with
  | sr hlc =>
   obtain ⟨arr,a1,a2,a3,a4⟩:=yn h hb;have hasz:cs.length=arr.size:=by have:=a2.len;simpa using this
   obtain ⟨ad,cy,hcy,hform⟩:=hsrc.form;have hlt:tops ((zo ys).map clr)<=s.H.blks.length:=by
    rw [qo];exact zAM va hsrc.tops
   have hcl:∀ q∈(zo ys).map clr,clr q=q:=fun q hq=>by
    obtain ⟨q',_,rfl⟩:=zAo.1 hq;exact zmc q'
   by_cases hne:ys=[]
   ·subst hne;have:=xz (news:=[]) (off:=len) h hb a1 a2 a3 a4 (L:=[]) ⟨rfl,fun _ _ e=>by simp at e,fun _ _ _ e=>by simp at e⟩ (fun q hq=>by cases hq) (zAW _) (by simp at c6 ⊢;omega) (by simp [kQ])
    have e1:(w.setRow (g.blk b) (storeCells arr.toList len []).toArray)=w:=by
     show w.setRow (g.blk b) arr.toList.toArray=w;rw [Array.toArray_toList];exact setRow_self w _ arr _ _ a1
    rw [e1] at this;refine ⟨_,g,_,w,rfl,?_,by simpa [zo] using this,.sr (by simpa using hlc),fun _ _=>trivial,htop⟩
    rw [hcy];exact jT (P:=P) (ty:=ty) ht hn _ (some ⟨g.blk b,0,none⟩) len cap rfl hlc ad _ w
   ·obtain ⟨a0,news,rfl,hcs,hcells⟩:=hform hne;have hnl:news.length=ys.length:=by rw [<- hcs.len,zE hsrc.sized,zBz]
    have hrun:=run_append_room (P:=P) w t ty tt i ht hi (g.blk b) len cap arr a1 a0 ys.length cy news (by rw [hnl,hin,zBz]) hcells hcs.oneCells c5 (by rw [hnl,hin];omega)
    have hall:=xz (off:=len) h hb a1 a2 a3 a4 (L:=(zo ys).map clr) (news:=news) hcs.map_clr hcl hlt (by rw [c4];exact c6) (by rw [c4];exact hmay)
    have harr:arr.toList.take (len * i.size)++news++arr.toList.drop (len * i.size+news.length)=storeCells arr.toList len news:=by
     rw [hin,zBz];have hsplit:arr.toList=arr.toList.take len++(arr.toList.drop len).take ys.length++arr.toList.drop (len+ys.length):=by
      rw [zAc,<- List.drop_drop,zA8,zA8]
     have hlen:(arr.toList.take len).length=len:=by rw [zBA,zAv];omega
     have:=qX news ((arr.toList.drop len).take ys.length) (arr.toList.take len) (arr.toList.drop (len+ys.length)) (by have hL:arr.toList.length=arr.size:=zAv;simp only [zBA,List.length_drop];omega)
     rw [hlen,<- hsplit] at this;rw [this,hnl]
    rw [harr] at hrun;refine ⟨_,g,_,_,rfl,?_,hall,.sr (by omega),fun _ _=>trivial,htop⟩
    rw [hcy];exact hrun
 ·cases hop
theorem zmd {cx:Cx} (hP:cx.P=P) (h:Rel B g s a w) {t t2 ty:TypeId} {x y:Operand} {r:OR} {s':St} (hop:cx.copyA t x y s.env s.H s.lk s.defers=some (r,s')) :
  ∃ v g' cv w',r=.val v/\(Builtin.copy_ #[t,t2] ty #[a.eval x,a.eval y]).run P w=.ok cv w'/\Rel B g' s' a w'/\RelV g' v cv/\(∀ n l,OwnV g' n w' l v cv)/\v.top<=s'.H.blks.length:=by
 unfold Cx.copyA at hop;rw [hP] at hop;simp only [Option.bind_eq_bind,zAG] at hop;obtain ⟨td,ht,hop⟩:=hop;split at hop<;>try (cases hop;done)
 rename_i e;simp only [zAG] at hop;obtain ⟨n,hn,yv,hy,ys,hys,xv,hx,hop⟩:=hop;obtain ⟨y1,y3,_⟩:=zm h hy;obtain ⟨x1,x3,x4⟩:=zm h hx;clear x4;have hsrc:=yo h hn hys y1 y3;split at hop<;>try (cases hop;done)
 rename_i b off len cap;split at hop<;>try (cases hop;done)
 rename_i cs tt hb;split at hop<;>try (cases hop;done)
 rename_i hc;simp only [fCs_eq,zR,zAA,zAD] at hop;obtain ⟨rfl,rfl⟩:=hop;simp only [zAC] at hc;obtain ⟨⟨⟨c1,c2⟩,c3⟩,hmay⟩:=hc;have c1:=zAJ c1;have c2:=zAJ c2;have c3:=zAf c3;subst c1;rw [flatV_eq] at c2;have hs1:(P.info? e).map (·.size)=some 1:=hn;generalize hm:min len ys.length=m at c2 c3 hmay ⊢;generalize hxe:a.eval x=cx' at x1;cases x1 with
 | sr hlc =>
  obtain ⟨arr,a1,a2,a3,a4⟩:=yn h hb;have hasz:cs.length=arr.size:=by have:=a2.len;simpa using this
  have hbl:b<s.H.blks.length:=by simp only [Hp.get,zd] at hb;exact (zAB.1 hb).1
  obtain ⟨ad,cy,hcy,hform⟩:=hsrc.form;obtain ⟨news,hnew,hrun⟩:∃ news,RelCs g ((zo (ys.take m)).map clr) news/\(Builtin.copy_ #[t,t2] ty #[.slice (some ⟨g.blk b,off,none⟩) len cap,a.eval y]).run P w=.ok (goInt m) (w.setRow (g.blk b) (storeCells arr.toList off news).toArray):=by
   by_cases hne:ys=[]
   ·subst hne;have hm0:m=0:=by rw [<- hm];simp
    subst hm0;refine ⟨[],⟨by simp [zo],fun _ _ e=>by simp [zo] at e,fun _ _ _ e=>by simp [zo] at e⟩,?_⟩
    rw [hcy];have e1:(w.setRow (g.blk b) (storeCells arr.toList off []).toArray)=w:=by
     show w.setRow (g.blk b) arr.toList.toArray=w;rw [Array.toArray_toList];exact setRow_self w _ arr _ _ a1
    rw [e1];simp only [zy,zAV] at hn;obtain ⟨i,hi,hi1⟩:=hn;cases ad<;>simp [Builtin.copy_,run_underlying ht,Builtin.lenOf,Builtin.firstCells,sizeOf,typeInfo,hi,Go.storeCells,loadCells,loadCellsFrom]
   ·obtain ⟨a0,news,rfl,hcs,hcells⟩:=hform hne;have hnl:news.length=ys.length:=by rw [<- hcs.len,zE hsrc.sized];simp
    have hml:m<=ys.length:=by omega
    have hft:zo (ys.take m)=(zo ys).take m:=by
     have h1:zo ys=zo (ys.take m)++zo (ys.drop m):=by rw [<- xw,zA8]
     have h2:(zo (ys.take m)).length=m:=by rw [zE (sz:=1) fun y hy=>hsrc.sized y (zAw hy)];simp;omega
     rw [h1,List.take_append_of_le_length (by omega)];exact (zBN (by omega)).symm
    refine ⟨news.take m,by rw [hft];exact (hcs.take m).map_clr,?_⟩
    have hcr:=run_copy_row P w t t2 ty e (g.blk b) off len cap a0 ys.length cy arr tt (news.take m) ht hs1 a1 (by rw [zBA,hnl,<- hm];show min (min len ys.length) ys.length=min ys.length len;omega) (fun j v hv=>hcells j v (by
     rw [zA4] at hv;split at hv
     ·exact hv
     ·cases hv)) (by rw [zBA,hnl];omega) (hcs.take m).oneCells
    rw [hcy,hcr];have e1:(news.take m).length=m:=by rw [zBA,hnl];omega
    have harr:arr.toList.take off++news.take m++arr.toList.drop (off+(news.take m).length)=storeCells arr.toList off (news.take m):=by
     have hsplit:arr.toList=arr.toList.take off++(arr.toList.drop off).take m++arr.toList.drop (off+m):=by
      rw [zAc,<- List.drop_drop,zA8,zA8]
     have hlen:(arr.toList.take off).length=off:=by rw [zBA,zAv];omega
     have:=qX (news.take m) ((arr.toList.drop off).take m) (arr.toList.take off) (arr.toList.drop (off+m)) (by rw [zBA,List.length_drop,zAv];omega)
     rw [hlen,<- hsplit] at this;rw [this,e1]
    rw [harr,e1]
  have hnl:news.length=m:=hnew.len.symm.trans c2;simp only [flatV_eq];generalize hL:(zo (ys.take m)).map clr=L at *;have hLt:tops L<=s.H.blks.length:=by
   rw [<- hL,qo];exact zAM va (zAM (tops_take _ _) hsrc.tops)
  refine ⟨_,g,_,_,rfl,hrun,xz h hb a1 a2 a3 a4 hnew (fun q hq=>?_) hLt (by omega) (by rw [c2];exact hmay),.int _ _,fun _ _=>trivial,zAW _⟩
  rw [<- hL] at hq;obtain ⟨q',_,rfl⟩:=zAo.1 hq;exact zmc q'
end Go.Vm
namespace Go.Vm
open Go
variable {P:Program} {B:Base} {g:Gh} {s:St} {a:Act} {w:World}
structure CxOk (P:Program) (cx:Cx) (B:Base):Prop where
 prog:cx.P=P
 num:vM P
 prim:kz P
 gl:GlOk P cx.gl B.g
 calls:∃ d,d<B.d/\yJ P cx.gl cx.call d
theorem ValOk.ends {s':St} {o:Oper} {v:V} (hv:ValOk P B s' a w o v) {r:OR} (hr:r=.val v) {K:Act->World->Prop} {Q:Exit->Act->World->Prop} (hE:Ends P B o r s' K Q):o.wp P a w K Q :=
 zp3 hv fun g' cv w' hk=>hE.val v hr g' cv a w' hk
theorem SkipOk.ends {s':St} {o:Oper} (hv:SkipOk P B s' a w o) {r:OR} (hr:r=.skip) {K:Act->World->Prop} {Q:Exit->Act->World->Prop} (hE:Ends P B o r s' K Q):o.wp P a w K Q :=
 wp_skip hv fun g' w' hk=>hE.skip hr g' a w' hk
theorem zb8 (h:Rel B g s a w) {xs:Array Operand} {vs:List V} (hp:peeks s.env xs.toList=some vs):vs.length=(xs.map a.eval).size/\(∀ (j:Nat) (x:V) (v:Value),vs[j]?=some x->(xs.map a.eval)[j]?=some v->RelV g x v)/\tops vs<=s.H.blks.length:=by
 obtain ⟨h1,h2,h3,_⟩:=zbh h hp;refine ⟨by simp [h1],fun j x v hx hv=>h2 j x v hx ?_,h3⟩
 rw [<- zBC] at hv;simpa using hv
theorem zbk {cx:Cx} (hcx:CxOk P cx B) (h:Rel B g s a w) {takes:List Tmp} {o:Oper} {r:OR} {s':St} (hop:cx.op takes o s.env s.H s.lk s.defers=some (r,s')) {K:Act->World->Prop} {Q:Exit->Act->World->Prop} (hE:Ends P B o r s' K Q):o.wp P a w K Q:=by
 obtain ⟨hP,hnum,hprim,hgl,d,hd,hcall⟩:=hcx;subst hP;have hgl':GlOk cx.P cx.gl g:=hgl.le h.fr.le;have read:∀ v,zD cx.P cx.gl o s.env s.H=some v->r=.val v->s'=s->o.wp cx.P a w K Q:=by
  intro v hv hr hs;subst hs;exact ValOk.ends (zfV h hgl' hv) hr hE
 have read':(match zD cx.P cx.gl o s.env s.H with|none=>none|some v=>some (OR.val v,(⟨s.env,s.H,s.lk,s.defers⟩:St)))=some (r,s')->o.wp cx.P a w K Q:=by
  intro hh;split at hh<;>simp only [zAA,reduceCtorEq,zAD] at hh;rename_i v hv;exact read v hv hh.1.symm hh.2.symm
 unfold Cx.op at hop;simp only at hop;split at hop
 ·rename_i x ho;split at hop
  ·split at hop<;>simp only [zAA,reduceCtorEq,zAD] at hop;rename_i v env' ht;obtain ⟨rfl,rfl⟩:=hop;exact (zhj h ht (.inl ho)).ends rfl hE
  ·exact read' hop
 ·rename_i x ho;split at hop<;>simp only [zAA,reduceCtorEq,zAD] at hop;rename_i v env' ht;obtain ⟨rfl,rfl⟩:=hop;exact (zhj h ht (.inr ho)).ends rfl hE
 ·rename_i t p ho;split at hop
  ·exact read' hop
  ·split at hop<;>try (cases hop;done)
   rename_i b off hag hp;split at hop<;>try (cases hop;done)
   rename_i cs ty hb;split at hop<;>try (cases hop;done)
   ·rename_i sz xs e hc;simp only [fSet_eq,zR,zAA,zAD] at hop;obtain ⟨rfl,rfl⟩:=hop;rw [zd] at hc;have:=zol h hag hp hb hc ho;refine ValOk.ends (v:=.sl sz xs (.yes e)) ?_ rfl hE;simpa [Hp.edge,V.top] using this
   ·rename_i hc;simp only [zAA,zAD] at hop;obtain ⟨rfl,rfl⟩:=hop;rw [zd] at hc;have hl:zn cx.P s.H cx.gl t (.ptr b off)=some .snil:=by
     simp [zn,hb,qq,hag,zd,hc]
    have hrd:zD cx.P cx.gl o s.env s.H=some .snil:=by
     obtain ⟨dst,op,type,pos,after,guard⟩:=o;simp only at ho;subst ho;simp [zD,hp,hl,clr]
    exact ValOk.ends (zfV h hgl' hrd) rfl hE
   ·rename_i c9 u9 n9 hc;simp only [zAA,zAD] at hop;obtain ⟨rfl,rfl⟩:=hop;rw [zd] at hc;have hl:zn cx.P s.H cx.gl t (.ptr b off)=some (.ulr c9 u9 n9):=by
     simp [zn,hb,qq,hag,zd,hc]
    have hrd:zD cx.P cx.gl o s.env s.H=some (.ulr c9 u9 n9):=by
     obtain ⟨dst,op,type,pos,after,guard⟩:=o;simp only at ho;subst ho;simp [zD,hp,hl,clr]
    exact ValOk.ends (zfV h hgl' hrd) rfl hE
 ·rename_i t ho;split at hop<;>try (cases hop;done)
  rename_i z hz;split at hop<;>try (cases hop;done)
  rename_i hok;simp only [zI,zB,zAA,zAD] at hop;obtain ⟨rfl,rfl⟩:=hop;exact (alloc_ok h hz (by simpa using hok) ho).ends rfl hE
 ·rename_i t x ho;split at hop<;>try (cases hop;done)
  rename_i v env' ht;split at hop<;>try (cases hop;done)
  rename_i hok;simp only [zI,fCs_eq,zB,zAA,zAD] at hop;obtain ⟨rfl,rfl⟩:=hop;exact (box_ok h ht (by simpa using hok) ho).ends rfl hE
 ·rename_i t p x ho;split at hop<;>try (cases hop;done)
  ·rename_i b off hp;split at hop<;>try (cases hop;done)
   rename_i v env' n cs ty ht hn hb;simp only [zI,fCs_eq,fL_eq,zR] at hop;split at hop<;>simp only [zAA,reduceCtorEq,zAD] at hop;rename_i hc;obtain ⟨rfl,rfl⟩:=hop;simp only [zAC] at hc;obtain ⟨g',w',h1,h2⟩:=store_ok h hp ht hn hb hc.1.1.1 (zAJ hc.1.1.2) (zAf hc.1.2) hc.2;exact SkipOk.ends ⟨g',w',by simp [execOp,ho,h1],h2⟩ rfl hE
  ·rename_i b u k hp;split at hop<;>try (cases hop;done)
   rename_i xv env' n ver sz cs e hx hn hb;simp only [zI,fL_eq,zR] at hop;split at hop<;>simp only [zAA,reduceCtorEq,zAD] at hop;rename_i hc;obtain ⟨rfl,rfl⟩:=hop;simp only [zAC] at hc;have hv:=zAJ hc.1.1.1;subst hv;obtain ⟨g',w',h1,h2⟩:=zk2 h hp hx rfl hn hb hc.1.1.2 (zAJ hc.1.2) (zAf hc.2);exact SkipOk.ends ⟨g',w',by simp [execOp,ho,h1],h2⟩ rfl hE
 ·rename_i t rr ho;split at hop<;>try (cases hop;done)
  simp only [zB,zAA,zAD] at hop;obtain ⟨rfl,rfl⟩:=hop;exact (ziP h ho).ends rfl hE
 ·rename_i t l c ho;split at hop<;>try (cases hop;done)
  rename_i e k lv k' cv ht hl hc;split at hop<;>try (cases hop;done)
  rename_i n i z hn hi hz;split at hop<;>try (cases hop;done)
  rename_i hcond;have hm:=zfZ h ht hl hc hn hi hz (Bool.eq_false_iff.2 hcond) ho;split at hop
  ·simp only [fCs_eq,zH,zB,zAA,zAD] at hop;obtain ⟨rfl,rfl⟩:=hop;exact hm.2.ends rfl hE
  split at hop
  ·rename_i h0;simp only [zAA,zAD] at hop;obtain ⟨rfl,rfl⟩:=hop;exact (hm.1 h0).ends rfl hE
  ·split at hop<;>try (cases hop;done)
   simp only [fCs_eq,zB,zAA,zAD] at hop;obtain ⟨rfl,rfl⟩:=hop;exact hm.2.ends rfl hE
 ·rename_i t m k x ho;split at hop<;>try (cases hop;done)
  rename_i b kv v hm hk hx;split at hop<;>try (cases hop;done)
  rename_i hkt;simp only [zI,fL_eq,zR] at hop;split at hop<;>try (cases hop;done)
  rename_i es hb;split at hop<;>simp only [zAA,reduceCtorEq,zAD] at hop;rename_i es' hs;obtain ⟨rfl,rfl⟩:=hop;obtain ⟨w',h1,h2⟩:=zbj h hm hk hx (by simpa using hkt) hb hs
  exact SkipOk.ends ⟨g,w',by simp [execOp,ho,h1],h2⟩ rfl hE
 ·rename_i t m k x ho;split at hop<;>try (cases hop;done)
  rename_i b kv v hm hk hx;split at hop<;>try (cases hop;done)
  rename_i hkt;simp only [zI,fL_eq,zR] at hop;split at hop<;>try (cases hop;done)
  rename_i es hb;split at hop<;>simp only [zAA,reduceCtorEq,zAD] at hop;rename_i es' hs;obtain ⟨rfl,rfl⟩:=hop;obtain ⟨w',h1,h2⟩:=zbj h hm hk hx (by simpa using hkt) hb hs
  exact SkipOk.ends ⟨g,w',by simp [execOp,ho,h1],h2⟩ rfl hE
 ·rename_i t x ho;split at hop<;>try (cases hop;done)
  rename_i l ht hx;simp only [zB,zAA,zAD] at hop;obtain ⟨rfl,rfl⟩:=hop;exact (zl8 h ht hx ho).ends rfl hE
 ·rename_i it ho;split at hop<;>try (cases hop;done)
  rename_i b hi;split at hop<;>try (cases hop;done)
  rename_i l pos hb;have hn:=zoj (P:=cx.P) h hi hb o.type;split at hop
  ·rename_i hlt;rw [if_pos hlt] at hn;obtain ⟨cv,w',h1,h2,h3⟩:=hn;simp only [zH,zR,zAA,zAD] at hop;obtain ⟨rfl,rfl⟩:=hop;exact ValOk.ends ⟨g,cv,w',by simp [execOp,ho,h1],h3,h2,fun _ _=>trivial,by simp [V.top,tops]⟩ rfl hE
  ·rename_i hlt;rw [if_neg hlt] at hn;obtain ⟨cv,h1,h2⟩:=hn;simp only [zAA,zAD] at hop;obtain ⟨rfl,rfl⟩:=hop;exact ValOk.ends ⟨g,cv,w,by simp [execOp,ho,h1],h,h2,fun _ _=>trivial,by simp [V.top,tops]⟩ rfl hE
 ·rename_i src dst x ho;split at hop
  ·rename_i v env' hv;simp only [zAA,zAD] at hop;obtain ⟨rfl,rfl⟩:=hop;exact (zok (P:=cx.P) h hv ho).ends rfl hE
  ·split at hop
   ·split at hop<;>simp only [zAA,reduceCtorEq,zAD] at hop;rename_i v hv;obtain ⟨rfl,rfl⟩:=hop;cases hx:peek s.env x with
    | none=>rw [hx] at hv;cases hv
    | some u =>
     rw [hx] at hv;obtain ⟨u1,u2,_⟩:=zm h hx;simp only [xr] at hv;split at hv<;>try (cases hv;done)
     rename_i u' hu'
     by_cases hsr:∃ b o l c,u=.sr b o l c
     ·obtain ⟨b,off,len,cap,rfl⟩:=hsr;exact ValOk.ends (zl6 (P:=cx.P) h hu' hv u1 u2 ho) rfl hE
     ·obtain rfl:u=u':=by
       have:=zfO (P:=cx.P) (H:=s.H) (a:=src) (v:=u) fun b o l c e=>hsr ⟨b,o,l,c,e⟩;rw [this] at hu';exact zAr hu'
      refine read' ?_;rw [show zD cx.P cx.gl o s.env s.H=some v by simp [zD,ho,hx,hv]]
   ·exact read' hop
 ·rename_i t x lo hi ho;split at hop
  ·rename_i hf;split at hop<;>simp only [zAA,reduceCtorEq,zAD] at hop;rename_i v env' hv;obtain ⟨rfl,rfl⟩:=hop;obtain rfl:hi=none:=by unfold yI at hf;split at hf<;>first|rfl|cases hf
   exact (zma (P:=cx.P) h hv ho).ends rfl hE
  ·split at hop
   ·obtain ⟨v,e1,e2⟩:=zk0 rfl h hop ho;exact e2.ends e1 hE
   ·exact read' hop
 ·rename_i c ho;split at hop
  ·rename_i b hcal;have plain:(match cx.builtin b c.argTypes c.args s.env s.H with|none=>none|some (r,env)=>some (r,(⟨env,s.H,s.lk,s.defers⟩:St)))=some (r,s')->o.wp cx.P a w K Q:=by
    intro hop;split at hop<;>simp only [zAA,reduceCtorEq,zAD] at hop;rename_i r' env' hb;obtain ⟨rfl,rfl⟩:=hop;obtain ⟨v,hv,hok⟩:=ziR rfl h hb ho hcal rfl rfl;exact hok.ends hv hE
   split at hop
   ·rename_i x y t ts hargs htys;obtain ⟨v,g',cv,w',e1,e2,e3,e4,e5,e6⟩:=zmd (t2:=ts.headD 0) (ty:=o.type) rfl h hop;have ea:=args2 hargs;have hrun:(execOp a.eval o).run cx.P w=.ok (.value cv) w':=by
     have:(Builtin.copy_ c.argTypes o.type #[a.eval x,a.eval y]).run cx.P w=.ok cv w':=by
      rw [<- e2];have:c.argTypes[0]?=some t:=by rw [<- zBC,htys];rfl
      simp [Builtin.copy_,this]
     simp [execOp,ho,resolve,hcal,ea,invoke,builtin,this]
    exact ValOk.ends ⟨g',cv,w',hrun,e3,e4,fun _ _=>e5 _ _,e6⟩ e1 hE
   ·rename_i x y t u hargs htys;split at hop
    ·split at hop<;>try (cases hop;done)
     rename_i htu;have htu:=zAJ htu;subst htu;obtain ⟨v,g',cv,w',e1,e2,e3,e4,e5,e6⟩:=ziS (ty:=o.type) rfl h hop;have ea:=args2 hargs;have et:=zmb htys;have hrun:(execOp a.eval o).run cx.P w=.ok (.value cv) w':=by
      simp [execOp,ho,resolve,hcal,ea,et,invoke,builtin,e2]
     exact ValOk.ends ⟨g',cv,w',hrun,e3,e4,fun _ _=>e5 _ _,e6⟩ e1 hE
    ·exact plain hop
   ·exact plain hop
  ·rename_i f hcal;split at hop<;>try (cases hop;done)
   rename_i fv args hf ha;split at hop<;>simp only [zAA,reduceCtorEq,zAD] at hop;rename_i r' H' hc;obtain ⟨rfl,rfl⟩:=hop;obtain ⟨f1,f2,_⟩:=zm h hf;obtain ⟨a1,a2,a3⟩:=zb8 h ha;have hform:∃ fn fa fc,a.eval f=.func fn fa fc:=by
    unfold Cx.callV at hc;split at hc
    ·generalize a.eval f=c at f1;cases f1;exact ⟨_,_,_,rfl⟩
    ·generalize a.eval f=c at f1;cases f1;exact ⟨_,_,_,rfl⟩
    ·cases hc
   obtain ⟨fn,fa,fc,hfe⟩:=hform;rw [hfe] at f1;refine zhm rfl hnum hprim hd hgl hcall h hc f1 f2 a1 a2 a3 ?_ hE;simp [execOp,ho,resolve,hcal,hfe,Deferred.ofValue]
  ·rename_i rcv m hcal;split at hop<;>try (cases hop;done)
   rename_i rv args hf ha;split at hop<;>simp only [zAA,reduceCtorEq,zAD] at hop;rename_i r' H' hc;obtain ⟨rfl,rfl⟩:=hop;obtain ⟨f1,f2,_⟩:=zm h hf;obtain ⟨a1,a2,a3⟩:=zb8 h ha
   refine zhm (fn:=.method m) (fa:=#[]) (fc:=#[]) (cargs:=#[a.eval rcv]++c.args.map a.eval) rfl hnum hprim hd hgl hcall h hc (.fn rfl rfl (fun _ _ _ e=>by simp at e) (fun _ _ _ e=>by simp at e)) (by simp [V.top,tops]) (by simp at a1 ⊢;omega) ?_ (zBO.2 ⟨f2,a3⟩) ?_ hE
   ·exact kX (l:=[rv]) (x:=#[a.eval rcv]) rfl (fun j z v hz hv=>by
     cases j with
     | zero=>simp at hz hv;subst hz;subst hv;exact f1
     | succ j=>simp at hz) a2
   ·simp [execOp,ho,resolve,hcal]
 ·rename_i c ho;split at hop<;>try (cases hop;done)
  rename_i f hcal;split at hop<;>simp only [zAA,reduceCtorEq,zAD] at hop;rename_i f' first cap args hf ha
  obtain ⟨rfl,rfl⟩:=hop;obtain ⟨f1,f2,_⟩:=zm h hf;obtain ⟨a1,a2,a3⟩:=zb8 h ha;generalize hfe:a.eval f=cf at f1;cases f1 with
  | fn e1 e2 e3 e4 =>
   rename_i fa fc;have ht:=zBO.1 (show max (tops first) (tops cap)<=s.H.blks.length from f2)
   have hrun:(execOp a.eval o).run cx.P w=.ok (.defer { target:=.fn (.func f') fc,args:=fa++c.args.map a.eval }) w:=by
    simp [execOp,ho,resolve,hcal,hfe,Deferred.ofValue]
   unfold Oper.wp;rw [hrun,Oper.upon_defer];refine hE.skip rfl g { a with defers:={ target:=.fn (.func f') fc,args:=fa++c.args.map a.eval }::a.defers } w ?_
   refine { wok:=h.wok,len:=h.len,env:=h.env,envTop:=h.envTop,n0:=h.n0,edges:=h.edges,newer:=h.newer,fr:=h.fr,lks:=h.lks,lkl:=h.lkl,pend:=h.pend,deflen:=by simp [h.deflen],defers:=fun j x q hx hq=>?_,marks:=fun d hd D hD=>(by rcases zAK.1 hd with e|hd2;{ subst e;cases hD };{ exact h.marks d hd2 D hD }),mdis:=.cons (fun _ _ D hD=>nomatch hD) h.mdis }
   cases j with
   | zero =>
    simp only [zAt,zAA] at hx hq;subst hx;subst hq;exact .inl ⟨f',first,cap,fc,rfl,rfl,by rw [zAi,e1,Array.size_append,a1],e2,kX e1 e3 a2,e4,kf ht.1 a3,ht.2⟩
   | succ j=>exact h.defers j x q (by simpa using hx) (by simpa using hq)
 ·rename_i x ho;split at hop<;>simp only [zAA,reduceCtorEq,zAD] at hop;rename_i t v hx;obtain ⟨rfl,rfl⟩:=hop;obtain ⟨x1,x2,_⟩:=zm h hx;generalize hxe:a.eval x=cx' at x1;cases x1 with
  | ifc hv =>
   rename_i cv;unfold Oper.wp;have:(execOp a.eval o).run cx.P w=.halt (.panic (.iface t cv)) w:=by
    simp [execOp,ho,hxe,Instr.panic,goPanic]
   rw [this,Oper.upon_panic];exact hE.pan _ rfl g (.iface t cv) a w h (.ifc hv) x2
 ·exact read' hop
end Go.Vm
namespace Go.Vm
open Go
variable {P:Program} {B:Base} {g:Gh} {s:St} {a:Act} {w:World}
def zme (g:Gh) (n:Nat):Ex->Exit->Prop
 | .normal,.normal=>True
 | .exit i,.exit j=>i=j
 | .goto i,.goto j=>i=j
 | .ret,.ret=>True
 | .pan v,.panic chain=>∃ cv,chain=[{ v:=cv,recovered:=false }]/\RelV g v cv/\v.top<=n
 | _,_=>False
def jJ (B:Base) (ex:Ex) (s':St):Exit->Act->World->Prop:=fun e a w=>∃ g,Rel B g s' a w/\zme g s'.H.blks.length ex e
theorem vb (h:Rel B g s a w) {ops:Array Oper} {o:Oper} {b:Bool} (hw:zq ops o s.env=some b):Region.wanted o (yielded ops a.tmps)=b:=by
 unfold zq at hw;unfold Region.wanted;split at hw
 ·rename_i hg;simp only [zAA] at hw;rw [hg,<- hw]
 ·rename_i j want hg;rw [hg];simp only;split at hw<;>try (cases hw;done)
  rename_i d hd;rw [zd] at hw;unfold yielded;rw [hd];simp only [zAT];split at hw<;>simp only [zAA,reduceCtorEq] at hw
  ·rename_i c hc;obtain ⟨cv,hcv,_⟩:=h.slot hc;have hr:=(h.env d _ cv hc hcv).1;cases hr;rw [hcv];simp only [<- hw];cases c<;>cases want<;>rfl
  ·rename_i c hc;obtain ⟨cv,hcv,_⟩:=h.slot hc;have hr:=(h.env d _ cv hc hcv).1;cases hr;rw [hcv,<- hw];rfl
theorem vo (h:Rel B g s a w) (o:Oper):OpOk B g s a w o.dst (.tup []) undef :=
 ⟨h,.tup rfl (fun _ _ _ e=>by simp at e),fun _ _=>trivial,zAW _⟩
theorem ziT {cx:Cx} (hcx:CxOk P cx B) {all:Array Oper} {takes:List Tmp} {ex:Ex} {s':St} {Q:Exit->Act->World->Prop} (hQ:∀ e a w,jJ B ex s' e a w->Q e a w):∀ (l:List Oper) (s:St) (g:Gh) (a:Act) (w:World),Rel B g s a w->cx.ops all takes l s=some (ex,s')->wpList P all Q l a w
 | [],s,g,a,w,h,hc=>by
  simp only [Cx.ops,zAA,zAD] at hc;obtain ⟨rfl,rfl⟩:=hc;exact hQ _ _ _ ⟨g,h,trivial⟩
 | o::os,⟨env,H,lk,df⟩,g,a,w,h,hc=>by
  have ih:=ziT hcx (all:=all) (takes:=takes) hQ os;simp only [Cx.ops] at hc;unfold wpList;split at hc<;>try (cases hc;done)
  ·rename_i hw;rw [if_neg (by rw [vb h hw];simp)]
   rw [zS] at hc;exact ih _ g _ w (jN (vo h o)) hc
  ·rename_i hw;rw [if_pos (vb h hw)]
   left
   split at hc<;>try (cases hc;done)
   ·rename_i v env' H' lk' df' hop;rw [zS] at hc;refine zbk hcx h hop ⟨fun v' hv g' cv a' w' hk=>?_,(fun hv=>nomatch hv),(fun v' hv=>nomatch hv)⟩;cases hv;exact ih _ g' _ w' (jN hk) hc
   ·rename_i env' H' lk' df' hop;rw [zS] at hc;refine zbk hcx h hop ⟨(fun v' hv=>nomatch hv),fun _ g' a' w' hk=>?_,(fun v' hv=>nomatch hv)⟩;exact ih _ g' _ w' (jN (vo hk o)) hc
   ·rename_i v s1 hop;simp only [zAA,zAD] at hc;obtain ⟨rfl,rfl⟩:=hc;refine zbk hcx h hop ⟨(fun v' hv=>nomatch hv),(fun hv=>nomatch hv),fun v' hv g' cv a' w' hk h1 h2=>?_⟩;cases hv;exact hQ _ _ _ ⟨g',hk,cv,rfl,h1,h2⟩
theorem Rel.lent (h:Rel B g s a w):Rel B g { s with lk:=[] } a w :=
 {wok:=h.wok,len:=h.len,env:=h.env,envTop:=h.envTop,n0:=h.n0,edges:=h.edges,newer:=h.newer,fr:=h.fr,lks:=h.lks,lkl:=fun _ hp=>by simp at hp,pend:=h.pend,deflen:=h.deflen,defers:=h.defers,marks:=h.marks,mdis:=h.mdis }
def zb9 (P:Program) (cx:Cx) (B:Base):Prop:=CxOk P cx B->∀ (id:Nat) (ops:Array Oper) (s s':St) (ex:Ex) (g:Gh) (a:Act) (w:World),cx.draw ops s=some (ex,s')->Rel B g s a w->(Code.region id ops true).wp P (jJ B ex s') a w
def zaj (P:Program) (cx:Cx) (B:Base):Prop:=CxOk P cx B->∀ (n:Nat) (f:Operand) (ps:Array Tmp) (as bd:Code) (s s':St) (ex:Ex) (g:Gh) (a:Act) (w:World),cx.code n (.rangeFunc f ps as bd) s=some (ex,s')->Rel B g s a w->(Code.rangeFunc f ps as bd).wp P (jJ B ex s') a w
theorem kg {B:Base} {ex:Ex} {s':St} {K:Act->World->Prop} {Q:Exit->Act->World->Prop} (hn:ex=.normal->∀ g a w,Rel B g s' a w->K a w) (ho:ex≠.normal->∀ e a w,jJ B ex s' e a w->Q e a w):∀ e a w,jJ B ex s' e a w->Exit.then K Q e a w:=by
 rintro e a w ⟨g,h1,h2⟩;cases ex<;>cases e<;>first
  |(exact h2.elim)
  |(exact hn rfl g a w h1)
  | (exact ho (fun e=>by cases e) _ _ _ ⟨g,h1,h2⟩)
theorem zjS {cx:Cx} (hcx:CxOk P cx B) (hdr:zb9 P cx B) (hrg:zaj P cx B) (n:Nat):∀ (c:Code) (s s':St) (ex:Ex) (g:Gh) (a:Act) (w:World),cx.code n c s=some (ex,s')->Rel B g s a w->c.wp P (jJ B ex s') a w:=by
 intro c
 induction c with
 | skip =>
  intro s s' ex g a w hc h;simp only [Cx.code,zAA,zAD] at hc;obtain ⟨rfl,rfl⟩:=hc;exact Go.wp_skip ⟨g,h,trivial⟩
 | label l =>
  intro s s' ex g a w hc h;simp only [Cx.code,zAA,zAD] at hc;obtain ⟨rfl,rfl⟩:=hc;exact wp_label ⟨g,h,trivial⟩
 | region id ops draw =>
  intro s s' ex g a w hc h;cases draw with
  | false =>
   obtain ⟨env,H,lk,df⟩:=s;simp only [Cx.code] at hc;exact wp_region_list (ziT hcx (fun _ _ _ q=>q) _ _ g a w h.lent hc)
  | true =>
   simp only [Cx.code] at hc;exact hdr hcx id ops s s' ex g a w hc h
 | seq x y ihx ihy =>
  intro s s' ex g a w hc h;simp only [Cx.code] at hc;split at hc<;>try (cases hc;done)
  ·rename_i s1 hx;refine wp_seq (Code.wp_mono (kg (fun _ g' a' w' h'=>ihy s1 s' ex g' a' w' hc h') (fun e=>absurd rfl e)) (ihx s s1 .normal g a w hx h))
  ·rename_i e1 s1 hne hx;simp only [zAA,zAD] at hc;obtain ⟨rfl,rfl⟩:=hc;refine wp_seq (Code.wp_mono (kg (fun e=>absurd e ?_) (fun _ _ _ _ q=>q)) (ihx s _ _ g a w hx h));exact fun e=>by simp_all
 | cond c x y ihx ihy =>
  intro s s' ex g a w hc h;simp only [Cx.code] at hc;split at hc<;>try (cases hc;done)
  ·rename_i hp;have c1:=(zm h hp).1;generalize hce:a.eval c=cc at c1;cases c1;exact wp_cond_true hce (ihx s s' ex g a w hc h)
  ·rename_i hp;have c1:=(zm h hp).1;generalize hce:a.eval c=cc at c1;cases c1;exact wp_cond_false hce (ihy s s' ex g a w hc h)
 | block id c ih =>
  intro s s' ex g a w hc h;simp only [Cx.code] at hc;split at hc<;>try (cases hc;done)
  ·rename_i i s1 hx;simp only [zAA,zAD] at hc;obtain ⟨rfl,rfl⟩:=hc;refine wp_block (Code.wp_mono ?_ (ih s s1 (.exit i) g a w hx h));rintro e a' w' ⟨g',h1,h2⟩;cases e<;>first|(exact h2.elim)|skip
   rename_i j;have:i=j:=h2;subst this;simp only [Exit.inBlock];split
   ·rename_i e;subst e;exact ⟨g',h1,by simp [zme]⟩
   ·rename_i e;refine ⟨g',h1,?_⟩;have:Nat.beq i id=false:=by
     cases hb:Nat.beq i id with
     | false=>rfl
     | true=>exact absurd (zAJ hb) e
    simp [this,zme]
  ·rename_i e1 s1 hne hx;simp only [zAA,zAD] at hc;obtain ⟨rfl,rfl⟩:=hc;refine wp_block (Code.wp_mono ?_ (ih s _ _ g a w hx h));rintro e a' w' ⟨g',h1,h2⟩;cases e with
   | exit j=>cases e1<;>first|(exact h2.elim)|(exact (hne _ rfl).elim)
   | _=>exact ⟨g',h1,h2⟩
 | loop c ih =>
  intro s s' ex g a w hc h;simp only [Cx.code] at hc;refine wp_loop_rounds n ?_;have key:∀ (m:Nat) (s:St) (g:Gh) (a:Act) (w:World),vK (cx.code n c) m s=some (ex,s')->Rel B g s a w->Code.rounds P c (jJ B ex s') m a w:=by
   intro m
   induction m with
   | zero=>intro s g a w hi;simp [vK] at hi
   | succ m ihm =>
    intro s g a w hi h;simp only [vK] at hi;rw [rounds_succ];split at hi<;>try (cases hi;done)
    ·rename_i s1 hx;exact Code.wp_mono (kg (fun _ g' a' w' h'=>ihm s1 g' a' w' hi h') (fun e=>absurd rfl e)) (ih s s1 .normal g a w hx h)
    ·rename_i e1 s1 hne hx;simp only [zAA,zAD] at hi;obtain ⟨rfl,rfl⟩:=hi;exact Code.wp_mono (kg (fun e=>absurd e (fun e=>by simp_all)) (fun _ _ _ _ q=>q)) (ih s _ _ g a w hx h)
  exact key n s g a w hc h
 | exit id =>
  intro s s' ex g a w hc h;simp only [Cx.code,zAA,zAD] at hc;obtain ⟨rfl,rfl⟩:=hc;exact wp_exit ⟨g,h,rfl⟩
 | ret =>
  intro s s' ex g a w hc h;simp only [Cx.code,zAA,zAD] at hc;obtain ⟨rfl,rfl⟩:=hc;exact wp_ret ⟨g,h,trivial⟩
 | scope c ih =>
  intro s s' ex g a w hc h;simp only [Cx.code] at hc;split at hc<;>try (cases hc;done)
  rename_i e1 s1 hng hx;simp only [zAA,zAD] at hc;obtain ⟨rfl,rfl⟩:=hc;refine wp_scope_straight (Code.wp_mono ?_ (ih s _ _ g a w hx h));rintro e a' w' ⟨g',h1,h2⟩;cases e with
  | goto l=>cases e1<;>first|(exact h2.elim)|(exact (hng _ rfl).elim)|(exact (hng _ _ rfl).elim)|(simp_all;done)
  | _=>exact ⟨g',h1,h2⟩
 | rangeFunc f ps as bd=>intro s s' ex g a w hc h;exact hrg hcx n f ps as bd s s' ex g a w hc h
 | _=>intro s s' ex g a w hc;simp [Cx.code] at hc
end Go.Vm
namespace Go.Vm
open Go
variable {P:Program} {B:Base} {g:Gh} {s:St} {a:Act} {w:World}
theorem zeQ (n:Nat):tops (List.replicate n (V.tup []))=0:=by
 induction n with
 | zero=>rfl
 | succ n ih=>simp [zBe,tops,V.top,ih]
theorem zhq {H:Hp} {args:List V} {cargs:Array Value} (hw:Wok g H.blks w) (ha:ArgsOk g H.blks.length args cargs) (d n:Nat) :
  Rel ⟨d,H.blks,g,w,[]⟩ g ⟨args++List.replicate (n - args.length) (.tup []),⟨H.blks,[]⟩,[],[]⟩ { tmps:=cargs++Array.replicate (n - cargs.size) undef,defers:=[] } w:=by
 have hund:RelV g (.tup []) undef:=.tup rfl (fun _ _ _ e=>by simp at e)
 refine { wok:=hw,len:=by simp [ha.len],env:=fun t x v hx hv=>?_,envTop:=fun t x hx=>?_,n0:=zAO _,edges:=fun b x hx=>.inr (.inr ⟨x,hx,zAO _⟩),newer:=fun b h1 h2=>absurd h1 (Nat.not_le.2 h2),fr:=.refl _ _ _ _,lks:=fun b off hl=>?_,lkl:=fun _ hp=>by simp at hp,pend:=fun _ hp=>by simp at hp,deflen:=rfl,defers:=(fun _ _ _ hx=>by simp at hx),marks:=(fun _ hd=>by simp at hd),mdis:=.nil }
 ·rcases zAZ t args.length with h|h
  ·have hv':cargs[t]?=some v:=by rw [Array.getElem?_append_left (by rw [<- ha.len];exact h)] at hv;exact hv
   have hx':args[t]?=some x:=by
    have:(args++List.replicate (n - args.length) (V.tup []))[t]?=some x:=hx
    rwa [zAR h] at this
   refine ⟨ha.rel t x v hx' hv',?_⟩;have:=ha.no x (zl hx');unfold OwnV;split
   ·exact absurd rfl (this _ _ _)
   ·trivial
  ·have hx':(List.replicate (n - args.length) (V.tup []))[t - args.length]?=some x:=by
    have:(args++List.replicate (n - args.length) (V.tup []))[t]?=some x:=hx
    rwa [zAP h] at this
   have hv':(Array.replicate (n - cargs.size) undef)[t - cargs.size]?=some v:=by rw [Array.getElem?_append_right (by rw [<- ha.len];exact h)] at hv;exact hv
   rw [List.getElem?_replicate] at hx';rw [Array.getElem?_replicate] at hv';split at hx'<;>simp only [zAA,reduceCtorEq] at hx';split at hv'<;>simp only [zAA,reduceCtorEq] at hv';subst hx';subst hv';exact ⟨hund,trivial⟩
 ·have hx':(args++List.replicate (n - args.length) (V.tup []))[t]?=some x:=hx;refine zAM (zg (zl hx')) (kf ha.top ?_);rw [zeQ];exact zAW _
 ·rcases hl with hl|⟨q,hq,_⟩
  ·exact hl
  ·simp at hq
def zL (n0:Nat) (es:List (Nat×Nat)) (top:Nat) (H:Hp):Hp :=
 if Nat.ble top n0 && H.edges.all (fun e=>Nat.ble n0 e.1 || Nat.ble e.2 n0) then ⟨H.blks.take n0,H.edges.filter (fun e=>Nat.blt e.1 n0)++es⟩ else ⟨H.blks,H.edges++es⟩
theorem jW {β:Type} (n0:Nat) (es:List (Nat×Nat)) (top:Nat) (H:Hp) (k:Hp->β):zbc n0 es top H k=k (zL n0 es top H):=by
 cases H;simp only [zbc,zL,fL_eq];split<;>rfl
theorem OwnV.less {n n':Nat} (hn:n'<=n) {l:Loc} {x:V} {cv:Value} (h:OwnV g n w l x cv):OwnV g n' w l x cv:=by
 unfold OwnV at *;split
 ·obtain ⟨vs,h1,h2⟩:=h;exact ⟨vs,h1,fun c hc=>⟨(h2 c hc).1,(h2 c hc).2.1,fun b hb=>(h2 c hc).2.2 b (zAh hb hn)⟩⟩
 ·trivial
theorem BlkOk.less {n n' b:Nat} (hn:n'<=n) {x:Blk} (h:BlkOk g n w b x):BlkOk g n' w b x:=by
 cases x with
 | cells cs t =>
  obtain ⟨arr,h1,h2,h3⟩:=h;exact ⟨arr,h1,h2,fun j x v hx hv=>⟨(h3 j x v hx hv).1,(h3 j x v hx hv).2.1,(h3 j x v hx hv).2.2.1.less hn,(h3 j x v hx hv).2.2.2⟩⟩
 | map es=>exact h
 | iter l p=>exact h
 | ul ver sz cs e =>
  obtain ⟨c,len,cap,vs,hu⟩:=h;exact ⟨c,len,cap,vs,{ hu with others:=fun b' hb'=>hu.others b' (zAh hb' hn) }⟩
theorem zca {d:Nat} {H0:Hp} {g0:Gh} {w0:World} (hw0:Wok g0 H0.blks w0) (h:Rel ⟨d,H0.blks,g0,w0,[]⟩ g s a w) {top:Nat} (ht:top<=s.H.blks.length) :
  After d H0 g0 w0 (zL H0.blks.length H0.edges top s.H) g w/\top<=(zL H0.blks.length H0.edges top s.H).blks.length/\(zL H0.blks.length H0.edges top s.H).blks.length<=s.H.blks.length:=by
 have hn0:H0.blks.length<=s.H.blks.length:=h.n0;have hlks:∀ b off,zP H0.blks b off->zP s.H.blks b off:=fun b off hl=>h.lks b off (.inl hl);unfold zL;split
 ·rename_i hc;simp only [zAC,zBH,zAe] at hc;obtain ⟨hc1,hc2⟩:=hc;have hlen:(s.H.blks.take H0.blks.length).length=H0.blks.length:=by simp [hn0]
  have hget:∀ b,b<H0.blks.length->(s.H.blks.take H0.blks.length)[b]?=s.H.blks[b]?:=fun b hb=>by rw [zA4,if_pos hb]
  have hsome:∀ (b:Nat) (x:Blk),(s.H.blks.take H0.blks.length)[b]?=some x->b<H0.blks.length/\s.H.blks[b]?=some x:=fun b x hx=>by
   have hb:=(zAB.1 hx).1;rw [hlen] at hb;exact ⟨hb,(hget b hb) ▸ hx⟩
  have hedge:∀ (b:Nat) (x:Blk),b<H0.blks.length->s.H.blks[b]?=some x->x.top<=b+1\/(∃ m,(b,m)∈s.H.edges/\m<=H0.blks.length/\x.top<=m)\/∃ y:Blk,H0.blks[b]?=some y/\x.top<=y.top:=fun b x hb hx=>by
   rcases h.edges b x hx with h1|⟨m,h1,h2⟩|h1
   ·exact .inl h1
   ·refine .inr (.inl ⟨m,h1,?_,h2⟩);rcases hc2 _ h1 with h3|h3
    ·have:=zAf h3;simp only at this;omega
    ·exact zAf h3
   ·exact .inr (.inr h1)
  refine ⟨{ wok:={ mem:=h.wok.mem,lt:=fun b hb=>h.wok.lt b (by simp only at hb;omega),inj:=fun b b' hb hb' e=>h.wok.inj b b' (by simp only at hb;omega) (by simp only at hb';omega) e,apart:=fun b hb=>h.wok.apart b (by simp only at hb;omega),ownlt:=h.wok.ownlt,unowned:=fun b hb=>h.wok.unowned b (by simp only at hb;omega),ok:=fun b x hx=>?_,tops:=fun b x hx=>?_,laid:=fun c hc=>⟨(h.wok.laid c hc).1,(h.wok.laid c hc).2.1,fun b hb=>(h.wok.laid c hc).2.2 b (by simp only at hb;omega)⟩ },fr:=h.fr,len:=by simp only;omega,newer:=fun b h1 h2=>by simp only at h2;omega,edges:=fun b x hx=>?_,keep:=fun p hp=>zA9 _ hp,lks:=fun b off hl=>?_ },by simp only;rw [hlen];exact zAf hc1,by simp only;omega⟩
  ·obtain ⟨_,hx'⟩:=hsome b x hx;simp only;exact (h.wok.ok b x hx').less (by omega)
  ·obtain ⟨hb,hx'⟩:=hsome b x hx;simp only;rw [hlen];rcases hedge b x hb hx' with h1|⟨m,_,h1,h2⟩|⟨y,h1,h2⟩
   ·omega
   ·omega
   ·exact zAM h2 (hw0.tops b y h1)
  ·obtain ⟨hb,hx'⟩:=hsome b x hx;rcases hedge b x hb hx' with h1|⟨m,h0,h1,h2⟩|h1
   ·exact .inl h1
   ·refine .inr (.inl ⟨m,zAx _ (List.mem_filter.2 ⟨h0,?_⟩),h2⟩);simpa [zBq] using hb
   ·exact .inr (.inr h1)
  ·obtain ⟨cs,t,sz,xs,h1,h2⟩:=hlks b off hl;obtain ⟨_,_,_,_,k1,_⟩:=hl;exact ⟨cs,t,sz,xs,by simp only;rw [hget b (zAB.1 k1).1];exact h1,h2⟩
 ·refine ⟨{ wok:=h.wok,fr:=h.fr,len:=hn0,newer:=h.newer,edges:=fun b x hx=>?_,keep:=fun p hp=>zA9 _ hp,lks:=hlks },ht,zAO _⟩;rcases h.edges b x hx with h1|⟨m,h1,h2⟩|h1
  ·exact .inl h1
  ·exact .inr (.inl ⟨m,zAx _ h1,h2⟩)
  ·exact .inr (.inr h1)
end Go.Vm
namespace Go.Vm
open Go
variable {P:Program} {B:Base} {g:Gh} {s:St} {a:Act} {w:World}
theorem zf5 {tmps:Array Value} {t:Nat} {cv:Value} (h:tmps[t]?=some cv):tmps.getD t undef=cv:=by
 obtain ⟨h1,h2⟩:=zAX.1 h;simp [Array.getD,h1,h2]
theorem zhr {p:V} {cp:Value} (hr:RelV g p cp) {t:TypeId} {v:V} {H:Hp} (hl:zn P H (fun _ _=>none) t p=some v):(do loadVar t (<- asAddr cp):Sem Value).run P w=(Instr.loadAt t cp).run P w:=by
 unfold zn at hl;split at hl
 ·cases hr;simp [Instr.loadAt,Instr.sureAddr,asAddr]
 ·cases hr;simp [Instr.loadAt,Instr.sureAddr,asAddr]
 ·cases hr;simp [Instr.loadAt,Instr.sureAddr,asAddr]
 ·cases hr;simp [Instr.loadAt,Instr.sureAddr,asAddr]
 ·cases hl
def zf6 (tmps:Array Value):ResultVar->Sem Value
 | .tmp t=>pure (tmps.getD t undef)
 | .cell x t=>do loadVar t (<- asAddr (tmps.getD x undef))
def tupC:List Value->Value
 | [v]=>v
 | vs=>.tuple vs.toArray
theorem ziU (fn:Func) (tmps:Array Value):results fn tmps=(do let vs <- fn.results.toList.mapM (zf6 tmps);pure (tupC vs)):=by
 have h1:results fn tmps=(do let vs <- fn.results.mapM (zf6 tmps);pure (if h:vs.size=1 then vs[0] else .tuple vs)):=by
  unfold results
  congr 1
  try (congr 1;try (funext x;cases x<;>rfl))
 rw [h1,Array.mapM_eq_mapM_toList];simp only [bind_map_left]
 congr 1
 funext vs
 match vs with
 | []=>rfl
 | [v]=>rfl
 | v::u::r=>simp [tupC]
theorem zf7 {H:Hp} {env:List V}:∀ {rs:List ResultVar},zt P H env rs=some []->rs=[]
 | [],_=>rfl
 | .tmp t::rs,h=>by
  simp only [zt] at h;split at h<;>simp at h
 | .cell c t::rs,h=>by
  simp only [zt] at h;split at h<;>try (cases h;done)
  split at h<;>simp at h
theorem xA (h:Rel B g s a w):∀ {rs:List ResultVar} {vs:List V},zt P s.H s.env rs=some vs ->
  ∃ cvs:List Value,(rs.mapM (zf6 a.tmps)).run P w=.ok cvs w/\vs.length=cvs.length /\
   (∀ (j:Nat) (x:V) (v:Value),vs[j]?=some x->cvs[j]?=some v->RelV g x v)/\tops vs<=s.H.blks.length
 | [],vs,hr=>by
  simp only [zt,zAA] at hr;subst hr;exact ⟨[],by simp,rfl,fun _ _ _ hx=>by simp at hx,zAW _⟩
 | .tmp t::rs,vs,hr=>by
  simp only [zt] at hr;split at hr<;>simp only [zAA,reduceCtorEq] at hr;rename_i v us hv hus;subst hr;rw [zd] at hv;obtain ⟨cvs,h1,h2,h3,h4⟩:=xA h hus;obtain ⟨cv,hcv,_⟩:=h.slot hv;refine ⟨cv::cvs,?_,by simp [h2],fun j x u hx hu=>?_,zBO.2 ⟨h.envTop t v hv,h4⟩⟩
  ·have hF:zf6 a.tmps (.tmp t)=pure cv:=by simp only [zf6];rw [zf5 hcv]
   simp [List.mapM_cons,hF,h1]
  ·cases j with
   | zero=>simp at hx hu;subst hx;subst hu;exact (h.env t _ _ hv hcv).1
   | succ j=>exact h3 j x u (by simpa using hx) (by simpa using hu)
 | .cell c t::rs,vs,hr=>by
  simp only [zt] at hr;split at hr<;>try (cases hr;done)
  rename_i p hp;split at hr<;>simp only [zAA,reduceCtorEq] at hr;rename_i v us hl hus;subst hr;rw [zd] at hp;obtain ⟨cvs,h1,h2,h3,h4⟩:=xA h hus;obtain ⟨cp,hcp,_⟩:=h.slot hp;have hrp:=(h.env c _ _ hp hcp).1;obtain ⟨cv,l1,l2,l3⟩:=zhb h (gl:=fun _ _=>none) ⟨fun _ _ _ e=>(nomatch e),fun _ _ _ e=>(nomatch e)⟩ hrp (h.envTop c p hp) hl
  refine ⟨cv::cvs,?_,by simp [h2],fun j x u hx hu=>?_,zBO.2 ⟨by rw [top_clr];exact l3,h4⟩⟩
  ·have hF:(zf6 a.tmps (.cell c t)).run P w=.ok cv w:=by
    simp only [zf6];rw [zf5 hcp];exact (zhr (P:=P) (w:=w) hrp hl).trans l1
   simp [List.mapM_cons,hF,h1]
  ·cases j with
   | zero=>simp at hx hu;subst hx;subst hu;exact l2.clr
   | succ j=>exact h3 j x u (by simpa using hx) (by simpa using hu)
theorem zdB (h:Rel B g s a w) {fn:Func} {vs:List V} (hr:zt P s.H s.env fn.results.toList=some vs) (l:Loc) :
  ∃ g' s' cv,(results fn a.tmps).run P w=.ok cv w/\s'.H=s.H/\Rel B g' s' a w/\RelV g' (tupOf vs) cv/\OwnV g' s.H.blks.length w l (tupOf vs) cv/\(tupOf vs).top<=s.H.blks.length:=by
 obtain ⟨cvs,h1,h2,h3,h4⟩:=xA h hr;have hrun:(results fn a.tmps).run P w=.ok (tupC cvs) w:=by
  rw [ziU];simp [h1]
 match vs,h2,h3,h4,hr with
 | [v],h2,h3,h4,hr =>
  obtain ⟨cv,rfl⟩:∃ cv,cvs=[cv]:=by
   match cvs,h2 with
   | [cv],_=>exact ⟨cv,rfl⟩
  have hv:RelV g v cv:=h3 0 v cv rfl rfl;have ht:v.top<=s.H.blks.length:=zAM (zBT _ _) h4;have plain:(∀ k,OwnV g k w l v cv)->∃ g' s' cv,(results fn a.tmps).run P w=.ok cv w/\s'.H=s.H/\Rel B g' s' a w/\RelV g' (tupOf [v]) cv/\OwnV g' s.H.blks.length w l (tupOf [v]) cv/\(tupOf [v]).top<=s.H.blks.length :=
   fun ho=>⟨g,s,cv,hrun,rfl,h,hv,ho _,ht⟩
  by_cases hown:∃ sz xs e,v=.sl sz xs (.yes e)
  ·obtain ⟨sz,xs,e,rfl⟩:=hown;cases hrs:fn.results.toList with
   | nil=>rw [hrs] at hr;simp [zt] at hr
   | cons r rs =>
    rw [hrs] at hr;cases r with
    | tmp t =>
     simp only [zt] at hr;split at hr<;>simp only [zAA,reduceCtorEq,List.cons.injEq] at hr;rename_i y us hy hus;obtain ⟨rfl,rfl⟩:=hr;rw [zd] at hy;have htk:take s.env (.tmp t)=some (.sl sz xs (.yes e),s.env.set t (.sl sz xs .no)):=by
      simp [take,zd,hy,fSet_eq]
     obtain ⟨g',k1,k2,k3,k4,_⟩:=take_ok h htk l;obtain ⟨cv',hcv',he⟩:=h.slot hy;have hcc:a.eval (.tmp t)=cv:=by
      rw [he];have hus':=zf7 hus;have hF:zf6 a.tmps (.tmp t)=pure cv':=by simp only [zf6];rw [zf5 hcv']
      rw [hrs,hus'] at h1;simp [List.mapM_cons,hF] at h1;exact h1
     rw [hcc] at k2 k3;exact ⟨g',{ s with env:=s.env.set t (.sl sz xs .no) },cv,hrun,rfl,k1,k2,k3,ht⟩
    | cell c t =>
     exfalso;simp only [zt] at hr;split at hr<;>try (cases hr;done)
     split at hr<;>simp only [zAA,reduceCtorEq,List.cons.injEq] at hr;exact wu _ _ _ _ hr.1
  ·refine plain fun k=>?_;unfold OwnV;split
   ·rename_i sz xs e;exact absurd ⟨sz,xs,e,rfl⟩ hown
   ·trivial
 | [],h2,h3,h4,hr =>
  have:cvs=[]:=zBS.1 h2.symm;subst this;exact ⟨g,s,_,hrun,rfl,h,.tup rfl (fun _ _ _ e=>by simp at e),trivial,zAW _⟩
 | v::u::r,h2,h3,h4,hr =>
  match cvs,h2 with
  | cv::cu::cr,h2 =>
   refine ⟨g,s,_,hrun,rfl,h,?_,trivial,?_⟩
   ·refine .tup (by simpa using h2) fun j x y hx hy=>?_
    simp only [zAY,zAV] at hx;obtain ⟨z,hz,rfl⟩:=hx;exact (h3 j z y hz (by simpa using hy)).clr
   ·show tops ((v::u::r).map clr)<=_;rw [qo];exact h4
end Go.Vm
namespace Go.Vm
open Go
variable {P:Program} {B:Base} {g:Gh} {s:St} {a:Act} {w:World}
def modeOf:Option Value->Bool->FrameMode
 | none,_=>.returning
 | some cv,r=>.panicking [{ v:=cv,recovered:=r }]
def PncOk (g:Gh) (n:Nat):Option V->Option Value->Prop
 | none,none=>True
 | some v,some cv=>RelV g v cv/\v.top<=n
 | _,_=>False
theorem PncOk.le {n n':Nat} {g g':Gh} (hg:Gh.Le n g g') (hn:n<=n') {p:Option V} {pc:Option Value} (h:PncOk g n p pc):PncOk g' n' p pc:=by
 cases p<;>cases pc<;>first|exact h|exact ⟨h.1.le hg h.2,zAM h.2 hn⟩
def ziV (B:Base) (ex:Ex) (s':St) (pc:Option Value) (r:Bool) (c0:Frame) (cs0:List Frame):Exit->Act->List Frame->World->Prop :=
 fun e a cs w=>jJ B ex s' e a w/\cs={ c0 with mode:=modeOf pc r }::cs0
theorem zjT {cx:Cx} (hcx:CxOk P cx B) {all:Array Oper} {takes:List Tmp} {ex:Ex} {r':Bool} {s':St} {pnc:Option V} {pc:Option Value} (hp:PncOk B.g B.bs.length pnc pc) (c0:Frame) (cs0:List Frame) {Q:Exit->Act->List Frame->World->Prop} (hQ:∀ e a cs w,ziV B ex s' pc r' c0 cs0 e a cs w->Q e a cs w) :
  ∀ (l:List Oper) (k:Nat) (s:St) (r:Bool) (g:Gh) (a:Act) (w:World),(∀ j:Nat,l[j]?=all[k+j]?)->Rel B g s a w->cx.opsS pnc all takes l r s=some (ex,r',s')->wpOpsS P all Q (List.range' k l.length) a ({ c0 with mode:=modeOf pc r }::cs0) w
 | [],k,s,r,g,a,w,hl,h,hc=>by
  simp only [Cx.opsS,zAA,zAD] at hc;obtain ⟨rfl,rfl,rfl⟩:=hc;exact hQ _ _ _ _ ⟨⟨g,h,trivial⟩,rfl⟩
 | o::os,k,⟨env,H,lk,df⟩,r,g,a,w,hl,h,hc=>by
  have ih:=zjT hcx (all:=all) (takes:=takes) hp c0 cs0 hQ os (k+1);have hl':∀ j:Nat,os[j]?=all[k+1+j]?:=fun j=>by have:=hl (j+1);simpa [zBJ,Nat.add_comm 1 j] using this
  have h0:all[k]?=some o:=by simpa using (hl 0).symm
  simp only [Cx.opsS] at hc;simp only [zAj,List.range'_succ,wpOpsS,h0];split at hc<;>try (cases hc;done)
  ·rename_i hw;rw [if_neg (by rw [vb h hw];simp)]
   rw [zS] at hc;exact ih _ r g _ w hl' (jN (vo h o)) hc
  ·rename_i hw;rw [if_pos (vb h hw)];split at hc
   ·rename_i hrec;have hrun:(execOp a.eval o).run P w=.ok .recover w:=by
     unfold zpL at hrec;split at hrec<;>try (cases hrec;done)
     rename_i c ho;split at hrec<;>try (cases hrec;done)
     rename_i hcal;simp [execOp,ho,resolve,hcal,invoke,builtin]
    rw [hrun];simp only;have nil:∀ r1,cx.opsS pnc all takes os r1 ⟨putA env o.dst .nili,H,lk,df⟩=some (ex,r',s')->wpOpsS P all Q (List.range' (k+1) os.length) (a.put o.dst .nilIface) ({ c0 with mode:=modeOf pc r1 }::cs0) w:=fun r1 hc1 =>
     ih _ r1 g _ w hl' (jN (s:=⟨env,H,lk,df⟩) (v:=.nili) (cv:=.nilIface) ⟨h,.nili,fun _ _=>trivial,zAW _⟩) hc1
    split at hc
    ·rename_i v;rw [zS] at hc;cases pc with
     | none=>exact hp.elim
     | some cv =>
      have hv:RelV g v cv:=hp.1.le h.fr.le hp.2;have ht:v.top<=H.blks.length:=zAM hp.2 h.n0;exact ih _ true g _ w hl' (jN (s:=⟨env,H,lk,df⟩) (v:=clr v) (cv:=cv) ⟨h,hv.clr,fun _ _=>jf _ _ _ _ _ _,by rw [top_clr];exact ht⟩) hc
    ·rename_i hno;rw [zS] at hc;have hnone:recoverD ({ c0 with mode:=modeOf pc r }::cs0)=none:=by
      cases pc with
      | none=>rfl
      | some cv =>
       cases pnc with
       | none=>exact hp.elim
       | some v =>
        cases r with
        | false=>exact (hno v rfl rfl).elim
        | true=>rfl
     rw [hnone];exact nil r hc
   ·have hne:∀ {K:Act->World->Prop} {Q':Exit->Act->World->Prop},o.wp P a w K Q'->(match (execOp a.eval o).run P w with
      | .ok .recover w'=>False
      | rr=>o.upon P a K Q' rr):=by
     intro K Q' hwp;unfold Oper.wp at hwp;generalize (execOp a.eval o).run P w=rr at hwp;split
     ·exact hwp
     ·exact hwp
    have fin:o.wp P a w (fun a' w'=>wpOpsS P all Q (List.range' (k+1) os.length) a' ({ c0 with mode:=modeOf pc r }::cs0) w') (fun e a' w'=>Q e a' ({ c0 with mode:=modeOf pc r }::cs0) w'):=by
     split at hc<;>try (cases hc;done)
     ·rename_i v env' H' lk' df' hop;rw [zS] at hc;refine zbk hcx h hop ⟨fun v' hv g' cv a' w' hk=>?_,(fun hv=>nomatch hv),(fun v' hv=>nomatch hv)⟩;cases hv;exact ih _ r g' _ w' hl' (jN hk) hc
     ·rename_i env' H' lk' df' hop;rw [zS] at hc;refine zbk hcx h hop ⟨(fun v' hv=>nomatch hv),fun _ g' a' w' hk=>?_,(fun v' hv=>nomatch hv)⟩;exact ih _ r g' _ w' hl' (jN (vo hk o)) hc
     ·rename_i v s1 hop;simp only [zAA,zAD] at hc;obtain ⟨rfl,rfl,rfl⟩:=hc;refine zbk hcx h hop ⟨(fun v' hv=>nomatch hv),(fun hv=>nomatch hv),fun v' hv g' cv a' w' hk h1 h2=>?_⟩;cases hv;exact hQ _ _ _ _ ⟨⟨g',hk,cv,rfl,h1,h2⟩,rfl⟩
    have:=hne fin;split
    ·rename_i w1 hrr;rw [hrr] at this;exact this.elim
    ·rename_i rr hnr;unfold Oper.wp at fin;exact fin
theorem zdC {c:Code} {Q Q':Exit->Act->List Frame->World->Prop} {cs:List Frame} (h:c.wpS P Q a cs w) (hq:∀ e a cs w,Q e a cs w->Q' e a cs w):c.wpS P Q' a cs w :=
 fun b k hb hr=>let ⟨e,a',cs',w',q,r⟩:=h b k hb hr;⟨e,a',cs',w',hq _ _ _ _ q,r⟩
theorem zmf {cx:Cx} (hcx:CxOk P cx B) (hdr:zb9 P cx B/\zaj P cx B) (n:Nat) {pnc:Option V} {pc:Option Value} (hp:PncOk B.g B.bs.length pnc pc) (c0:Frame) (cs0:List Frame):∀ (c:Code) (s s':St) (ex:Ex) (r r':Bool) (g:Gh) (a:Act) (w:World),
  cx.codeS n pnc c r s=some (ex,r',s')->Rel B g s a w->c.wpS P (ziV B ex s' pc r' c0 cs0) a ({ c0 with mode:=modeOf pc r }::cs0) w:=by
 have plain:∀ (c:Code) (s s':St) (ex:Ex) (r:Bool) (g:Gh) (a:Act) (w:World),cx.code n c s=some (ex,s')->Rel B g s a w->c.wpS P (ziV B ex s' pc r c0 cs0) a ({ c0 with mode:=modeOf pc r }::cs0) w :=
  fun c s s' ex r g a w hx h=>wpS_of_wp (Code.wp_mono (fun _ _ _ q=>⟨q,rfl⟩) (zjS hcx hdr.1 hdr.2 n c s s' ex g a w hx h))
 intro c
 induction c with
 | seq x y ihx ihy =>
  intro s s' ex r r' g a w hc h;simp only [Cx.codeS] at hc;split at hc<;>try (cases hc;done)
  ·rename_i r1 s1 hx;refine wpS_seq (zdC (ihx s s1 .normal r r1 g a w hx h) ?_);rintro e a' cs' w' ⟨⟨g',h1,h2⟩,rfl⟩;cases e<;>first
    |(exact h2.elim)
    |(exact ihy s1 s' ex r1 r' g' a' w' hc h1)
  ·rename_i x1 hne hx;simp only [zAA] at hc;subst hc;refine wpS_seq (zdC (ihx s _ _ r _ g a w hx h) ?_);rintro e a' cs' w' ⟨⟨g',h1,h2⟩,rfl⟩;cases ex<;>cases e<;>first
    |(exact h2.elim)
    |(exact (hne _ _ rfl).elim)
    |(exact ⟨⟨g',h1,h2⟩,rfl⟩)
 | cond c x y ihx ihy =>
  intro s s' ex r r' g a w hc h;simp only [Cx.codeS] at hc;split at hc<;>try (cases hc;done)
  ·rename_i hpk;have c1:=(zm h hpk).1;generalize hce:a.eval c=cc at c1;cases c1;exact wpS_cond hce (by simpa using ihx s s' ex r r' g a w hc h)
  ·rename_i hpk;have c1:=(zm h hpk).1;generalize hce:a.eval c=cc at c1;cases c1;exact wpS_cond hce (by simpa using ihy s s' ex r r' g a w hc h)
 | region id ops draw =>
  intro s s' ex r r' g a w hc h;cases draw with
  | false =>
   obtain ⟨env,H,lk,df⟩:=s;simp only [Cx.codeS] at hc;refine wpS_region ?_;have:=zjT hcx hp c0 cs0 (fun _ _ _ _ q=>q) ops.toList 0 _ r g a w (by simp) h.lent hc
   rw [List.range_eq_range',<- zAv];exact this
  | true =>
   simp only [Cx.codeS] at hc;split at hc<;>simp only [zAA,reduceCtorEq,zAD] at hc;rename_i e1 s1 hx;obtain ⟨rfl,rfl,rfl⟩:=hc;exact plain _ s s1 e1 r g a w hx h
 | _ =>
   intro s s' ex r r' g a w hc h;simp only [Cx.codeS] at hc;split at hc<;>simp only [zAA,reduceCtorEq,zAD] at hc;rename_i e1 s1 hx;obtain ⟨rfl,rfl,rfl⟩:=hc;exact plain _ s s1 e1 r g a w hx h
end Go.Vm
namespace Go.Vm
open Go
variable {P:Program} {B:Base} {g:Gh} {s:St} {a:Act} {w:World}
theorem zmg {gl:Nat->Nat->Option V} {uq:TypeId->Bool} {call:FuncId->List V->Hp->Option (Out×Hp)} {d n:Nat} (hnum:vM P) (hprim:kz P) (hcall:yJ P gl call d) (hdr:∀ B,zb9 P { P,gl,call,uq } B/\zaj P { P,gl,call,uq } B) {pnc:Option V} {pc:Option Value} {f:FuncId} {args:List V} {H H':Hp} {r:Bool} {cargs:Array Value}
  (hc:zdt P gl uq call n pnc f args H=some (r,H')) (hgl:GlOk P gl g) (hw:Wok g H.blks w) (ha:ArgsOk g H.blks.length args cargs) (hp:PncOk g H.blks.length pnc pc) :
  CallsD P f cargs (modeOf pc false) w fun e u' w'=>∃ cv g',e=.returned cv/\u'=modeOf pc r/\After (d+1) H g w H' g' w':=by
 obtain ⟨bs,es⟩:=H;simp only [zdt] at hc;split at hc<;>try (cases hc;done)
 rename_i fn hf;split at hc<;>try (cases hc;done)
 rename_i body hb;simp only [zH,fL_eq] at hc;have hcx:CxOk P { P,gl,call,uq } ⟨d+1,bs,g,w,[]⟩:=⟨rfl,hnum,hprim,hgl,d,zBu d,hcall⟩;have h0:=zhq (H:=⟨bs,es⟩) hw ha (d+1) fn.ntmps
 have fin:∀ (ex:Ex) (env:List V) (H1:Hp) (lk:List (Nat×Nat)),(ex=.normal\/ex=.ret)->Cx.codeS { P,gl,call,uq } n pnc body false ⟨args++List.replicate (fn.ntmps - args.length) (.tup []),⟨bs,[]⟩,[],[]⟩=some (ex,r,⟨env,H1,lk,[]⟩) ->
   ∀ us,zt P H1 env fn.results.toList=some us->H'=zL bs.length es 0 H1 ->
   CallsD P f cargs (modeOf pc false) w fun e u' w'=>∃ cv g',e=.returned cv/\u'=modeOf pc r/\After (d+1) ⟨bs,es⟩ g w H' g' w':=by
  intro ex env H1 lk hex hx us hus hH;refine callsD_of_wpS hf hb fun c0 cs hm=>?_;have key:=zmf hcx (hdr _) n (pnc:=pnc) (pc:=pc) hp c0 cs body _ _ ex false r g _ w hx h0;have hc0:({ c0 with mode:=modeOf pc false }:Frame)=c0:=by rw [<- hm]
  rw [hc0] at key;refine zdC key ?_;rintro e a' cs' w' ⟨⟨g',h1,h2⟩,rfl⟩;have hdef:a'.defers=[]:=zBS.1 (by rw [<- h1.deflen];rfl)
  obtain ⟨g2,s2,cv,r1,r2,r3,_⟩:=zdB h1 hus .ret;have hfin:=(zca hw h1 (top:=0) (zAW _)).1;have good:a'.defers=[]/\∃ u',({ c0 with mode:=modeOf pc r }:Frame)::cs={ c0 with mode:=u' }::cs/\∃ v,(results fn a'.tmps).run P w'=.ok v w'/\∃ cv g',Ending.returned v=.returned cv/\u'=modeOf pc r/\After (d+1) ⟨bs,es⟩ g w H' g' w' :=
   ⟨hdef,_,rfl,cv,r1,cv,g',rfl,rfl,by rw [hH];exact hfin⟩
  rcases hex with rfl|rfl<;>cases e<;>first|(exact h2.elim)|(exact good)
 split at hc
 ·rename_i r1 env H1 lk hx;split at hc<;>try (cases hc;done)
  rename_i us hus;rw [jW] at hc;simp only [zAA,zAD] at hc;obtain ⟨rfl,rfl⟩:=hc;exact fin .normal env H1 lk (.inl rfl) hx us hus rfl
 ·rename_i r1 env H1 lk hx;split at hc<;>try (cases hc;done)
  rename_i us hus;rw [jW] at hc;simp only [zAA,zAD] at hc;obtain ⟨rfl,rfl⟩:=hc;exact fin .ret env H1 lk (.inr rfl) hx us hus rfl
 ·cases hc
theorem zhs (pc:Option Value):settle (modeOf pc true)=.returning:=by
 cases pc<;>rfl
theorem zf8 (pc:Option Value):settle (modeOf pc false)=modeOf pc false:=by
 cases pc<;>rfl
theorem zak {gl:Nat->Nat->Option V} {uq:TypeId->Bool} {call:FuncId->List V->Hp->Option (Out×Hp)} {d n:Nat} (hnum:vM P) (hprim:kz P) (hcall:yJ P gl call d) (hdr:∀ B,zb9 P { P,gl,call,uq } B/\zaj P { P,gl,call,uq } B) (hd:d+1<B.d) (hgl:GlOk P gl B.g) {fn:Func} {tmps:Array Value} {R:Ending->World->Prop} {H':Hp} {pnc':Option V} :
  ∀ (df:List (V×List V)) (pnc:Option V) (pc:Option Value) (env:List V) (H:Hp) (lk:List (Nat×Nat)) (g:Gh) (dc:List Deferred) (w:World),Rel B g ⟨env,H,lk,df⟩ ⟨tmps,dc⟩ w->PncOk g H.blks.length pnc pc->kq (zdt P gl uq call n) pnc df H=some (pnc',H') ->
   (∀ g' pc' w',Rel B g' ⟨env,H',lk,[]⟩ ⟨tmps,[]⟩ w'->PncOk g' H'.blks.length pnc' pc'->match pc' with
    | none=>∃ v,(results fn tmps).run P w'=.ok v w'/\R (.returned v) w'
    | some cv=>R (.panicked [{ v:=cv,recovered:=false }]) w')->Leaves P fn tmps R dc (modeOf pc false) w
 | [],pnc,pc,env,H,lk,g,dc,w,h,hp,hc,hR=>by
  have hdc:dc=[]:=zBS.1 (h.deflen.symm);subst hdc;simp only [kq,zAA,zAD] at hc;obtain ⟨rfl,rfl⟩:=hc;have:=hR g pc w h hp;cases pc with
  | none=>exact this
  | some cv=>exact this
 | (fv,args)::df,pnc,pc,env,H,lk,g,dc,w,h,hp,hc,hR=>by
  cases dc with
  | nil=>have:=h.deflen;simp at this
  | cons dd dc =>
   rcases h.defers 0 (fv,args) dd rfl rfl with hfn|⟨hmk,_⟩
   rotate_left
   ·simp only [zAD] at hmk;obtain ⟨e1,e2⟩:=hmk;subst e1 e2;simp [kq] at hc
   obtain ⟨f,as,cs,fc,e1,e2,e3,e4,e5,e6,e7,e8⟩:=hfn;simp only at e1;subst e1;obtain ⟨tg,da⟩:=dd;simp only at e2 e3 e5;subst e2;simp only [kq,fL_eq] at hc;have hcnt:∃ r H1,zdt P gl uq call n pnc f ((as++args++cs).map clr) H=some (r,H1)/\kq (zdt P gl uq call n) (if r then none else pnc) df H1=some (pnc',H'):=by
    split at hc<;>try (cases hc;done)
    ·rename_i H1 hx;exact ⟨true,H1,hx,hc⟩
    ·rename_i H1 hx;exact ⟨false,H1,hx,hc⟩
   obtain ⟨r,H1,hx,hrest⟩:=hcnt;have hargs:ArgsOk g H.blks.length ((as++args++cs).map clr) (da++fc):=ArgsOk.ofRel (by simp only [zAi,Array.size_append] at e3 ⊢;omega) (kX e3 e5 e6) (kf e7 e8)
   have hglg:GlOk P gl g:=hgl.le h.fr.le;have hinv:(invoke (.fn (.func f) fc) da).run P w=.ok (.enter f (da++fc)) w:=by
    unfold zdt at hx;simp only at hx;split at hx<;>try (cases hx;done)
    rename_i fn' hf';split at hx<;>try (cases hx;done)
    rename_i body hb';have hne:fn'.name≠ "runtime.NumGoroutine":=by simpa using hnum f fn' hf'
    simp [invoke,callFunc,hf',hb',hne]
   refine leaves_cons (by cases pc<;>simp [modeOf]) hinv (CallsD.mono (zmg hnum hprim hcall hdr hx hglg h.wok hargs hp) fun e u' w' he=>?_)
   obtain ⟨cv,g',rfl,rfl,hA⟩:=he;have hrel:=h.call hd hA;have hrel':Rel B g' ⟨env,H1,lk,df⟩ ⟨tmps,dc⟩ w' :=
    {wok:=hrel.wok,len:=hrel.len,env:=hrel.env,envTop:=hrel.envTop,n0:=hrel.n0,edges:=hrel.edges,newer:=hrel.newer,fr:=hrel.fr,lks:=hrel.lks,lkl:=hrel.lkl,pend:=hrel.pend,deflen:=by have:=hrel.deflen;simpa using this,defers:=fun j x q hx hq=>hrel.defers (j+1) x q (by simpa using hx) (by simpa using hq),marks:=fun d hd D hD=>hrel.marks d (zAE _ hd) D hD,mdis:=(List.pairwise_cons.1 hrel.mdis).2 }
   have hp':PncOk g' H1.blks.length pnc pc:=hp.le hA.fr.le hA.len;cases r with
   | true =>
    simp only [zhs];exact zak hnum hprim hcall hdr hd hgl df none none env H1 lk g' dc w' hrel' trivial hrest hR
   | false =>
    simp only [zf8];exact zak hnum hprim hcall hdr hd hgl df pnc pc env H1 lk g' dc w' hrel' hp' hrest hR
end Go.Vm
namespace Go.Vm
open Go
variable {P:Program} {B:Base} {g:Gh} {s:St} {a:Act} {w w':World}
def jF (w w':World):Prop:=∀ (c:Nat) (cs:Array Value) (t:TypeId) (k:Nat×Nat),w.heap[c]?=some (Obj.cells cs t k)->w'.heap[c]?=w.heap[c]?
theorem zf9 {row:Option Nat} (hg:w.grownBy w' row) (hrow:∀ r,row=some r->∃ o:Obj,w.heap[r]?=some o/\o.isCells=false):jF w w':=fun c cs t k h=>by
 refine hg.block c (zAX.1 h).1 fun e=>?_;obtain ⟨o,h1,h2⟩:=hrow c e.symm;rw [h] at h1;cases h1;cases h2
theorem zdD (hk:jF w w') {ad:Addr} {v:Value} (h:w.cell? ad=some v):w'.cell? ad=some v:=by
 obtain ⟨o,h1,h2⟩:=cells_of_cell h;cases o with
 | cells cs t k=>rw [World.cell?_of_block (hk _ cs t k h1)];exact h
 | _=>cases h2
theorem zga (hk:jF w w') {base e sz n:Nat} {cv:Value} {xs:List Value} (h:w.ownsRow base e sz cv n xs):w'.ownsRow base e sz cv n xs:=by
 refine ⟨h.1,h.2.imp id ?_⟩;rintro ⟨c,cap,cur,rfl,hb,hc,r⟩;exact ⟨c,cap,cur,rfl,hb,by rw [hk c _ _ _ hc];exact hc,r⟩
theorem ziW (hk:jF w w') {e sz n:Nat} {cv:Value} {xs:List Value} (h:rowAt w e sz cv n xs):rowAt w' e sz cv n xs:=by
 refine ⟨h.1,h.2.imp id ?_⟩;rintro ⟨c,o,cap,cur,rfl,hc,r⟩;exact ⟨c,o,cap,cur,rfl,by rw [hk c _ _ _ hc];exact hc,r⟩
theorem OwnV.kept (hk:jF w w') {n:Nat} {l:Loc} {x:V} {cv:Value} (h:OwnV g n w l x cv):OwnV g n w' l x cv:=by
 unfold OwnV at *;split
 ·obtain ⟨xs,h1,h2⟩:=h;exact ⟨xs,ziW hk h1,h2⟩
 ·trivial
theorem BlkOk.kept (hk:jF w w') {n b:Nat} {x:Blk} (hm:x.isC=false->w'.heap[g.blk b]?=w.heap[g.blk b]?) (h:BlkOk g n w b x):BlkOk g n w' b x:=by
 cases x with
 | cells cs t =>
  obtain ⟨arr,h1,h2,h3⟩:=h;refine ⟨arr,(hk _ _ _ _ h1).trans h1,h2,fun j x v hx hv=>?_⟩;obtain ⟨k1,k2,k3,k4⟩:=h3 j x v hx hv;exact ⟨k1,k2,k3.kept hk,k4⟩
 | map es =>
  obtain ⟨en,ck,h1,h2⟩:=h;exact ⟨en,ck,(hm rfl).trans h1,h2⟩
 | iter s pos=>exact ⟨(hm rfl).trans h.1,h.2⟩
 | ul ver sz cs e =>
  obtain ⟨c,len,cap,vs,hu⟩:=h;exact ⟨c,len,cap,vs,hu.hdr,hu.pos,zga hk hu.row,hu.mine,hu.M,hu.others,hu.len,hu.cells,hu.fresh⟩
theorem Wok.kept {bs:List Blk} (h:Wok g bs w) (hk:jF w w') (hsz:w.heap.size<=w'.heap.size) (hm:∀ (b:Nat) (x:Blk),bs[b]?=some x->x.isC=false->w'.heap[g.blk b]?=w.heap[g.blk b]?):Wok g bs w' where
 mem:=fun c o v hv=>zdD hk (h.mem c o v hv)
 lt:=fun b hb=>zAh (h.lt b hb) hsz
 inj:=h.inj
 apart:=h.apart
 ownlt:=fun c l hc=>zAh (h.ownlt c l hc) hsz
 unowned:=h.unowned
 ok:=fun b x hx=>(h.ok b x hx).kept hk (hm b x hx)
 tops:=h.tops
 laid:=fun c hc=>by
  obtain ⟨⟨cs,t,h1⟩,h2,h3⟩:=h.laid c hc;exact ⟨⟨cs,t,(hk _ _ _ _ h1).trans h1⟩,h2,h3⟩
theorem Rel.turn (h:Rel B g s a w) {row:Option Nat} (hg:w.grownBy w' row) (hrow:∀ r,row=some r->B.w.heap.size<=r/\(∃ o:Obj,w.heap[r]?=some o/\o.isCells=false)/\(∀ (b:Nat) (x:Blk),s.H.blks[b]?=some x->x.isC=false->g.blk b≠r)/\∀ d∈a.defers,∀ D,d.target=.collected D->D≠r):Rel B g s a w':=by
 have hk:jF w w':=zf9 hg fun r e=>(hrow r e).2.1;refine { wok:=h.wok.kept hk hg.size fun b x hx hc=>?_,len:=h.len,env:=fun t x v hx hv=>⟨(h.env t x v hx hv).1,(h.env t x v hx hv).2.kept hk⟩,envTop:=h.envTop,n0:=h.n0,edges:=h.edges,newer:=h.newer,fr:=?_,lks:=h.lks,lkl:=h.lkl,pend:=fun p hp=>?_,deflen:=h.deflen,defers:=h.defers,marks:=fun d hd D hD=>?_,mdis:=h.mdis }
 ·refine hg.block _ (h.wok.lt b (zAB.1 hx).1) fun e=>?_;exact (hrow _ e.symm).2.2.1 b x hx hc rfl
 ·refine ⟨h.fr.le,fun c hc=>?_,h.fr.own,h.fr.M,zAM h.fr.size hg.size,h.fr.lk,hg.os.trans h.fr.os,hg.tape.trans h.fr.tape,hg.output.trans h.fr.output⟩;have hc1:=hc.1;have:=h.fr.size;refine (hg.block c (by omega) fun e=>?_).trans (h.fr.heap c hc)
  have:=(hrow c e.symm).1;omega
 ·obtain ⟨p1,p2,p3,p4,p5⟩:=h.pend p hp;exact ⟨p1,p2,p3.kept hk,p4,p5⟩
 ·obtain ⟨h0,h1,h2,h3⟩:=h.marks d hd D hD;refine ⟨h0,(hg.block D (zAX.1 h1).1 fun e=>?_).trans h1,h2,h3⟩;exact (hrow D e.symm).2.2.2 d hd D hD rfl
end Go.Vm
namespace Go.Vm
open Go
variable {P:Program} {B:Base} {g:Gh} {w:World}
inductive Peels (P:Program):List Deferred->World->List Deferred->World->Prop
 |refl (ds:List Deferred) (w:World):Peels P ds w ds w
 |step {d:Deferred} {r:Nat} {ds ds':List Deferred} {w w1 w':World}:d.target=.collected r->(Instr.takeDeferred r).run P w=.ok [] w1->Peels P ds w1 ds' w'->Peels P (d::ds) w ds' w'
theorem zaS {ds ds':List Deferred} {w w':World} (h:Peels P ds w ds' w'):∀ (fr:Frame) (cs:List Frame),fr.mode≠.run->fr.defers=ds->Steps P (lone fr cs w) (lone { fr with defers:=ds' } cs w'):=by
 induction h with
 | refl ds w =>
  intro fr cs hm hd;subst hd;exact Steps.refl P _
 | @step d r ds ds' w w1 w' ht hk _ ih =>
  intro fr cs hm hd;have h1:=step_collected (cs:=cs) hm hd ht hk;have h2:=ih { fr with defers:=[]++ds } cs hm rfl;exact .head h1 h2
def ze6 (P:Program) (fn:Func) (R:Ending->World->Prop):Exit->Act->World->Prop
 | .normal,a,w|.ret,a,w=>∃ ds w',Peels P a.defers w ds w'/\Leaves P fn a.tmps R ds .returning w'
 | .panic chain,a,w=>∃ ds w',Peels P a.defers w ds w'/\Leaves P fn a.tmps R ds (.panicking chain) w'
 | _,_,_=>False
theorem zcb {f:FuncId} {fn:Func} {c:Code} {args:Array Value} {w:World} {R:Ending->World->Prop} (hf:P.funcs[f]?=some fn) (hb:fn.body=some c)
  (h:c.wp P (ze6 P fn R) { tmps:=args++Array.replicate (fn.ntmps - args.size) undef,defers:=[] } w):Calls P f args w R:=by
 intro cs
 let b:Frame:={ (default:Frame) with fn:=f,kind:=.normal }
 have henter:Frame.enter P f args .normal=b.at { tmps:=args++Array.replicate (fn.ntmps - args.size) undef,defers:=[] } [.code c]:=by
  simp [Frame.enter,Frame.at,hf,hb,b]
 obtain ⟨e,a',w',hq,harr⟩:=h b [] cs;rw [<- henter] at harr;cases e with
 | normal =>
  obtain ⟨ds,w1,hp,hl⟩:=hq;have h1:=zaS hp { b.at a' [] with mode:=.returning } cs (by simp) rfl
  obtain ⟨e',w'',fr',hR,hs,hfn,hl'⟩:=leaves_steps ds .returning w1 { b.at a' [] with mode:=.returning,defers:=ds } cs rfl rfl rfl hf rfl hl;exact ⟨e',w'',fr',hR,Comes.of_steps (Steps.trans harr (.head step_end h1)) hs,hfn,hl'⟩
 | ret =>
  obtain ⟨todo,hs₀⟩:=harr;obtain ⟨ds,w1,hp,hl⟩:=hq;have h1:=zaS hp { b.at a' todo with mode:=.returning } cs (by simp) rfl
  obtain ⟨e',w'',fr',hR,hs,hfn,hl'⟩:=leaves_steps ds .returning w1 { b.at a' todo with mode:=.returning,defers:=ds } cs rfl rfl rfl hf rfl hl;exact ⟨e',w'',fr',hR,Comes.of_steps (Steps.trans hs₀ h1) hs,hfn,hl'⟩
 | panic chain =>
  obtain ⟨todo,hs₀⟩:=harr;obtain ⟨ds,w1,hp,hl⟩:=hq;have h1:=zaS hp { b.at a' todo with mode:=.panicking chain } cs (by simp) rfl
  obtain ⟨e',w'',fr',hR,hs,hfn,hl'⟩:=leaves_steps ds (.panicking chain) w1 { b.at a' todo with mode:=.panicking chain,defers:=ds } cs rfl rfl rfl hf rfl hl;exact ⟨e',w'',fr',hR,Comes.of_steps (Steps.trans hs₀ h1) hs,hfn,hl'⟩
 | exit id=>exact hq.elim
 | goto l=>exact hq.elim
 | outgrown=>exact hq.elim
theorem zjU {tmps:Array Value} {env:List V} {H:Hp} {lk:List (Nat×Nat)}:∀ (df:List (V×List V)) (dc:List Deferred) (w:World),Rel B g ⟨env,H,lk,df⟩ ⟨tmps,dc⟩ w ->
  ∃ dc' w',Peels P dc w dc' w'/\Rel B g ⟨env,H,lk,dropMarks df⟩ ⟨tmps,dc'⟩ w'
 | [],dc,w,h=>⟨dc,w,.refl _ _,h⟩
 | (x,l)::df,dc,w,h=>by
  by_cases hx:x=.nilp/\l=[]
  ·obtain ⟨rfl,rfl⟩:=hx;cases dc with
   | nil=>have:=h.deflen;simp at this
   | cons d dc =>
    rcases h.defers 0 _ d rfl rfl with hd|⟨_,D,rfl⟩
    ·obtain ⟨f,as,cs,fc,e1,_⟩:=hd;cases e1
    ·obtain ⟨h0,h1,h2,h3⟩:=h.marks _ (zAL ..) D rfl;have hmd:=List.pairwise_cons.1 h.mdis;have hrel:Rel B g ⟨env,H,lk,df⟩ ⟨tmps,dc⟩ w :=
      {wok:=h.wok,len:=h.len,env:=h.env,envTop:=h.envTop,n0:=h.n0,edges:=h.edges,newer:=h.newer,fr:=h.fr,lks:=h.lks,lkl:=h.lkl,pend:=h.pend,deflen:=by have:=h.deflen;simpa using this,defers:=fun j x q hx hq=>h.defers (j+1) x q (by simpa using hx) (by simpa using hq),marks:=fun d hd D hD=>h.marks d (zAE _ hd) D hD,mdis:=hmd.2 }
     have hrel':=hrel.turn (grownBy_putObj' w D (.deferred none)) fun r e=>by
      cases e;exact ⟨h0,⟨_,h1,rfl⟩,fun b x hx _=>h2 b (zAB.1 hx).1,fun d hd D' hD' e=>hmd.1 d hd D rfl (e ▸ hD')⟩
     obtain ⟨dc',w',k1,k2⟩:=zjU df dc _ hrel';exact ⟨dc',w',.step rfl (run_takeDeferred h1) k1,k2⟩
  ·refine ⟨dc,w,.refl _ _,?_⟩;have:dropMarks ((x,l)::df)=(x,l)::df:=by
    unfold dropMarks;split
    ·rename_i e;cases e;exact absurd ⟨rfl,rfl⟩ hx
    ·rfl
   rw [this];exact h
end Go.Vm
