/- Seat 7: MatchLaws' law, out of its tree; Seat 7: an argument of an expression and texts, as the machine holds it; what the laws run to; Seat 7: an argument of three expressions and texts; what MatchLaws runs to. Conditions: none but those that each theorem names. -/
import Derived.Test.YtlnijcffanjieaaGreatDoorVmQ
import Derived.Test.YtlnijcffanjieaaGreatDoorVmR
namespace Go.Proofs.YtlnijcffanjieaaGreatDoor
set_option maxRecDepth 100000
open Go Go.Vm Go.Vm.Sx
theorem zqM (e:E):ksOk K10 (ecells e)=true:=by
 obtain ⟨op,pl,s0,s1,s2,s3,tx,mn,mx,nl,args⟩:=e
 have:=yf nl (encs args)
 simp [K10,ecells,ksOk,kOk] at this ⊢
 exact this
def Sg (ρ:List V) (i:Nat) (e:E):Prop:=i+10≤ρ.length∧∀ j,j<10→at' ρ (i+j)=at' (ecells e) j
def Vl (ρ:List V) (i:Nat) (v:V):Prop:=i<ρ.length∧at' ρ i=v
theorem Sg.app {ρ:List V} {i:Nat} {e:E} (h:Sg ρ i e) (σ:List V):Sg (ρ++σ) i e:=⟨by have:=h.1;simp;omega,fun j hj=>by rw [zmG (by have:=h.1;omega)];exact h.2 j hj⟩
theorem Vl.app {ρ:List V} {i:Nat} {v:V} (h:Vl ρ i v) (σ:List V):Vl (ρ++σ) i v:=⟨by have:=h.1;simp;omega,by rw [zmG h.1];exact h.2⟩
theorem Vl.new {ρ σ:List V} {n:Nat} {v:V} (h:ρ.length=n):Vl (ρ++(v::σ)) n v:=⟨by simp;omega,by subst h;have:=zmH (ρ:=ρ) (σ:=v::σ) 0;rw [Nat.add_zero] at this;rw [this,qK]⟩
theorem Sg.new {ρ:List V} {n:Nat} {v:V} {e:E} (h:ρ.length=n):Sg (ρ++(v::ecells e)) (n+1) e:=⟨by simp [jq];omega,fun j hj=>by subst h;have:=zmH (ρ:=ρ) (σ:=v::ecells e) (1+j);rw [show ρ.length+1+j=ρ.length+(1+j) by omega,this,Nat.add_comm 1 j,qL]⟩
theorem zpZ {ρ:List V} {i:Nat} {e:E} (b:Bool) (h:Sg ρ i e):zp ρ [] (CV i b)=ecells e:=by
 have g:=h.2
 simp only [CV]
 have hc:=yi e
 obtain ⟨op,pl,s0,s1,s2,s3,tx,mn,mx,nl,args⟩:=e
 have g0:=g 0 (by decide)
 have g1:=g 1 (by decide)
 have g2:=g 2 (by decide)
 have g3:=g 3 (by decide)
 have g4:=g 4 (by decide)
 have g5:=g 5 (by decide)
 have g6:=g 6 (by decide)
 have g7:=g 7 (by decide)
 have g8:=g 8 (by decide)
 have g9:=g 9 (by decide)
 simp only [ecells,qK,qL,Nat.add_zero] at g0 g1 g2 g3 g4 g5 g6 g7 g8 g9
 cases b<;>simp only [zp,evC,ecells,g0,g1,g2,g3,g4,g5,g6,g7,g8,g9,zD,wJ,q5]
variable {N:Nat} {ρ:List V} {t:Tree} {n:Nat}
theorem zp0 {i:Nat} {e:E} (b:Bool) (h:Sg ρ i e):evT (phE Tryz.prog gl1) gl1.g N (.letv (.sc (.agg (CV i b))) t) ρ=evT (phE Tryz.prog gl1) gl1.g N t (ρ++[enc e]):=by
 rw [zX,qf,← zpZ b h]
 rfl
theorem s_emp:evT (phE Tryz.prog gl1) gl1.g N (.letv (.sc (.agg EC)) t) ρ=evT (phE Tryz.prog gl1) gl1.g N t (ρ++[enc empE]):=rfl
theorem zgu {f:FuncId} {args:List AS} {av:List AV} {e:E} (hl:ρ.length=n) (ha:kz ρ args=av) (hp:phE Tryz.prog gl1 f av []=some (enc e,[])):evT (phE Tryz.prog gl1) gl1.g N (.call f args [] [] (.opn n K10 t)) ρ=evT (phE Tryz.prog gl1) gl1.g N t (ρ++(enc e::ecells e)):=by
 have hv:=(Vl.new (v:=enc e) (σ:=[]) hl).2
 rw [jf,ha,show qx ρ []=[] from rfl,hp]
 show (bif (sizesOk [] [] && ksOk [] (joinL [])) then evT (phE Tryz.prog gl1) gl1.g N (.opn n K10 t) (ρ++(enc e::joinL [])) else none)=_
 rw [show (sizesOk [] [] && ksOk [] (joinL []))=true from rfl,cond_true,show joinL ([]:List (List V))=[] from rfl,ev_opn,hv,qf]
 simp only [zqM,cond_true,List.append_assoc,List.cons_append,List.nil_append]
theorem ziB {i:Nat} {e:E} (mn mx:Int) (b:Bool) (hl:ρ.length=n) (h:Sg ρ i e):evT (phE Tryz.prog gl1) gl1.g N (.call 18 [(.d (.one (.i .i64 (.lit mn)))),(.d (.one (.i .i64 (.lit mx)))),(.d (.agg (CV i b)))] [] [] (.opn n K10 t)) ρ=evT (phE Tryz.prog gl1) gl1.g N t (ρ++(enc (vm mn mx e)::ecells (vm mn mx e))):=by
 refine zgu hl ?_ (jU (zqA GL1 mn mx e))
 simp only [kz,evA,zy,zpZ b h,evC,evI,← qf]
theorem zeu {i j:Nat} {x y:E} (hl:ρ.length=n) (h:Vl ρ i (enc x)) (k:Vl ρ j (enc y)):evT (phE Tryz.prog gl1) gl1.g N (.call 19 [(.d (.one (.sl 10 (.snoc (.snoc .nil i) j) .no)))] [] [] (.opn n K10 t)) ρ=evT (phE Tryz.prog gl1) gl1.g N t (ρ++(enc (jY [x,y])::ecells (jY [x,y]))):=by
 refine zgu hl ?_ (jU (zqB GL1 [x,y]))
 simp only [kz,evA,zy,evC,evL,h.2,k.2,List.nil_append,List.cons_append]
 rfl
theorem zgv {i j:Nat} {x y:E} (hl:ρ.length=n) (h:Vl ρ i (enc x)) (k:Vl ρ j (enc y)):evT (phE Tryz.prog gl1) gl1.g N (.call 20 [(.d (.one (.sl 10 (.snoc (.snoc .nil i) j) .no)))] [] [] (.opn n K10 t)) ρ=evT (phE Tryz.prog gl1) gl1.g N t (ρ++(enc (jK [x,y])::ecells (jK [x,y]))):=by
 refine zgu hl ?_ (jU (zpP GL1 [x,y]))
 simp only [kz,evA,zy,evC,evL,h.2,k.2,List.nil_append,List.cons_append]
 rfl
theorem zo1 {i j m:Nat} {x y z:E} (hl:ρ.length=n) (h:Vl ρ i (enc x)) (k:Vl ρ j (enc y)) (o:Vl ρ m (enc z)):evT (phE Tryz.prog gl1) gl1.g N (.call 20 [(.d (.one (.sl 10 (.snoc (.snoc (.snoc .nil i) j) m) .no)))] [] [] (.opn n K10 t)) ρ=evT (phE Tryz.prog gl1) gl1.g N t (ρ++(enc (jK [x,y,z])::ecells (jK [x,y,z]))):=by
 refine zgu hl ?_ (jU (zpP GL1 [x,y,z]))
 simp only [kz,evA,zy,evC,evL,h.2,k.2,o.2,List.nil_append,List.cons_append]
 rfl
def Vs (ρ:List V):List (Nat×V)→Prop
 | []=>True
 | (i,v)::l=>Vl ρ i v∧Vs ρ l
def Gs (ρ:List V):List (Nat×E)→Prop
 | []=>True
 | (i,e)::l=>Sg ρ i e∧Gs ρ l
theorem Vs.app {ρ:List V} (σ:List V):∀ {l:List (Nat×V)},Vs ρ l→Vs (ρ++σ) l
 | [],_=>trivial
 | (_,_)::_,h=>⟨h.1.app σ,Vs.app σ h.2⟩
theorem Gs.app {ρ:List V} (σ:List V):∀ {l:List (Nat×E)},Gs ρ l→Gs (ρ++σ) l
 | [],_=>trivial
 | (_,_)::_,h=>⟨h.1.app σ,Gs.app σ h.2⟩
variable {VL:List (Nat×V)} {GS:List (Nat×E)} {R:Option (Nat×List V)}
def Kt (N:Nat) (t:Tree) (R:Option (Nat×List V)) (n:Nat) (VL:List (Nat×V)) (GS:List (Nat×E)):Prop:=∀ ρ:List V,ρ.length=n→Vs ρ VL→Gs ρ GS→evT (phE Tryz.prog gl1) gl1.g N t ρ=R
theorem zZ {i:Nat} {e:E} (b:Bool) (hn:ρ.length=n) (h:Sg ρ i e) (hV:Vs ρ VL) (hG:Gs ρ GS) (k:Kt N t R (n+1) ((n,enc e)::VL) GS):evT (phE Tryz.prog gl1) gl1.g N (.letv (.sc (.agg (CV i b))) t) ρ=R :=
 (zp0 b h).trans (k _ (by simp [hn]) ⟨Vl.new hn,hV.app _⟩ (hG.app _))
theorem zmI (hn:ρ.length=n) (hV:Vs ρ VL) (hG:Gs ρ GS) (k:Kt N t R (n+1) ((n,enc empE)::VL) GS):evT (phE Tryz.prog gl1) gl1.g N (.letv (.sc (.agg EC)) t) ρ=R :=
 s_emp.trans (k _ (by simp [hn]) ⟨Vl.new hn,hV.app _⟩ (hG.app _))
theorem jH {e:E} (hn:ρ.length=n) (hV:Vs ρ VL) (hG:Gs ρ GS) (k:Kt N t R (n+11) ((n,enc e)::VL) ((n+1,e)::GS)):evT (phE Tryz.prog gl1) gl1.g N t (ρ++(enc e::ecells e))=R :=
 k _ (by simp [hn,jq]) ⟨Vl.new hn,hV.app _⟩ ⟨Sg.new hn,hG.app _⟩
theorem zo2 (A B C:E) (hp:∀ (k:Nat) (l r:E),(lftE A B C)[k]?=some l→(rgtE A B C)[k]?=some r→Pair l r) (N:Nat) (nl:Bool) (l:List Tx) (hN:l.length+42≤N) (hl:l.length≤maxLen) (htx:∀ p∈l,zhR p) (ρ:List V) (n:ρ.length=38) (G:Gs ρ [(1,A),(11,B),(21,C)]) (V:Vs ρ [(31,zeG nl l)]):evT (phE Tryz.prog gl1) gl1.g N tree4c ρ=some (0,[.bool true]):=by
 unfold tree4c
 refine (ziB (0) (-1) true n G.1).trans (jH n V G fun ρ n V G=>?_)
 refine zZ true n G.2.1 V G fun ρ n V G=>?_
 refine zZ true n G.2.2.1 V G fun ρ n V G=>?_
 refine (zeu n V.2.1 V.1).trans (jH n V G fun ρ n V G=>?_)
 refine zZ false n G.1 V G fun ρ n V G=>?_
 refine zZ true n G.2.2.2.2.1 V G fun ρ n V G=>?_
 refine (zeu n V.2.1 V.1).trans (jH n V G fun ρ n V G=>?_)
 refine zZ true n G.2.2.2.1 V G fun ρ n V G=>?_
 refine zZ true n G.2.2.2.2.1 V G fun ρ n V G=>?_
 refine (zgv n V.2.1 V.1).trans (jH n V G fun ρ n V G=>?_)
 refine zZ false n G.1 V G fun ρ n V G=>?_
 refine zZ true n G.2.2.2.2.2.2.1 V G fun ρ n V G=>?_
 refine (zgv n V.2.1 V.1).trans (jH n V G fun ρ n V G=>?_)
 refine zZ true n G.2.2.2.2.2.1 V G fun ρ n V G=>?_
 refine zZ true n G.2.2.2.2.2.2.1 V G fun ρ n V G=>?_
 refine (zgv n V.2.1 V.1).trans (jH n V G fun ρ n V G=>?_)
 refine zZ true n G.2.2.2.2.2.2.2.1 V G fun ρ n V G=>?_
 refine zZ true n G.2.2.2.2.2.2.2.2.1 V G fun ρ n V G=>?_
 refine (zgv n V.2.1 V.1).trans (jH n V G fun ρ n V G=>?_)
 refine zZ true n G.2.2.2.2.2.2.2.1 V G fun ρ n V G=>?_
 refine zZ false n G.1 V G fun ρ n V G=>?_
 refine (zeu n V.2.1 V.1).trans (jH n V G fun ρ n V G=>?_)
 refine (ziB (1) (-1) true n G.2.2.2.2.2.2.2.2.1).trans (jH n V G fun ρ n V G=>?_)
 refine (ziB (0) (1) true n G.2.2.2.2.2.2.2.2.2.1).trans (jH n V G fun ρ n V G=>?_)
 refine zZ true n G.2.2.2.2.2.2.2.2.2.2.1 V G fun ρ n V G=>?_
 refine zmI n V G fun ρ n V G=>?_
 refine (zeu n V.2.1 V.1).trans (jH n V G fun ρ n V G=>?_)
 refine (ziB (0) (-1) true n G.2.2.2.2.2.2.2.2.2.2.1).trans (jH n V G fun ρ n V G=>?_)
 refine zZ true n G.2.2.2.2.2.2.2.2.2.2.2.2.1 V G fun ρ n V G=>?_
 refine zZ true n G.2.2.2.2.2.2.2.2.2.2.2.2.2.1 V G fun ρ n V G=>?_
 refine (zgv n V.2.1 V.1).trans (jH n V G fun ρ n V G=>?_)
 refine (ziB (0) (-1) false n G.1).trans (jH n V G fun ρ n V G=>?_)
 refine zZ false n G.2.2.2.2.2.2.2.2.2.2.2.1 V G fun ρ n V G=>?_
 refine zZ false n G.2.2.2.2.2.2.2.2.2.1 V G fun ρ n V G=>?_
 refine zZ false n G.2.2.2.2.2.2.2.2.1 V G fun ρ n V G=>?_
 refine zZ false n G.2.2.2.2.2.2.1 V G fun ρ n V G=>?_
 refine zZ true n G.2.2.2.2.2.2.2.2.2.2.2.2.2.1 V G fun ρ n V G=>?_
 refine zZ false n G.2.2.2.2.2.1 V G fun ρ n V G=>?_
 refine zZ false n G.2.2.2.2.1 V G fun ρ n V G=>?_
 refine zZ false n G.2.2.2.1 V G fun ρ n V G=>?_
 refine zZ false n G.2.2.1 V G fun ρ n V G=>?_
 refine zZ false n G.1 V G fun ρ n V G=>?_
 refine zZ true n G.2.2.2.2.2.2.2.2.2.2.2.2.2.2.2.1 V G fun ρ n V G=>?_
 refine zZ true n G.2.2.2.2.2.2.2.2.2.2.2.2.2.2.2.2.1 V G fun ρ n V G=>?_
 refine (zeu n V.2.1 V.1).trans (jH n V G fun ρ n V G=>?_)
 refine zZ true n G.2.2.2.2.2.2.2.2.2.2.2.2.2.2.2.1 V G fun ρ n V G=>?_
 refine zZ false n G.1 V G fun ρ n V G=>?_
 refine (zeu n V.2.1 V.1).trans (jH n V G fun ρ n V G=>?_)
 refine zZ true n G.2.2.2.2.2.2.2.2.2.2.2.2.2.2.2.2.1 V G fun ρ n V G=>?_
 refine zZ true n G.2.2.2.2.2.2.2.2.2.2.2.2.2.2.2.2.2.1 V G fun ρ n V G=>?_
 refine zZ true n G.2.2.2.2.2.2.2.2.2.2.2.2.2.2.2.2.2.2.1 V G fun ρ n V G=>?_
 refine (zo1 n V.2.2.1 V.2.1 V.1).trans (jH n V G fun ρ n V G=>?_)
 refine zZ true n G.2.2.2.2.2.2.2.2.2.2.2.2.2.2.2.2.2.2.1 V G fun ρ n V G=>?_
 refine zZ true n G.2.2.2.2.2.2.2.2.2.2.2.2.2.2.2.2.2.1 V G fun ρ n V G=>?_
 refine (zgv n V.2.1 V.1).trans (jH n V G fun ρ n V G=>?_)
 refine zZ true n G.2.2.2.2.2.2.2.2.2.2.2.2.2.2.2.2.2.2.1 V G fun ρ n V G=>?_
 refine zZ true n G.2.2.2.2.2.2.2.2.2.2.2.2.2.2.2.2.2.2.2.1 V G fun ρ n V G=>?_
 refine (zeu n V.2.1 V.1).trans (jH n V G fun ρ n V G=>?_)
 refine zZ true n G.2.2.2.2.2.2.2.2.2.2.2.2.2.2.2.2.2.2.2.1 V G fun ρ n V G=>?_
 refine zZ true n G.2.2.2.2.2.2.2.2.2.2.2.2.2.2.2.2.2.2.2.2.2.1 V G fun ρ n V G=>?_
 refine (zeu n V.2.1 V.1).trans (jH n V G fun ρ n V G=>?_)
 refine zZ false n G.2.1 V G fun ρ n V G=>?_
 refine zZ false n G.1 V G fun ρ n V G=>?_
 refine (zgv n V.2.1 V.1).trans (jH n V G fun ρ n V G=>?_)
 refine zZ true n G.2.2.2.2.2.2.2.2.2.2.2.2.2.2.2.2.2.2.2.2.2.1 V G fun ρ n V G=>?_
 refine zZ true n G.2.2.2.2.2.2.2.2.2.2.2.2.2.2.2.2.2.2.2.2.1 V G fun ρ n V G=>?_
 refine (zeu n V.2.1 V.1).trans (jH n V G fun ρ n V G=>?_)
 refine zmI n V G fun ρ n V G=>?_
 refine zZ false n G.1 V G fun ρ n V G=>?_
 refine (zgv n V.2.1 V.1).trans (jH n V G fun ρ n V G=>?_)
 refine zZ true n G.2.2.2.2.2.2.2.2.2.2.2.2.2.2.2.2.2.2.2.2.2.2.2.1 V G fun ρ n V G=>?_
 refine zZ true n G.2.2.2.2.2.2.2.2.2.2.2.2.2.2.2.2.2.2.2.2.2.2.1 V G fun ρ n V G=>?_
 refine (zeu n V.2.1 V.1).trans (jH n V G fun ρ n V G=>?_)
 refine zZ true n G.2.2.2.2.2.2.2.2.2.2.2.2.2.2.2.2.2.2.2.2.2.2.2.2.1 V G fun ρ n V G=>?_
 refine zmI n V G fun ρ n V G=>?_
 refine (zgv n V.2.1 V.1).trans (jH n V G fun ρ n V G=>?_)
 refine (ziB (0) (-1) true n G.2.2.2.2.2.2.2.2.2.2.2.2.2.2.2.2.2.2.2.2.2.2.2.2.2.2.1).trans (jH n V G fun ρ n V G=>?_)
 refine zZ true n G.2.2.2.2.2.2.2.2.2.2.2.2.2.2.2.2.2.2.2.2.2.2.2.2.2.1 V G fun ρ n V G=>?_
 refine zZ false n G.1 V G fun ρ n V G=>?_
 refine (zeu n V.2.1 V.1).trans (jH n V G fun ρ n V G=>?_)
 refine (ziB (0) (-1) false n G.1).trans (jH n V G fun ρ n V G=>?_)
 refine zZ false n G.2.2.2.2.2.2.2.2.2.2.2.2.1 V G fun ρ n V G=>?_
 refine zZ false n G.2.2.2.2.2.2.2.2.2.2.2.1 V G fun ρ n V G=>?_
 refine zZ false n G.2.2.2.2.2.2.2.2.2.2.1 V G fun ρ n V G=>?_
 refine zZ false n G.2.2.2.2.2.2.2.1 V G fun ρ n V G=>?_
 refine zZ false n G.2.2.2.2.2.1 V G fun ρ n V G=>?_
 refine zZ false n G.2.2.2.2.1 V G fun ρ n V G=>?_
 refine zZ false n G.2.2.2.1 V G fun ρ n V G=>?_
 refine zZ true n G.2.2.2.2.2.2.2.2.2.2.2.2.2.2.2.2.2.2.2.2.2.2.2.2.2.2.2.2.1 V G fun ρ n V G=>?_
 refine zZ true n G.2.2.2.2.2.2.2.2.2.2.2.2.2.2.2.2.2.2.2.2.2.2.2.2.2.2.2.1 V G fun ρ n V G=>?_
 refine zZ false n G.1 V G fun ρ n V G=>?_
 refine lp4 A B C hp N nl l hN hl htx ρ n V.2.2.2.2.2.2.2.2.2.2.2.2.2.2.2.2.2.2.2.2.2.2.2.2.2.2.2.2.2.2.2.2.2.2.2.2.2.2.2.2.2.2.2.2.2.2.2.2.2.2.2.2.2.2.2.2.2.2.2.2.2.2.2.2.2.2.2.2.2.2.2.2.2.2.2.2.2.2.2.2.2.2.2.2.2.2.2.2.2.2.2.1.2 ?_ ?_
 ·simp only [evL,zM,zH,lftE,List.map_cons,List.map_nil,V.2.2.2.2.2.2.2.2.2.2.2.2.2.2.2.2.2.2.2.2.2.2.2.2.2.2.2.2.2.2.2.2.2.2.2.2.2.2.2.2.2.2.2.2.2.2.2.2.2.2.2.2.2.2.2.2.2.2.1.2,V.2.2.2.2.2.2.2.2.2.2.2.2.2.2.2.2.2.2.2.2.2.2.2.2.2.2.2.2.2.2.2.2.2.2.2.2.2.2.2.2.2.2.2.2.2.2.2.2.2.2.2.2.2.2.2.2.2.1.2,V.2.2.2.2.2.2.2.2.2.2.2.2.2.2.2.2.2.2.2.2.2.2.2.2.2.2.2.2.2.2.2.2.2.2.2.2.2.2.2.2.2.2.2.2.2.2.2.2.2.2.2.2.2.2.2.2.1.2,V.2.2.2.2.2.2.2.2.2.2.2.2.2.2.2.2.2.2.2.2.2.2.2.2.2.2.2.2.2.2.2.2.2.2.2.2.2.2.2.2.2.2.2.2.2.2.2.2.2.2.2.2.2.2.2.1.2,V.2.2.2.2.2.2.2.2.2.2.2.2.2.2.2.2.2.2.2.2.2.2.2.2.2.2.2.2.2.2.2.2.2.2.2.2.2.2.2.2.2.2.2.2.2.2.2.2.2.2.2.2.2.2.1.2,V.2.2.2.2.2.2.2.2.2.2.2.2.2.2.2.2.2.2.2.2.2.2.2.2.2.2.2.2.2.2.2.2.2.2.2.2.2.2.2.2.2.2.2.2.2.2.2.2.2.2.2.2.2.1.2,V.2.2.2.2.2.2.2.2.2.2.2.2.2.2.2.2.2.2.2.2.2.2.2.2.2.2.2.2.2.2.2.2.2.2.2.2.2.2.2.2.2.2.2.2.2.2.2.2.2.2.2.2.1.2,V.2.2.2.2.2.2.2.2.2.2.2.2.2.2.2.2.2.2.2.2.2.2.2.2.2.2.2.2.2.2.2.2.2.2.2.2.2.2.2.2.2.2.2.2.2.2.2.2.2.2.2.1.2,V.2.2.2.2.2.2.2.2.2.2.2.2.2.2.2.2.2.2.2.2.2.2.2.2.2.2.2.2.2.2.2.2.2.2.2.2.2.2.2.2.2.2.2.2.2.2.2.2.2.2.1.2,V.2.2.2.2.2.2.2.2.2.2.2.2.2.2.2.2.2.2.2.2.2.2.2.2.2.2.2.2.2.2.2.2.2.2.2.2.2.2.2.2.2.2.2.2.2.2.2.2.2.1.2]
 ·simp only [evL,zM,zH,rgtE,List.map_cons,List.map_nil,V.2.2.2.2.2.2.2.2.2.1.2,V.2.2.2.2.2.2.2.2.1.2,V.2.2.2.2.2.2.2.1.2,V.2.2.2.2.2.2.1.2,V.2.2.2.2.2.1.2,V.2.2.2.2.1.2,V.2.2.2.1.2,V.2.2.1.2,V.2.1.2,V.1.2]
theorem ev4 (A B C:E) (hA:GdE A∧Rg A) (hB:GdE B∧Rg B) (hC:GdE C∧Rg C) (nl:Bool) (l:List Tx) (hl:l.length≤maxLen) (htx:∀ p∈l,zhR p) (xs:List V) (hxs:xs=ecells A++(ecells B++(ecells C++[zeG nl l]))):Ev Tryz.prog gl1 4 [.d (.agg xs)] [] (.bool true) []:=by
 have hgl:=GL1
 have hml:=maxLen_le
 have c12:=jU ev12
 refine j9 (xs:=[.agg xs]) hgl.top (fun args=>hgl.no 4 rfl args) tree4_ok Tryz.func4 lent4 zpY (by rw [hxs];simp [tops,V.top,kM,zhJ,znL]) (N:=l.length+42) ?_
 obtain ⟨a0,a1,a2,a3,a4,a5,a6,a7,a8,a9,eA,ak0,ac0,ak1,ac1,ak2,ac2,ak3,ac3,ak4,ac4,ak5,ac5,ak6,ac6,ak7,ac7,ak8,ac8,ak9,ac9⟩:=zet A
 obtain ⟨b0,b1,b2,b3,b4,b5,b6,b7,b8,b9,eB,bk0,bc0,bk1,bc1,bk2,bc2,bk3,bc3,bk4,bc4,bk5,bc5,bk6,bc6,bk7,bc7,bk8,bc8,bk9,bc9⟩:=zet B
 obtain ⟨c0,c1,c2,c3,c4,c5,c6,c7,c8,c9,eC,ck0,cc0,ck1,cc1,ck2,cc2,ck3,cc3,ck4,cc4,ck5,cc5,ck6,cc6,ck7,cc7,ck8,cc8,ck9,cc9⟩:=zet C
 have hA':=eA
 rw [qf,V.agg.injEq] at hA'
 have hB':=eB
 rw [qf,V.agg.injEq] at hB'
 have hC':=eC
 rw [qf,V.agg.injEq] at hC'
 rw [hA',hB',hC'] at hxs
 subst hxs
 have cA:=x10 eA hA.1.1
 have cB:=x10 eB hB.1.1
 have cC:=x10 eC hC.1.1
 have kA:=x11 eA hA.1.1
 have kB:=x11 eB hB.1.1
 have kC:=x11 eC hC.1.1
 simp only [tree4,CV,Nat.reduceAdd,List.cons_append,List.nil_append]
 cases hs:ltz 300 (IntKind.i64.wrap (IntKind.i64.wrap (sizeM A 0+sizeM B 0)+sizeM C 0)) with
 | true=>simp only [kE,zY,zX,ev_opn,qn,jf,qK,qL,qd,kN,yy,ks_nil,Bool.and_self,Bool.not_true,q8,zH,zM,evB,evI,zp,evC,zy,kz,evA,qx,jt,z0,jW,biI,joinL,sizesOk,ak0,ac0,ak1,ac1,ak2,ac2,ak3,ac3,ak4,ac4,ak5,ac5,ak6,ac6,ak7,ac7,ak8,ac8,ak9,ac9,bk0,bc0,bk1,bc1,bk2,bc2,bk3,bc3,bk4,bc4,bk5,bc5,bk6,bc6,bk7,bc7,bk8,bc8,bk9,bc9,ck0,cc0,ck1,cc1,ck2,cc2,ck3,cc3,ck4,cc4,ck5,cc5,ck6,cc6,ck7,cc7,ck8,cc8,ck9,cc9,zhS,cA,cB,cC,c12,hs]
 | false =>
 cases h1:zaQ A with
 | false =>
  rw [h1] at kA
  simp only [kK,kE,zY,zX,ev_opn,qn,jf,qK,qL,qd,kN,yy,ks_nil,Bool.and_self,Bool.not_false,q8,zH,zM,evB,evI,zp,evC,zy,kz,evA,qx,jt,z0,ww,jW,biI,joinL,sizesOk,ak0,ac0,ak1,ac1,ak2,ac2,ak3,ac3,ak4,ac4,ak5,ac5,ak6,ac6,ak7,ac7,ak8,ac8,ak9,ac9,bk0,bc0,bk1,bc1,bk2,bc2,bk3,bc3,bk4,bc4,bk5,bc5,bk6,bc6,bk7,bc7,bk8,bc8,bk9,bc9,ck0,cc0,ck1,cc1,ck2,cc2,ck3,cc3,ck4,cc4,ck5,cc5,ck6,cc6,ck7,cc7,ck8,cc8,ck9,cc9,zhS,cA,cB,cC,kA,c12,hs]
 | true =>
 rw [h1] at kA
 cases h2:zaQ B with
 | false =>
  rw [h2] at kB
  simp only [kK,kE,zY,zX,ev_opn,qn,jf,qK,qL,qd,kN,yy,ks_nil,Bool.and_self,Bool.not_false,q8,zH,zM,evB,evI,zp,evC,zy,kz,evA,qx,jt,z0,ww,jW,biI,joinL,sizesOk,ak0,ac0,ak1,ac1,ak2,ac2,ak3,ac3,ak4,ac4,ak5,ac5,ak6,ac6,ak7,ac7,ak8,ac8,ak9,ac9,bk0,bc0,bk1,bc1,bk2,bc2,bk3,bc3,bk4,bc4,bk5,bc5,bk6,bc6,bk7,bc7,bk8,bc8,bk9,bc9,ck0,cc0,ck1,cc1,ck2,cc2,ck3,cc3,ck4,cc4,ck5,cc5,ck6,cc6,ck7,cc7,ck8,cc8,ck9,cc9,zhS,cA,cB,cC,kA,kB,c12,hs]
 | true =>
 rw [h2] at kB
 cases h3:zaQ C with
 | false =>
  rw [h3] at kC
  simp only [kK,zY,zX,ev_opn,qn,jf,qK,qL,qd,kN,yy,ks_nil,Bool.and_self,Bool.not_false,q8,zH,zM,evB,evI,zp,evC,zy,kz,evA,qx,jt,z0,ww,jW,biI,joinL,sizesOk,ak0,ac0,ak1,ac1,ak2,ac2,ak3,ac3,ak4,ac4,ak5,ac5,ak6,ac6,ak7,ac7,ak8,ac8,ak9,ac9,bk0,bc0,bk1,bc1,bk2,bc2,bk3,bc3,bk4,bc4,bk5,bc5,bk6,bc6,bk7,bc7,bk8,bc8,bk9,bc9,ck0,cc0,ck1,cc1,ck2,cc2,ck3,cc3,ck4,cc4,ck5,cc5,ck6,cc6,ck7,cc7,ck8,cc8,ck9,cc9,zhS,cA,cB,cC,kA,kB,kC,c12,hs]
 | true =>
 rw [h3] at kC
 have hcor:=zb9 h1
 have hcorB:=zb9 h2
 have hcorC:=zb9 h3
 have zA:=zer hA.1.1
 have zB:=zer hB.1.1
 have zC:=zer hC.1.1
 have hsz:sizeM A 0+sizeM B 0+sizeM C 0≤300:=by
  simp only [Bd] at zA zB zC
  rw [w64 (x:=sizeM A 0+sizeM B 0) (by omega) (by omega),w64 (by omega) (by omega)] at hs
  rcases Int.lt_or_le 300 (sizeM A 0+sizeM B 0+sizeM C 0) with h|h
  ·rw [ltz_t h] at hs;cases hs
  ·exact h
 have nA:=zbi hA.1.1 (by omega)
 have nB:=zbi hB.1.1 (by omega)
 have nC:=zbi hC.1.1 (by omega)
 simp only [kK,kE,ev_opn,qn,jf,qK,qL,qd,kN,yy,ks_nil,Bool.and_self,Bool.not_true,Bool.not_false,q8,zH,zM,evB,evI,zp,evC,zy,kz,evA,qx,z0,ww,jW,biI,joinL,sizesOk,ak0,ac0,ak1,ac1,ak2,ac2,ak3,ac3,ak4,ac4,ak5,ac5,ak6,ac6,ak7,ac7,ak8,ac8,ak9,ac9,bk0,bc0,bk1,bc1,bk2,bc2,bk3,bc3,bk4,bc4,bk5,bc5,bk6,bc6,bk7,bc7,bk8,bc8,bk9,bc9,ck0,cc0,ck1,cc1,ck2,cc2,ck3,cc3,ck4,cc4,ck5,cc5,ck6,cc6,ck7,cc7,ck8,cc8,ck9,cc9,zhS,cA,cB,cC,kA,kB,kC,hs]
 exact zo2 A B C (zkJ ⟨hA.1.1,hA.1.2,hA.2,hcor⟩ ⟨hB.1.1,hB.1.2,hB.2,hcorB⟩ ⟨hC.1.1,hC.1.2,hC.2,hcorC⟩ (by omega) (by omega) (by omega)) _ nl l (Nat.le_refl _) hl htx _ rfl ⟨⟨by simp,fun j hj=>by rw [hA'];(match j,hj with|0,_=>rfl|1,_=>rfl|2,_=>rfl|3,_=>rfl|4,_=>rfl|5,_=>rfl|6,_=>rfl|7,_=>rfl|8,_=>rfl|9,_=>rfl)⟩,⟨by simp,fun j hj=>by rw [hB'];(match j,hj with|0,_=>rfl|1,_=>rfl|2,_=>rfl|3,_=>rfl|4,_=>rfl|5,_=>rfl|6,_=>rfl|7,_=>rfl|8,_=>rfl|9,_=>rfl)⟩,⟨by simp,fun j hj=>by rw [hC'];(match j,hj with|0,_=>rfl|1,_=>rfl|2,_=>rfl|3,_=>rfl|4,_=>rfl|5,_=>rfl|6,_=>rfl|7,_=>rfl|8,_=>rfl|9,_=>rfl)⟩,trivial⟩ ⟨⟨by simp,rfl⟩,trivial⟩
end Go.Proofs.YtlnijcffanjieaaGreatDoor
namespace Go.Proofs.YtlnijcffanjieaaGreatDoor
set_option maxRecDepth 100000
open Go Go.Vm
def S0:List TypeId:=[3,5,9,22,24,25,27,28,34,30]
theorem zo3 {g:Gh} {xs:List V} {cs:Array Value} (h:RC g xs cs.toList):RelV g (.agg xs) (.agg cs):=by
 refine .agg (by rw [RC.length h,Array.length_toList]) (fun j x hx=>?_) fun j x v hx hv=>?_
 ·obtain ⟨v,_,hg⟩:=h.get j x hx
  exact hg.1
 ·obtain ⟨v',hv',hg⟩:=h.get j x hx
  rw [Array.getElem?_toList,hv] at hv'
  cases hv'
  exact hg.2.1
theorem zjN {g:Gh}:∀ {xs:List V} {cs:List Value},RC g xs cs→tops xs=0
 | [],[],_=>rfl
 | x::xs,v::cs,h=>by simp [tops,h.1.2.2.1,zjN h.2]
 | [],_::_,h=>h.elim
 | _::_,[],h=>h.elim
end Go.Proofs.YtlnijcffanjieaaGreatDoor
namespace Go.Proofs.YtlnijcffanjieaaGreatDoor
set_option maxRecDepth 100000
open Go Go.Vm
theorem znR {n:Nat} {xs:List V} (h:jg Tryz.prog n 47 xs):∃ A B C nl l,xs=ecells A++(ecells B++(ecells C++[zeG nl l]))∧(GdE A∧Rg A)∧(GdE B∧Rg B)∧(GdE C∧Rg C)∧l.length≤maxLen∧∀ p∈l,zhR p:=by
 cases n with
 | zero=>exact h.elim
 | succ n =>
  simp only [jg,Tryz.underlying47,c47] at h
  obtain ⟨hl,h⟩:=h
  have f0:=h ⟨ "A",27,0,false,"","",0⟩ (by simp)
  have f1:=h ⟨ "B",27,10,false,"","",104⟩ (by simp)
  have f2:=h ⟨ "C",27,20,false,"","",208⟩ (by simp)
  have f3:=h ⟨ "Texts",28,30,false,"","",312⟩ (by simp)
  clear h
  simp only [c27,c28] at f0 f1 f2 f3
  rw [List.drop_zero] at f0
  obtain ⟨A,hA,gA⟩:=typedE n _ f0
  obtain ⟨B,hB,gB⟩:=typedE n _ f1
  obtain ⟨C,hC,gC⟩:=typedE n _ f2
  obtain ⟨x,hx⟩:∃ x,xs.drop 30=[x]:=List.length_eq_one_iff.1 (by simp [hl])
  have e1:(xs.drop 30).take 1=xs.drop 30:=List.take_of_length_le (by simp [hl])
  rw [e1,hx] at f3
  obtain ⟨nl,l,rfl,k1,k2⟩:=znK f3
  rw [qf,V.agg.injEq] at hA hB hC
  refine ⟨A,B,C,nl,l,?_,gA,gB,gC,k1,k2⟩
  have d3:(xs.drop 20).drop 10=xs.drop 30:=by rw [List.drop_drop]
  have d2:(xs.drop 10).drop 10=xs.drop 20:=by rw [List.drop_drop]
  rw [hA,hB,hC,← hx,← d3,List.take_append_drop,← d2,List.take_append_drop,List.take_append_drop]
def S0L:List TypeId:=[3,5,9,22,24,25,27,28,34,47]
theorem closed0L:S0L.all (zc7 Tryz.prog S0L)=true:=by kernel_rfl
theorem zqN (n:Nat) (xs:List V) (h:jg Tryz.prog n 47 xs):∃ k,∀ m,k≤m→zw Tryz.prog gl1 m 4 [.agg xs] ⟨[],[]⟩=some (.ret (.bool true),⟨[],[]⟩):=by
 obtain ⟨A,B,C,nl,l,hxs,gA,gB,gC,hl,htx⟩:=znR h
 exact Sx.Ev.run (xs:=[.agg xs]) (ev4 A B C gA gB gC nl l hl htx xs hxs) ⟨[],[]⟩
end Go.Proofs.YtlnijcffanjieaaGreatDoor
