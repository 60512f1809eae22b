/- The abstract machine Vm: Go data by value, a small heap for variables and maps, an interpreter over the model's own Code. Conditions: none but those named. -/
import GoSem.Step
import Derived.Calls
import Derived.Laws.AppendOwn
import Derived.Laws.OwnMore
import Derived.Laws.MakeOwn
import Derived.Laws.NewBlocks
import Derived.Laws.Rows
import Derived.Deep.Draws
import Derived.Tactics
import Derived.Laws.Cells
import Derived.Laws.Entries
import Derived.Laws.CopyRow
import Derived.Laws.StructEq
import Derived.Laws.Cover3
import Derived.WalkKit
import Derived.Laws.BytesString
import Derived.Laws.RangeString
import Derived.Laws.IdiomStrings
namespace Go
theorem aU:∀{α:Type _}{as bs:List α},List.length (as++bs)=List.length as+List.length bs:=@List.length_append
theorem aT:∀{α:Type _}{β:Type _}(a:α)(f:α->Option β),Option.bind (some a) f=f a:=@Option.bind_some
theorem bh:∀{α:Type _}(as bs cs:List α),as++bs++cs=as++(bs++cs):=@List.append_assoc
theorem aS:∀{α:Type _}{β:Type _}(a:α)(f:α->β),Option.map f (some a)=some (f a):=@Option.map_some
theorem aZ:∀{α:Type _}{a:α}{as:List α},List.length (a::as)=List.length as+1:=@List.length_cons
theorem a_:∀{α:Type _}{a:α}{as bs:List α},a::as++bs=a::(as++bs):=@List.cons_append
theorem br:∀{α:Type _}(val AN:α),(some val=some AN)=(val=AN):=@Option.some.injEq
theorem bg:∀{α:Type _}(as:List α),[]++as=as:=@List.nil_append
theorem aY:∀{α:Type _}{β:Type _}{f:α->β}{a:α}{l:List α},List.map f (a::l)=f a::List.map f l:=@List.map_cons
theorem bp:∀{α:Type _}{β:Type _}{f:α->β},List.map f []=[]:=@List.map_nil
theorem bD:∀{α:Type _}{as:List α}{i:Nat}{a:α},List.length (List.set as i a)=List.length as:=@List.length_set
theorem bS:∀{α:Type _}{x:α}{xs:List α}{a:α},List.set (x::xs) 0 a=a::xs:=@List.set_cons_zero
theorem bT:∀{α:Type _}{x:α}{xs:List α}{i:Nat}{a:α},List.set (x::xs) (i+1) a=x::List.set xs i a:=@List.set_cons_succ
theorem c_:∀{α:Type _}{i:Nat}{a:α}{l:List α},l[i]?=some a↔∃h,l[i]=a:=@List.getElem?_eq_some_iff
theorem cg:∀{α:Type _}{β:Type _}(fst:α)(snd:β)(Ji:α)(Jj:β),((fst,snd)=(Ji,Jj))=(fst=Ji/\snd=Jj):=@Prod.mk.injEq
theorem dR:∀{α:Type _}(y:α){a:α}{l:List α},a∈l->a∈y::l:=@List.mem_cons_of_mem
theorem eG:∀{α:Type _}{b:α}{EK:Type _}{x:Option EK}{f:EK->Option α},Option.bind x f=some b↔∃a,x=some a/\f a=some b:=@Option.bind_eq_some_iff
theorem fE:∀{α:Type _}{l₁ l₂:List α}{i:Nat},List.length l₁<=i->(l₁++l₂)[i]?=l₂[i - List.length l₁]?:=@List.getElem?_append_right
theorem eU:∀{n m:Nat},Nat.beq n m=true->n=m:=@Nat.eq_of_beq_eq_true
theorem cP:∀{n m k:Nat},n<=m->m<=k->n<=k:=@Nat.le_trans
theorem gb:∀{α:Type _}{l₁ l₂:List α}{i:Nat},i<List.length l₁->(l₁++l₂)[i]?=l₁[i]?:=@List.getElem?_append_left
theorem eH:∀{α:Type _}{a:α}{l:List α},a∈a::l:=@List.mem_cons_self
theorem gh:∀{α:Type _}{l:List α}{i:Nat}(h:i<List.length l),l[i]?=some l[i]:=@List.getElem?_eq_getElem
theorem eo:∀(a b:Bool),((a&&b)=true)=(a=true/\b=true):=@Bool.and_eq_true
theorem dH:∀{α:Type _}{b:α}{l:List α}{a:α},a∈b::l↔a=b\/a∈l:=@List.mem_cons
theorem fP:(false=true)=False:=@Bool.false_eq_true
theorem dI:∀(n:Nat),n<=n:=@Nat.le_refl
theorem fQ:∀{α:Type _}{a b:α},Option.getD (some a) b=a:=@Option.getD_some
theorem eg:∀(n:Nat),0<=n:=@Nat.zero_le
theorem eX:∀(n m:Nat),n<m\/n ≥ m:=@Nat.lt_or_ge
theorem gC:∀{α:Type _}{β:Type _}{as:List α}(f:α->β),List.length (List.map f as)=List.length as:=@List.length_map
theorem iY:∀{α:Type _}{β:Type _}{f:α->β}{l:List α}{i:Nat},(List.map f l)[i]?=Option.map f l[i]?:=@List.getElem?_map
theorem m9:∀{α:Type _}{b:α}{EK:Type _}{x:Option EK}{f:EK->α},Option.map f x=some b↔∃a,x=some a/\f a=b:=@Option.map_eq_some_iff
theorem m_:∀{α:Type _}{l:List α}{i:Nat}{a:α},l[i]?=some a->a∈l:=@List.mem_of_getElem?
theorem iN:∀(a:Nat),Nat.beq a a=true:=@Nat.beq_refl
theorem mg:∀{α:Type _}{l:List α},List.drop 0 l=l:=@List.drop_zero
theorem p9:∀{α:Type _}{i:Nat}{l:List α},List.length l<=i->List.take i l=l:=@List.take_of_length_le
theorem mT:∀{α:Type _}(as:List α),as++[]=as:=@List.append_nil
theorem tj:∀{α:Type _}{i:Nat}{b:α}{xs:Array α},xs[i]?=some b↔∃h,xs[i]=b:=@Array.getElem?_eq_some_iff
theorem mh:(!true)=false:=@Bool.not_true
theorem rJ:∀{n m:Nat},Nat.ble n m=true->n<=m:=@Nat.le_of_ble_eq_true
theorem oX:∀{α:Type _}{a b:α},a∈[b]↔a=b:=@List.mem_singleton
theorem mj:∀{α:Type _}{β:Type _}{b:β}{f:α->β}{l:List α},b∈List.map f l↔∃a,a∈l/\f a=b:=@List.mem_map
theorem rW:∀{α:Type _}{l:List α}{i j:Nat},i ≠ j->∀{a:α},(List.set l i a)[j]?=l[j]?:=@List.getElem?_set_ne
theorem oo:(!false)=true:=@Bool.not_false
theorem uc:∀{α:Type _}{l:List α}{i:Nat},List.length l<=i->l[i]?=none:=@List.getElem?_eq_none
theorem uM:∀{α:Type _}{s t:List α}(i:Nat)(x:α),List.length s<=i->List.set (s++t) i x=s++List.set t (i - List.length s) x:=@List.set_append_right
theorem nO:∀(n:Nat),0+n=n:=@Nat.zero_add
theorem nP:∀(n:Nat),n+0=n:=@Nat.add_zero
theorem iU:∀(p:Prop),(True/\p)=p:=@true_and
theorem ud:∀{α:Type _}{a:α}{l:List α}{i:Nat},List.drop (i+1) (a::l)=List.drop i l:=@List.drop_succ_cons
theorem rK:∀{α:Type _}{a:α}{s t:List α},a∈s++t↔a∈s\/a∈t:=@List.mem_append
theorem s4:∀{α:Type _}{l:List α}{i j:Nat}{a:α},(List.set l i a)[j]?=if i=j then if i<List.length l then some a else none else l[j]?:=@List.getElem?_set
theorem pL:∀(n m k:Nat),n+m+k=n+(m+k):=@Nat.add_assoc
theorem uN:∀{α:Type _}{a:α}{as:List α}{i:Nat},List.take (i+1) (a::as)=a::List.take i as:=@List.take_succ_cons
theorem mJ:∀{α:Sort _}(a b:α),(bif true then a else b)=a:=@cond_true
theorem uO:∀{n m k:Nat},n<m->m<=k->n<k:=@Nat.lt_of_lt_of_le
theorem An:∀{α:Type _}{xs:Array α},List.length (Array.toList xs)=Array.size xs:=@Array.length_toList
theorem ue:(¬False)=True:=@not_false_eq_true
theorem AO:∀{α:Type _}{a:α}{as:List α}(bs:List α),a∈as->a∈as++bs:=@List.mem_append_left
theorem BH:∀{α:Type _}(i:Nat)(l:List α),List.take i l++List.drop i l=l:=@List.take_append_drop
theorem B7:∀{α:Type _}{l:List α}{i:Nat}{a:α},i<List.length l->(List.set l i a)[i]?=some a:=@List.getElem?_set_self
theorem Ao:∀{α:Type _}{l:List α}{i j:Nat},(List.take i l)[j]?=if j<i then l[j]? else none:=@List.getElem?_take
theorem uP:∀(n:Nat),Int.toNat ↑n=n:=@Int.toNat_natCast
theorem uf:∀{α:Type _}{i:Nat}{l:List α},List.length (List.take i l)=min i (List.length l):=@List.length_take
theorem tn:∀(a b:Bool),((a||b)=true)=(a=true\/b=true):=@Bool.or_eq_true
theorem oq:∀{α:Sort _}(a b:α),(bif false then a else b)=b:=@cond_false
theorem Eh:∀{α:Type _}{xs:Array α}{i:Nat}(h:i<Array.size xs),xs[i]?=some xs[i]:=@Array.getElem?_eq_getElem
theorem B8:∀{α:Type _}{a:α}{i:Nat}{l:List α},a∈List.drop i l->a∈l:=@List.mem_of_mem_drop
theorem B9:∀{α:Type _}{i:Nat}{a:α}{l:List α},a∈List.take i l->a∈l:=@List.mem_of_mem_take
theorem C2:∀{α:Type _}{b:α}(as:List α){bs:List α},b∈bs->b∈as++bs:=@List.mem_append_right
theorem Ap:∀{α:Type _}{a:α},¬a∈[]:=@List.not_mem_nil
theorem s5:∀(b:Bool),(true&&b)=b:=@Bool.true_and
theorem EL:∀{α:Type _}{i:Nat}{l:List α}(h:i<List.length l),List.drop i l=l[i]::List.drop (i+1) l:=@List.drop_eq_getElem_cons
theorem Aq:∀{α:Type _}(head:α)(tail:List α)(EM:α)(EN:List α),(head::tail=EM::EN)=(head=EM/\tail=EN):=@List.cons.injEq
theorem He:∀{α:Type _}{l:List α},List.length l=0->l=[]:=@List.eq_nil_of_length_eq_zero
theorem Ar:∀(x y i:Nat),Nat.testBit (x||| y) i=(Nat.testBit x i||Nat.testBit y i):=@Nat.testBit_or
theorem As:∀{α:Type _}{l:List α},List.take 0 l=[]:=@List.take_zero
theorem uQ:∀(b:Bool),(false||b)=b:=@Bool.false_or
theorem B_:∀{α:Type _}{p:α->Bool}{l:List α},List.all l p=true↔∀(x:α),x∈l->p x=true:=@List.all_eq_true
theorem tq:∀(n m k:Nat),(n+m) * k=n * k+m * k:=@Nat.add_mul
theorem EO:∀{α:Type _}{xs:Array α}{i:Nat},(Array.toList xs)[i]?=xs[i]?:=@Array.getElem?_toList
theorem DE:∀{α:Type _}{β:Type _}{x:α}{xs:List α}{f:α->List β},List.flatMap f (x::xs)=f x++List.flatMap f xs:=@List.flatMap_cons
theorem tu:∀{a b c:Nat},max a b<=c↔a<=c/\b<=c:=@Nat.max_le
theorem Ca:∀{m n:Nat},m∈List.range n↔m<n:=@List.mem_range
theorem EP:∀{n m:Nat},Nat.testBit (2 ^ n) m=decide (n=m):=@Nat.testBit_two_pow
theorem DF:∀{α:Type _}{l:List α},List.take (List.length l) l=l:=@List.take_length
theorem Gp:∀{α:Type _}{s t:List α}(i:Nat)(x:α),i<List.length s->List.set (s++t) i x=List.set s i x++t:=@List.set_append_left
theorem DG:∀(a b:Nat),a<=max a b:=@Nat.le_max_left
theorem DH:∀{α:Type _}{val AN:α},some val=some AN->val=AN:=@Option.some.inj
theorem ER:∀{α:Type _}{l₁ l₂:List α},(∀(i:Nat),l₁[i]?=l₂[i]?)->l₁=l₂:=@List.ext_getElem?
theorem Cb:∀(n:Nat),n - n=0:=@Nat.sub_self
theorem Hf:∀{a m n:Nat},1<a->m<n->a ^ m<a ^ n:=@Nat.pow_lt_pow_right
theorem ES:∀{a b:Nat},a<b->a % b=a:=@Nat.mod_eq_of_lt
theorem Hg:∀{α:Type _}{β:Type _}{l:List α}{a:α}{f:α->β},a∈l->f a∈List.map f l:=@List.mem_map_of_mem
theorem Hh:∀{α:Type _}{a:α}{n:Nat},List.replicate (n+1) a=a::List.replicate n a:=@List.replicate_succ
theorem Hj:∀{i n:Nat},i<n->(List.range n)[i]?=some i:=@List.getElem?_range
theorem Gq:∀(b:Bool),((!b)=true)=(b=false):=@Bool.not_eq_true'
theorem Jk:∀{α:Type _}{a:α},List.length [a]=1:=@List.length_singleton
theorem ET:∀{a b:Bool},a=b↔(a=true↔b=true):=@Bool.eq_iff_iff
theorem Hl:∀{α:Type _}{xs:List α}{i j:Nat},(List.drop i xs)[j]?=xs[i+j]?:=@List.getElem?_drop
theorem KG:∀{α:Type _}{a:α}{l:List α},(a::l)[0]?=some a:=@List.getElem?_cons_zero
theorem Nf:∀{α:Type _}{l:List α}{i:Nat}{a:α},List.getD l i a=Option.getD l[i]? a:=@List.getD_eq_getElem?_getD
theorem EU:∀(b:Bool),(false&&b)=false:=@Bool.false_and
theorem uR:∀(p:Prop),(p\/False)=p:=@or_false
theorem KH:∀{n m:Nat},n<=m->Nat.ble n m=true:=@Nat.ble_eq_true_of_le
theorem Ho:∀(a b:Nat),b<=max a b:=@Nat.le_max_right
theorem At:∀(p:Prop),(p/\True)=p:=@and_true
theorem Jl:∀(n:Nat),n=0\/n > 0:=@Nat.eq_zero_or_pos
theorem Hq:∀(n:Nat),n<Nat.succ n:=@Nat.lt_succ_self
theorem KI:∀{n m:Nat}(k:Nat),n<=m->n * k<=m * k:=@Nat.mul_le_mul_right
theorem KJ:∀{x y:Bool},(x||y)=false↔x=false/\y=false:=@Bool.or_eq_false_iff
theorem Ng:∀(n m:Nat),n+m - n=m:=@Nat.add_sub_cancel_left
theorem Nh:∀{α:Type _}{l:List α},List.length l=0↔l=[]:=@List.length_eq_zero_iff
theorem Jm:∀{x y n:Nat},x<2 ^ n->y<2 ^ n->x||| y<2 ^ n:=@Nat.or_lt_two_pow
theorem KK:∀{α:Type _}{l:List α},0<List.length l↔l ≠ []:=@List.length_pos_iff
theorem Ni:∀{x i:Nat},x<2 ^ i->Nat.testBit x i=false:=@Nat.testBit_lt_two_pow
theorem Jn:∀(b:Bool),(¬b=true)=(b=false):=@Bool.not_eq_true
theorem KL:∀{n m k:Nat},n<=m->m<k->n<k:=@Nat.lt_of_le_of_lt
theorem KM:∀{n m:Nat},n<=m->n<=Nat.succ m:=@Nat.le_succ_of_le
theorem Hr:∀(n m:Nat),Nat.succ n * m=n * m+m:=@Nat.succ_mul
theorem Jo:∀(n m:Nat),n+m=m+n:=@Nat.add_comm
theorem OF:(true=false)=False:=@Bool.true_eq_false
theorem Jp:∀(n:Nat),n * 1=n:=@Nat.mul_one
end Go
namespace Go.Vm
open Go
section
theorem aF{α:Sort _}{h:Decidable True}(t e:α):@ite α True h t e=t:=if_true ..
theorem bw{α:Sort _}{h:Decidable False}(t e:α):@ite α False h t e=e:=if_false ..
inductive ug where
 |no|yes (e:TypeId)|lock
 deriving DecidableEq,Inhabited
inductive V where
 |bool (b:Bool)
 |int (k:IntKind) (n:Int)
 |str (s:List Nat)
 |fR|ptr (b off:Nat)|fq (g off:Nat)|obj (k:Nat)|vp (cs:List V)
 |aG|sl (sz:Nat) (xs:List V) (o:ug)|sr (b off len cap:Nat)
 |mo|map (b:Nat)
 |oY|fn (f:Fn) (first cap:List V)
 |bM|ec (t:TypeId) (v:V)
 |dD (b u len:Nat)|gj (b u k:Nat)
 |agg (cs:List V)
 |bq (vs:List V)
 |dW
 deriving Inhabited
abbrev aN:=List (Nat×Nat)
abbrev bO:=List (V×List V)
abbrev oZ:=Option (Nat×Bool)
abbrev dx:=List Value
abbrev dN:=Array Value
abbrev rL:=Array Operand
abbrev bY:=List Tmp
abbrev fH:=Option Tmp
abbrev aD:=List V
abbrev bX:=Option V
abbrev bN:=List Nat
abbrev aB:=TypeId
abbrev aQ:=Program
abbrev aP:=World
abbrev bt:=Value
abbrev aX:=Operand
def dz:V->Bool
 | .bq _|.dW=>false
 | _=>true
def V.cells:V->aD
 | .agg cs=>cs
 | v=>[v]
def aW:V->V
 | .sl sz xs _=>.sl sz xs .no
 | v=>v
def V.laid:V->aD
 | .agg cs=>cs.map aW
 | v=>[v]
mutual
def V.top:V->Nat
 | .ptr b _|.sr b _ _ _|.map b=>b+1
 | .dD b _ _|.gj b _ _=>b+1
 | .vp cs|.sl _ cs _|.agg cs|.bq cs=>aI cs
 | .fn _ a c=>max (aI a) (aI c)
 | .ec _ v=>v.top
 | _=>0
def aI:aD->Nat
 | []=>0
 | v::vs=>max v.top (aI vs)
end
def nth{α:Type}:List α->Nat->Option α
 | [],_=>none
 | x::_,0=>some x
 | _::xs,n+1=>nth xs n
def wL{β:Type}(n:Nat)(k:Nat->β):β :=
 match n with
 | 0=>k 0
 | m+1=>k (m+1)
def Ve{β:Type}(n:Int)(k:Int->β):β :=
 match n with
 | .ofNat m=>wL m λm=>k (.ofNat m)
 | .negSucc m=>wL m λm=>k (.negSucc m)
def SA{β:Type}:bN->(bN->β)->β
 | [],k=>k []
 | x::xs,k=>wL x λx=>SA xs λys=>k (x::ys)
def fL{α β:Type}:List α->(List α->β)->β
 | [],k=>k []
 | x::xs,k=>fL xs λys=>k (x::ys)
def fC{β:Type}(v:V)(k:V->β):β :=
 match v with
 | .bool true=>k (.bool true)
 | .bool false=>k (.bool false)
 | .int kd n=>Ve n λn=>k (.int kd n)
 | .str s=>SA s λs=>k (.str s)
 | .ptr b o=>wL b λb=>wL o λo=>k (.ptr b o)
 | .sr b o n c=>wL b λb=>wL o λo=>wL n λn=>wL c λc=>k (.sr b o n c)
 | .map b=>wL b λb=>k (.map b)
 | .dD b u n=>wL b λb=>wL u λu=>wL n λn=>k (.dD b u n)
 | .gj b u j=>wL b λb=>wL u λu=>wL j λj=>k (.gj b u j)
 | .sl sz xs o=>fL xs λxs=>k (.sl sz xs o)
 | .vp cs=>fL cs λcs=>k (.vp cs)
 | v=>k v
def AP{β:Type}:aD->(aD->β)->β
 | [],k=>k []
 | x::xs,k=>fC x λx=>AP xs λys=>k (x::ys)
def fV{β:Type}(v:V)(k:V->β):β :=
 match v with
 | .agg cs=>AP cs λcs=>k (.agg cs)
 | .bq cs=>AP cs λcs=>k (.bq cs)
 | .fn f a c=>AP a λa=>AP c λc=>k (.fn f a c)
 | v=>fC v k
def Jq{α β:Type}:List α->Nat->α->(List α->β)->β
 | [],_,_,k=>k []
 | _::xs,0,v,k=>k (v::xs)
 | x::xs,n+1,v,k=>Jq xs n v λys=>k (x::ys)
inductive aV where
 |cells (cs:aD) (t:aB)
 |map (es:List (V×V))
 |iter (s:bN) (pos:Nat)
 |ul (eI sz:Nat) (cs:aD) (e:aB)
 deriving Inhabited
structure Hp where
 az:List aV
 bG:aN
 deriving Inhabited
def Hp.push(H:Hp)(b:aV):Hp:={ H with az:=H.az++[b] }
def Hp.get(H:Hp)(b:Nat):Option aV:=nth H.az b
def Hp.set(H:Hp)(b:Nat)(x:aV):Hp:={ H with az:=H.az.set b x }
def Hp.bQ(H:Hp)(b:Nat)(v:V):Hp:=if v.top<=b+1 then H else { H with bG:=(b,v.top)::H.bG }
inductive Out where
 |ret (v:V)
 |pM (v:V)
inductive Ex where
 |normal|exit (id:Nat)|goto (l:Nat)|ret|pM (v:V)
inductive OR where
 |val (v:V)
 |skip
 |pM (v:V)
def Cc:V->Bool
 | .agg _|.bq _|.dW=>false
 | _=>true
mutual
def aj:bt->bX
 | .bool b=>some (.bool b)
 | .int k n=>some (.int k n)
 | .string s=>some (.str (s.data.toList.map UInt8.toNat))
 | .pointer none=>some .fR
 | .slice none 0 0=>some .aG
 | .map none=>some .mo
 | .nilFunc=>some .oY
 | .func f ⟨[]⟩ ⟨[]⟩=>some (.fn f [] [])
 | .nilIface=>some .bM
 | .agg ⟨cs⟩=>(ni cs).bind λl=>if l.all Cc then some (.agg l) else none
 | .tuple ⟨[]⟩=>some (.bq [])
 | _=>none
def ni:dx->Option aD
 | []=>some []
 | v::vs=>match aj v,ni vs with
  | some x,some xs=>some (x::xs)
  | _,_=>none
end
section
variable(P:aQ)
def z4(t:aB):Option Nat:=(P.info? t).map (·.size)
def qD(t:aB):Option Bool:=(P.underlying t).map λ|.struct _|.array _ _=>true|_=>false
def qQ(t:aB):bX:=(P.info? t).bind λi=>i.zero.bind aj
def wd(t:aB)(cs:aD)(off:Nat):bX:=do
 if <- qD P t then
  let n <- z4 P t
  if off+n<=cs.length then some (.agg ((cs.drop off).take n)) else none
 else nth cs off
def xV(isAgg:Bool)(sz:Nat):Nat->aD->aD
 | 0,_=>[]
 | n+1,cs=>(if isAgg then .agg (cs.take sz) else cs.headD .dW)::xV isAgg sz n (cs.drop sz)
def ww(H:Hp)(elem:aB):V->Option aD
 | .aG=>some []
 | .sl sz xs _=>do
  let n <- z4 P elem
  if n=sz then some xs else none
 | .sr b off len _=>do
  let .cells cs _ <- H.get b|none
  let n <- z4 P elem
  let ag <- qD P elem
  if Nat.ble (off+len * n) cs.length && (ag || Nat.beq n 1) then some (xV ag n len ((cs.drop off).map aW)) else none
 | _=>none
def nj:aD->Option bN
 | []=>some []
 | .int .u8 n::r=>(nj r).map ((n.toNat % 256)::·)
 | _=>none
def nQ:bN->bN->Bool
 | [],[]=>true
 | a::x,b::y=>Nat.beq a b && nQ x y
 | _,_=>false
def KN:bN->bN->Bool
 | _,[]=>false
 | [],_::_=>true
 | a::x,b::y=>Nat.blt a b || (Nat.beq a b && KN x y)
def OG(eq:aB->V->V->Option Bool):List Field->aD->aD->Option Bool
 | [],_,_=>some true
 | f::fs,xs,ys =>
  if f.name= "_" then none else do
   let a <- wd P f.type xs f.offset
   let b <- wd P f.type ys f.offset
   if <- eq f.type a b then OG eq fs xs ys else some false
def Nj(eq:aB->V->V->Option Bool)(e:aB)(n:Nat)(xs ys:aD):Nat->Nat->Option Bool
 | _,0=>some true
 | i,k+1=>do
  let a <- wd P e xs (i * n)
  let b <- wd P e ys (i * n)
  if <- eq e a b then Nj eq e n xs ys (i+1) k else some false
def KO(ds:TypeDesc)(x y:V):Option Bool :=
 match ds with
 | .bool=>match x,y with
  | .bool a,.bool b=>some (a == b)
  | _,_=>none
 | .int _=>match x,y with
  | .int k a,.int k' b=>if k=k' then some (a == b) else none
  | _,_=>none
 | .string=>match x,y with
  | .str a,.str b=>some (nQ a b)
  | _,_=>none
 | .pointer _=>match x,y with
  | .fR,.fR=>some true
  | .fR,.ptr _ _=>some false
  | .ptr _ _,.fR=>some false
  | .fR,.obj _=>some false
  | .obj _,.fR=>some false
  | _,_=>none
 | .interface _=>match x,y with
  | .bM,.bM=>some true
  | .bM,.ec _ _=>some false
  | .ec _ _,.bM=>some false
  | .ec tx _,.ec ty _=>if tx=ty then none else some false
  | _,_=>none
 | .slice _=>match x,y with
  | .aG,.aG=>some true
  | .aG,.sl _ (_::_) _=>some false
  | .sl _ (_::_) _,.aG=>some false
  | .aG,.sr _ _ _ _=>some false
  | .sr _ _ _ _,.aG=>some false
  | _,_=>none
 | .map _ _=>match x,y with
  | .mo,.mo=>some true
  | .mo,.map _=>some false
  | .map _,.mo=>some false
  | _,_=>none
 | .func _ _ _=>match x,y with
  | .oY,.oY=>some true
  | .oY,.fn _ _ _=>some false
  | .fn _ _ _,.oY=>some false
  | _,_=>none
 | _=>none
def AQ:Nat->aB->V->V->Option Bool
 | 0,_,_,_=>none
 | d+1,t,x,y=>match P.underlying t with
  | none=>none
  | some ds=>match x,y with
   | .agg xs,.agg ys=>match ds with
    | .struct fs=>if P.stoodInHeld t then none else OG P (AQ d) fs.toList xs ys
    | .array len e=>match z4 P e with
     | some n=>Nj P (AQ d) e n xs ys 0 len
     | none=>none
    | _=>none
   | x,y=>KO ds x y
def isConst:aX->Bool
 | .const _=>true
 | _=>false
def v6(t:aB)(x y:aX)(u v:V):Bool :=
 match u,v with
 | .bM,.bM=>isConst x || isConst y
 | .agg _,.agg _=>!P.eqGuardType P.depth t
 | .dW,_=>false
 | _,.dW=>false
 | _,_=>true
def jt(op:BinOp)(t:aB)(x y:aX)(u v:V):Bool :=
 match op with
 | .eql=>v6 P t x y u v
 | .neq=>v6 P t x y u v
 | _=>true
def KP(op:BinOp)(k:IntKind)(x y:Int):bX :=
 if y<0 then none else
 let n:=min y.toNat k.bits
 match op with
 | .shl=>some (.int k (k.wrap (x * 2 ^ n)))
 | .shr=>some (.int k (x.fdiv (2 ^ n)))
 | _=>none
def j3(op:BinOp)(k:IntKind)(x y:Int):bX :=
 match op with
 | .add=>some (.int k (k.wrap (x+y)))
 | .sub=>some (.int k (k.wrap (x - y)))
 | .mul=>some (.int k (k.wrap (x * y)))
 | .quo=>if y=0 then none else some (.int k (k.wrap (x.tdiv y)))
 | .rem=>if y=0 then none else some (.int k (x.tmod y))
 | .and=>some (.int k (k.wrap ((BitVec.ofInt k.bits x &&& BitVec.ofInt k.bits y).toNat)))
 | .or=>some (.int k (k.wrap ((BitVec.ofInt k.bits x ||| BitVec.ofInt k.bits y).toNat)))
 | .xor=>some (.int k (k.wrap ((BitVec.ofInt k.bits x ^^^ BitVec.ofInt k.bits y).toNat)))
 | .andNot=>some (.int k (k.wrap ((BitVec.ofInt k.bits x &&& ~~~ (BitVec.ofInt k.bits y)).toNat)))
 | .eql=>some (.bool (x == y))
 | .neq=>some (.bool (x != y))
 | .lss=>some (.bool (x<y))
 | .leq=>some (.bool (x<=y))
 | .gtr=>some (.bool (x > y))
 | .geq=>some (.bool (x ≥ y))
 | _=>none
def OH(op:BinOp)(x y:bN):bX :=
 match op with
 | .add=>if x.length+y.length<=140737488355328 then some (.str (x++y)) else none
 | .eql=>some (.bool (nQ x y))
 | .neq=>some (.bool !(nQ x y))
 | .lss=>some (.bool (KN x y))
 | .leq=>some (.bool (KN x y || nQ x y))
 | .gtr=>some (.bool !(KN x y || nQ x y))
 | .geq=>some (.bool !(KN x y))
 | _=>none
def w7(op:BinOp)(t:aB)(x y:V):bX :=
 match op,x,y with
 | .shl,.int k a,.int _ b|.shr,.int k a,.int _ b=>KP op k a b
 | _,.int k a,.int k' b=>if k=k' then j3 op k a b else none
 | _,.str a,.str b=>OH op a b
 | .eql,x,y=>(AQ P 100 t x y).map .bool
 | .neq,x,y=>(AQ P 100 t x y).map λb=>.bool !b
 | _,_,_=>none
def iz(op:UnOp)(x:V):bX :=
 match op,x with
 | .neg,.int k n=>some (.int k (k.wrap (0 - n)))
 | .xor,.int k n=>j3 .xor k (if k.signed then -1 else k.max) n
 | .not,.bool b=>some (.bool !b)
 | _,_=>none
def vz(src dst:aB)(x:V):bX:=do
 match <- P.underlying src,<- P.underlying dst,x with
 | _,.int k,.int _ n=>some (.int k (k.wrap n))
 | _,.string,.int _ n=>some (.str ((Utf8.encode n).data.toList.map UInt8.toNat))
 | _,.string,.str s=>some (.str s)
 | .slice e,.string,.aG=>do
  let .int .u8 <- P.underlying e|none
  some (.str [])
 | .slice e,.string,.sl 1 xs _=>do
  let .int .u8 <- P.underlying e|none
  (nj xs).map .str
 | .string,.slice e,.str s=>do
  let .int .u8 <- P.underlying e|none
  some (.sl 1 (s.map λ(b:Nat)=>.int .u8 b) .no)
 | _,_,_=>none
def j8(v:bX)(d:Nat):Option Nat :=
 match v with
 | none=>some d
 | some (.int _ n)=>if 0<=n then some n.toNat else none
 | _=>none
def yW(t:aB)(x:V)(lo hi:bX):bX:=do
 match <- P.underlying t,x with
 | .string,.str s=>do
  let h <- j8 hi s.length
  let l <- j8 lo 0
  if l<=h/\h<=s.length then some (.str ((s.take h).drop l)) else none
 | .slice e,.sl sz xs _=>do
  let h <- j8 hi xs.length
  let l <- j8 lo 0
  let n <- z4 P e
  if l<=h/\h<=xs.length/\n=sz then some (.sl sz ((xs.take h).drop l) .no) else none
 | .slice e,.aG=>do
  let h <- j8 hi 0
  let l <- j8 lo 0
  let _ <- z4 P e
  if l=0/\h=0 then some .aG else none
 | .slice e,.sr b off len cap=>do
  let h <- j8 hi len
  let l <- j8 lo 0
  let n <- z4 P e
  if l<=h/\h<=cap/\l<cap then some (.sr b (off+l * n) (h - l) (cap - l)) else
  if l=h/\h<=cap then some (.sl n [] .no) else none
 | _,_=>none
def zk(H:Hp)(gl:Nat->Nat->bX)(t:aB)(a:V):bX:=do
 match a with
 | .ptr b off=>do
  let .cells cs _ <- H.get b|none
  wd P t cs off
 | .vp cs=>wd P t cs 0
 | .gj b u k=>do
  let .ul eI _ cs _ <- H.get b|none
  if Nat.beq eI u then wd P t cs k else none
 | .fq g off=>if <- qD P t then none else gl g off
 | _=>none
def Jr(a b:V):Option Bool :=
 match a,b with
 | .int k x,.int k' y=>if k=k' then some (x == y) else none
 | .str x,.str y=>some (nQ x y)
 | .bool x,.bool y=>some (x == y)
 | _,_=>none
def v8(ds:TypeDesc)(k:V):Bool :=
 match ds,k with
 | .int _,.int _ _=>true
 | .string,.str _=>true
 | .bool,.bool _=>true
 | _,_=>false
def Js(k:V):List (V×V)->Option bX
 | []=>some none
 | (a,v)::r=>match Jr k a with
  | some true=>some (some v)
  | some false=>Js k r
  | none=>none
def Hs(k x:V):List (V×V)->Option (List (V×V))
 | []=>some [(k,x)]
 | (a,v)::r=>match Jr k a with
  | some true=>some ((k,x)::r)
  | some false=>(Hs k x r).map ((a,v)::·)
  | none=>none
def Ht(l:bN):Nat×Nat :=
 let at' (k:Nat):Nat:=l.getD k 0
 let cont (k:Nat):Bool:=Nat.blt k l.length && Nat.beq (at' k / 64) 2
 let b0:=at' 0
 if b0<0x80 then (b0,1)
 else if b0 / 32 == 6 && cont 1 then
  let c:=(b0 % 32) * 64+at' 1 % 64
  if c ≥ 0x80 then (c,2) else (Utf8.runeError,1)
 else if b0 / 16 == 14 && cont 1 && cont 2 then
  let c:=(b0 % 16) * 4096+(at' 1 % 64) * 64+at' 2 % 64
  if c ≥ 0x800 && Utf8.valid c then (c,3) else (Utf8.runeError,1)
 else if b0 / 8 == 30 && cont 1 && cont 2 && cont 3 then
  let c:=(b0 % 8) * 262144+(at' 1 % 64) * 4096+(at' 2 % 64) * 64+at' 3 % 64
  if c ≥ 0x10000 && Utf8.valid c then (c,4) else (Utf8.runeError,1)
 else (Utf8.runeError,1)
def Vf(t:aB)(v:V)(name:String):Option (FuncId×V):=do
 let i <- P.info? t
 let m <- i.methods.find? (·.name == name)
 if !m.path.isEmpty then none else
 let (f,pr) <- m.func
 match <- P.underlying t,pr with
 | .pointer _,true=>some (f,v)
 | .pointer _,false=>none
 | _,true=>none
 | _,false=>some (f,v)
def storeCells{α:Type}(cs:List α)(off:Nat):List α->List α
 | []=>cs
 | v::vs=>storeCells (cs.set off v) (off+1) vs
def locked:V->Bool
 | .sl _ _ .lock=>true
 | _=>false
def Vg(name:String)(args:aD):bX :=
 match name,args with
 | "internal/bytealg.IndexByteString",[.str s,.int .u8 c]=>if 0<=c/\c<256 then some (.int .i64 (match s.findIdx? (λ(b:Nat)=>Nat.beq b c.toNat) with|some i=>i|none=>-1)) else none
 | _,_=>none
end
def DI:List Oper->bY
 | [a,b]=>match a.dst,b.dst,b.op with
  | some k,some r,.assign (.tmp x)=>match Nat.beq k 19 && Nat.beq x 19 && Nat.beq r 2 with
   | true=>[k]
   | false=>[]
  | _,_,_=>[]
 | _=>[]
def DJ:List Oper->bY
 | [a,b,c]=>match a.dst,a.op,b.dst,b.op,c.op with
  | some k,.load _ _,some r,.slice _ (.tmp x) (some _) none none,.store _ _ (.tmp y)=>match Nat.beq k x && Nat.beq r y with
   | true=>[k,1048576+k]
   | false=>[]
  | _,_,_,_,_=>[]
 | _=>[]
def jN(ops:Array Oper):bY :=
 (ops.toList.filterMap λo=>match o.op with
  | .call { callee:=.builtin .append,args,.. }=>match (args[0]?:Option aX) with
   | some (.tmp t)=>some t
   | _=>none
  | _=>none)++DI ops.toList++DJ ops.toList
structure Cx where
 P:aQ
 gl:Nat->Nat->bX
 call:FuncId->aD->Hp->Option (Out×Hp)
 uq:aB->Bool
def ak(env:aD):aX->bX
 | .tmp t=>match nth env t with
  | some v=>some (aW v)
  | none=>none
 | .const v=>aj v
 | .global g=>some (.fq g 0)
 | .func f=>some (.fn (.func f) [] [])
def cU(env:aD):Option aX->Option bX
 | none=>some none
 | some x=>match ak env x with
  | some v=>some (some v)
  | none=>none
def take(env:aD):aX->Option (V×aD)
 | .tmp t=>match nth env t with
  | some (.sl sz xs (.yes e))=>Jq env t (.sl sz xs .no) λenv=>some (.sl sz xs (.yes e),env)
  | some v=>some (aW v,env)
  | none=>none
 | x=>(ak env x).map (·,env)
def av(env:aD):List aX->Option aD
 | []=>some []
 | x::xs=>match ak env x with
  | none=>none
  | some v=>fV v λv=>match av env xs with
   | none=>none
   | some vs=>some (v::vs)
structure St where
 env:aD
 H:Hp
 lk:aN
 defers:bO
def xW{β:Type}(H:Hp)(b:aV)(k:Nat->Hp->β):β :=
 match H with
 | ⟨bs,es⟩=>wL bs.length λn=>fL (bs++[b]) λbs=>k n ⟨bs,es⟩
def EV{β:Type}(H:Hp)(b:Nat)(x:aV)(v:V)(k:Hp->β):β :=
 match H with
 | ⟨bs,es⟩=>Jq bs b x λbs=>if v.top<=b+1 then k ⟨bs,es⟩ else wL v.top λt=>k ⟨bs,(b,t)::es⟩
def Hu:Out×Hp->OR×Hp
 | (.ret v,H)=>(.val v,H)
 | (.pM v,H)=>(.pM v,H)
def Cx.bC(cx:Cx)(f:FuncId)(args:aD)(H:Hp):Option (OR×Hp) :=
 match cx.P.funcs[f]? with
 | none=>none
 | some fn=>match fn.body with
  | none=>match Vg fn.name args with
   | none=>none
   | some v=>some (.val v,H)
  | some _=>match cx.call f args H with
   | none=>none
   | some r=>some (Hu r)
def Cx.mq(cx:Cx)(fv:V)(args:aD)(H:Hp):Option (OR×Hp) :=
 match fv with
 | .fn (.func f) first cap=>fL ((first++args++cap).map aW) λargs=>cx.bC f args H
 | .fn (.method name) first _ =>
  match first++args with
  | .ec t v::rest=>match Vf cx.P t v name with
   | none=>none
   | some (f,r)=>fL ((r::rest).map aW) λargs=>cx.bC f args H
  | _=>none
 | _=>none
def kx(n bytes:Nat):Bool:=Nat.ble n 140737488355328 && Nat.ble (n * bytes) 140737488355328
def j9(P:aQ)(H:Hp)(t:aB)(v y:V):bX:=do
 let .slice e <- P.underlying t|none
 let n <- z4 P e
 let i <- P.info? e
 let z <- i.zero
 if !Nat.beq z.cells.size n then none else
 let ys <- ww P H e y
 match v with
 | .aG=>match ys with
  | []=>some .aG
  | ys=>if kx ys.length i.bytes && !Nat.beq n 0 then some (.sl n ys (.yes e)) else none
 | .sl sz xs (.yes e')=>if Nat.beq e e' && Nat.beq n sz && !Nat.beq n 0 && kx (xs.length+ys.length) i.bytes then some (.sl n (xs++ys) (.yes e)) else none
 | _=>none
def jb(P:aQ)(H:Hp)(t:aB)(v:V):Option Int :=
 match P.underlying t,v with
 | some .string,.str l=>some l.length
 | some (.slice _),.aG=>some 0
 | some (.slice _),.sl _ xs _=>some xs.length
 | some (.slice _),.sr _ _ n _=>some n
 | some (.slice _),.dD _ _ n=>some n
 | some (.map _ _),.mo=>some 0
 | some (.map _ _),.map b=>match H.get b with
  | some (.map es)=>some es.length
  | _=>none
 | _,_=>none
def Cx.builtin(cx:Cx)(b:Builtin)(argTypes:Array aB)(args:rL)(env:aD)(H:Hp):Option (OR×aD) :=
 match b,args.toList,argTypes.toList with
 | .len,[x],[t]=>do some (.val (.int .i64 (<- jb cx.P H t (<- ak env x))),env)
 | .append,[x,y],[t,u]=>do
  if !Nat.beq t u then none else
  let y <- ak env y
  let (v,env) <- take env x
  some (.val (<- j9 cx.P H t v y),env)
 | .min,[x,y],_=>do
  match <- ak env x,<- ak env y with
  | .int k a,.int _ b=>some (.val (.int k (if b<a then b else a)),env)
  | _,_=>none
 | .max,[x,y],_=>do
  match <- ak env x,<- ak env y with
  | .int k a,.int _ b=>some (.val (.int k (if b > a then b else a)),env)
  | _,_=>none
 | _,_,_=>none
def xO(cells:aD)(place:Nat->Option (Nat×Nat))(env:aD):List (Nat×aX)->Option aD
 | []=>some cells
 | (i,x)::r=>do
  let v <- ak env x
  let (off,n) <- place i
  if dz v && Nat.beq v.cells.length n && Nat.ble (off+n) cells.length then xO (storeCells cells off v.cells) place env r else none
def SB(P:aQ)(fs:Array Field):Option aN:=fs.toList.mapM (λf=>(P.info? f.type).map λi=>(f.offset,i.size))
def ky(P:aQ)(t:aB)(parts:Array (Nat×aX))(env:aD):bX :=
 match qQ P t with
 | none=>none
 | some z=>if !dz z then none else match P.underlying t with
  | some (.struct fs)=>match SB P fs with
   | some ps=>(xO z.cells (nth ps) env parts.toList).map .agg
   | none=>none
  | some (.array _ e)=>match P.info? e with
   | some ie=>(xO z.cells (λi=>some (i * ie.size,ie.size)) env parts.toList).map .agg
   | none=>none
  | _=>none
def Ei(n len:Nat)(env:aD):aD->List (Nat×aX)->Option aD
 | xs,[]=>some xs
 | xs,(i,x)::r=>do
  let v <- ak env x
  if dz v && Nat.beq v.cells.length n && Nat.blt i len then fV v λv=>Jq xs i v λxs=>Ei n len env xs r else none
def Nk(P:aQ)(t:aB)(k:V):Bool :=
 match P.underlying t with
 | some (.map kt _)=>match P.underlying kt with
  | some kd=>v8 kd k
  | none=>false
 | _=>false
def zt(P:aQ)(t:aB)(x:V)(i:Int):bX :=
 match P.underlying t with
 | some (.array len e)=>match z4 P e with
  | none=>none
  | some n=>match x with
   | .ptr b off=>if 0<=i/\i<len then some (.ptr b (off+i.toNat * n)) else none
   | .fq g off=>if 0<=i/\i<len then some (.fq g (off+i.toNat * n)) else none
   | .gj b u k=>if 0<=i/\i<len then some (.gj b u (k+i.toNat * n)) else none
   | .vp cs=>if 0<=i/\i<len then some (.vp (cs.drop (i.toNat * n))) else none
   | _=>none
 | some (.slice e)=>match z4 P e with
  | none=>none
  | some n=>match x with
   | .sl sz xs _=>if Nat.beq n sz then (if i<0 then none else match nth xs i.toNat with
    | some x=>some (.vp x.cells)
    | none=>none) else none
   | .sr b off len _=>if 0<=i/\i<len then some (.ptr b (off+i.toNat * n)) else none
   | .dD b u len=>if 0<=i/\i<len then some (.gj b u (i.toNat * n)) else none
   | _=>none
 | _=>none
def OI(P:aQ)(t:aB)(x:V)(i:Int):bX :=
 match P.underlying t with
 | some (.array len e)=>match z4 P e with
  | none=>none
  | some n=>match x with
   | .agg cs=>if 0<=i/\i<len then (wd P e cs (i.toNat * n)).map aW else none
   | _=>none
 | some .string=>match x with
  | .str l=>if i<0 then none else match nth l i.toNat with
   | some b=>some (.int .u8 b)
   | none=>none
  | _=>none
 | _=>none
def aa:V->bX
 | .ptr b o=>some (.ptr b o)
 | .fq b o=>some (.fq b o)
 | .gj b u k=>some (.gj b u k)
 | .vp cs=>some (.vp cs)
 | .obj k=>some (.obj k)
 | .fn (.func f) a c=>some (.fn (.func f) a c)
 | .ec t v=>some (.ec t v)
 | _=>none
def SC(P:aQ)(t:aB):Bool :=
 match P.underlying t with
 | none=>true
 | some (.interface _)=>true
 | _=>false
def xe(H:Hp):V->Option (List (V×V))
 | .mo=>some []
 | .map b=>match H.get b with
  | some (.map es)=>some es
  | _=>none
 | _=>none
def Nl(P:aQ)(e:aB)(k:V)(es:List (V×V)):Option (V×Bool) :=
 match Js k es with
 | some (some v)=>some (v,true)
 | some none=>(qQ P e).map (·,false)
 | none=>none
def KQ(P:aQ)(H:Hp)(a:aB)(v:V):bX :=
 match P.underlying a,v with
 | some (.slice e),.sr b o l c=>match ww P H e (.sr b o l c) with
  | some xs=>some (.sl 1 xs .no)
  | none=>none
 | _,v=>some v
def vd(a:aB):aB:=549755813888+a
def KR(P:aQ)(H:Hp)(a b:aB)(v:bX):bX :=
 match v with
 | none=>none
 | some v=>match KQ P H a v with
  | none=>none
  | some v=>vz P a b v
def jf(P:aQ)(gl:Nat->Nat->bX)(o:Oper)(env:aD)(H:Hp):bX:=do
 let ρ:=ak env
 match o.op with
 | .move x=>ρ x
 | .pick c a b=>do
  let .bool t <- ρ c|none
  match t with
  | true=>ρ a
  | false=>ρ b
 | .build t parts=>ky P t parts env
 | .buildSlice t len parts=>do
  let .slice e <- P.underlying t|none
  let n <- z4 P e
  let z <- qQ P e
  if Nat.beq n 0 || Nat.blt 16777216 (len * n) || !Nat.beq z.cells.length n || !dz z then none else
  let xs <- Ei n len env (List.replicate len z) parts.toList
  some (.sl n xs (.yes e))
 | .load t a=>do
  let v <- zk P H gl t (<- ρ a)
  some (aW v)
 | .nilCheck x=>do
  aa (<- ρ x)
 | .binOp op t x y _=>do
  let u <- ρ x
  let v <- ρ y
  if jt P op t x y u v then w7 P op t u v else none
 | .unOp op _ x=>do iz op (<- ρ x)
 | .convert a b x=>do vz P a b (<- ρ x)
 | .makeInterface t x=>do
  let v <- ρ x
  if SC P t then none else some (.ec t v)
 | .makeFunc fn first cap=>do some (.fn fn (<- av env first.toList) (<- av env cap.toList))
 | .slice t x lo hi mx=>do
  let SD <- cU env lo
  let tv <- cU env hi
  let v <- ρ x
  match mx with
  | none=>yW P t v SD tv
  | some m=>match <- ρ m,v,tv with
   | .int _ k,.sl sz xs o,some (.int _ h)=>if h<=k/\k<=xs.length then yW P t (.sl sz xs o) SD tv else none
   | _,_,_=>none
 | .fieldAddr t x f=>do
  let .struct fs <- P.underlying t|none
  let fd <- fs[f]?
  if Nat.beq (<- z4 P fd.type) 0 then none else
  match <- ρ x with
  | .ptr b off=>some (.ptr b (off+fd.offset))
  | .fq g off=>some (.fq g (off+fd.offset))
  | .gj b u k=>some (.gj b u (k+fd.offset))
  | .vp cs=>some (.vp (cs.drop fd.offset))
  | _=>none
 | .field t x f=>do
  let .struct fs <- P.underlying t|none
  let fd <- fs[f]?
  let .agg cs <- ρ x|none
  (wd P fd.type cs fd.offset).map aW
 | .indexAddr t x ix=>do
  let .int _ i <- ρ ix|none
  zt P t (<- ρ x) i
 | .index t x ix=>do
  let .int _ i <- ρ ix|none
  OI P t (<- ρ x) i
 | .lookup t m k ok=>do
  let .map kt e <- P.underlying t|none
  let kd <- P.underlying kt
  let k <- ρ k
  if !v8 kd k then none else
  let es <- xe H (<- ρ m)
  let (v,f) <- Nl P e k es
  some (if ok then .bq [aW v,.bool f] else aW v)
 | .typeAssert x _ t ok=>do
  if SC P t then none else
  match <- ρ x with
  | .bM=>if ok then do some (.bq [<- qQ P t,.bool false]) else none
  | .ec u v=>if Nat.beq u t then some (if ok then .bq [aW v,.bool true] else aW v) else if ok then do some (.bq [<- qQ P t,.bool false]) else none
  | _=>none
 | .extract x i=>do
  let .bq vs <- ρ x|none
  match nth vs i with
  | some v=>some (aW v)
  | none=>none
 | _=>none
def wv(lk:aN)(b:Nat):Nat->Nat->aD->Bool
 | _,0,_=>true
 | _,_,[]=>false
 | off,n+1,c::cs=>(!locked c || lk.any λp=>Nat.beq p.1 b && Nat.beq p.2 off) && wv lk b (off+1) n cs
def bW:aD->aD
 | []=>[]
 | v::vs=>v.cells++bW vs
def pN(P:aQ)(uq:aB->Bool)(t:aB):Bool :=
 match P.underlying t with
 | some (.slice e)=>uq e
 | _=>false
def v9(P:aQ)(a b:aB)(x:aX)(env:aD):Option (V×aD) :=
 match Nat.beq a b,P.underlying a with
 | true,some (.slice e)=>match P.underlying e,take env x with
  | some (.int .u8),some (.sl sz (y::ys) (.yes _),env)=>some (.sl sz (y::ys) .no,env)
  | _,_=>none
 | _,_=>none
def xz(takes:bY)(x:aX)(lo hi:Option aX):Bool :=
 match x,lo,hi with
 | .tmp k,some _,none=>takes.any (Nat.beq (1048576+k))
 | _,_,_=>false
def KS(P:aQ)(t:aB)(x:aX)(lo:Option aX)(env:aD):Option (V×aD) :=
 match P.underlying t,take env x,cU env lo with
 | some (.slice e'),some (.sl sz xs (.yes e),env),some (some (.int _ i))=>match z4 P e' with
  | some n=>match Nat.beq n sz && decide (0<=i) && Nat.ble i.toNat xs.length with
   | true=>some (.sl sz (xs.drop i.toNat) (.yes e),env)
   | false=>none
  | none=>none
 | _,_,_=>none
def Cx.mL(cx:Cx)(t:aB)(x y:aX)(env:aD)(H:Hp)(lk:aN)(df:bO):Option (OR×St):=do
 let .slice e <- cx.P.underlying t|none
 let n <- z4 cx.P e
 let i <- cx.P.info? e
 let z <- i.zero
 let ys <- ww cx.P H e (<- ak env y)
 if !Nat.beq z.cells.size n || Nat.beq n 0 then none else
 match <- ak env x with
 | .aG=>match ys with
  | []=>some (.val .aG,⟨env,H,lk,df⟩)
  | _=>if kx ys.length i.bytes then AP (bW ys) λcs=>wL ys.length λlen=>xW H (.ul 0 n cs e) λb H=>some (.val (.dD b 0 len),⟨env,H,lk,df⟩) else none
 | .dD b u len=>match H.get b with
  | some (.ul eI sz cs e') =>
   if Nat.beq e e' && Nat.beq n sz && Nat.beq eI u && kx (len+ys.length) i.bytes then
    AP (cs++bW ys) λcs=>wL (eI+1) λu=>wL (len+ys.length) λlen=>EV H b (.ul u sz cs e) (.bq ys) λH=>some (.val (.dD b u len),⟨env,H,lk,df⟩)
   else none
  | _=>none
 | .sr b off len cap=>match H.get b with
  | some (.cells cs ty) =>
   let new:=(bW ys).map aW
   if Nat.beq off 0 && Nat.beq n 1 && Nat.beq ty e && Nat.beq new.length ys.length && Nat.ble (len+ys.length) cap && Nat.ble (len+ys.length) cs.length && wv lk b len ys.length (cs.drop len) then
    AP (storeCells cs len new) λcs=>wL (len+ys.length) λlen=>EV H b (.cells cs ty) (.bq new) λH=>some (.val (.sr b 0 len cap),⟨env,H,lk,df⟩)
   else match ww cx.P H e (.sr b off len cap) with
    | some xs =>
     if Nat.beq xs.length len && Nat.ble 1 len && Nat.ble (cap+1) (len+ys.length) && kx (len+ys.length) i.bytes then
      AP (bW xs++bW ys) λcs=>wL (len+ys.length) λlen=>xW H (.ul 0 n cs e) λb H=>some (.val (.dD b 0 len),⟨env,H,lk,df⟩)
     else none
    | none=>none
  | _=>none
 | _=>none
def Cx.ot(cx:Cx)(t:aB)(x:aX)(lo hi:Option aX)(env:aD)(H:Hp)(lk:aN)(df:bO):Option (OR×St) :=
 match cx.P.underlying t,ak env x,cU env lo,cU env hi with
 | some (.slice e'),some (.dD b u len),some none,some (some (.int _ h))=>match z4 cx.P e',H.get b with
  | some _,some (.ul eI sz cs e) =>
   if Nat.beq eI u && decide (0<=h) && Nat.ble h.toNat len then
    fL (cs.take (h.toNat * sz)) λcs=>wL (eI+1) λu=>wL h.toNat λlen=>EV H b (.ul u sz cs e) .fR λH=>some (.val (.dD b u len),⟨env,H,lk,df⟩)
   else none
  | _,_=>none
 | _,some (.sr b off len cap),some lo,some hi=>match yW cx.P t (.sr b off len cap) lo hi with
  | some v=>some (.val v,⟨env,H,lk,df⟩)
  | none=>none
 | _,_,_,_=>none
def Cx.sk(cx:Cx)(t:aB)(x y:aX)(env:aD)(H:Hp)(lk:aN)(df:bO):Option (OR×St):=do
 let .slice e <- cx.P.underlying t|none
 let n <- z4 cx.P e
 let ys <- ww cx.P H e (<- ak env y)
 match <- ak env x with
 | .sr b off len _=>match H.get b with
  | some (.cells cs ty) =>
   let m:=min len ys.length
   let new:=(bW (ys.take m)).map aW
   if Nat.beq n 1 && Nat.beq new.length m && Nat.ble (off+m) cs.length && wv lk b off m (cs.drop off) then
    AP (storeCells cs off new) λcs=>EV H b (.cells cs ty) (.bq new) λH=>some (.val (.int .i64 (m:Nat)),⟨env,H,lk,df⟩)
   else none
  | _=>none
 | _=>none
def Cx.op(cx:Cx)(takes:bY)(o:Oper)(env:aD)(H:Hp)(lk:aN)(df:bO):Option (OR×St) :=
  let P:=cx.P
  let taken:=match o.dst with
    | some d=>takes.any (Nat.beq d)
    | none=>false
  let read (_:Unit):Option (OR×St):=match jf P cx.gl o env H with
    | none=>none
    | some v=>some (.val v,⟨env,H,lk,df⟩)
  match o.op with
  | .move x=>match taken with
    | true=>match take env x with
      | none=>none
      | some (v,env)=>some (.val v,⟨env,H,lk,df⟩)
    | false=>read ()
  | .assign x=>match take env x with
    | none=>none
    | some (v,env)=>some (.val v,⟨env,H,lk,df⟩)
  | .load t a=>match taken with
    | false=>read ()
    | true=>match qD P t,ak env a with
      | some false,some (.ptr b off)=>match H.get b with
        | some (.cells cs ty)=>match nth cs off with
          | some (.sl sz xs (.yes e))=>Jq cs off (.sl sz xs .lock) λcs=>EV H b (.cells cs ty) .fR λH=>some (.val (.sl sz xs (.yes e)),⟨env,H,(b,off)::lk,df⟩)
          | some .aG=>some (.val .aG,⟨env,H,lk,df⟩)
          | some (.dD c u n)=>some (.val (.dD c u n),⟨env,H,lk,df⟩)
          | _=>none
        | _=>none
      | _,_=>none
  | .alloc t=>match qQ P t with
    | none=>none
    | some z=>if !dz z then none else fV z λz=>xW H (.cells z.cells t) λn H=>some (.val (.ptr n 0),⟨env,H,lk,df⟩)
  | .box t x=>match take env x with
    | none=>none
    | some (v,env)=>if !dz v then none else fV v λv=>AP v.laid λcs=>xW H (.cells cs t) λn H=>some (.val (.ptr n 0),⟨env,H,lk,df⟩)
  | .store t a x=>match ak env a with
    | some (.ptr b off)=>match take env x,z4 P t,H.get b with
      | some (v,env),some n,some (.cells cs ty) =>
        fV v λv=>AP v.laid λvs =>
          if dz v && Nat.beq vs.length n && Nat.ble (off+n) cs.length && wv lk b off n (cs.drop off) then
            fL (storeCells cs off vs) λcs=>EV H b (.cells cs ty) v λH=>some (.skip,⟨env,H,lk,df⟩)
          else none
      | _,_,_=>none
    | some (.gj b u k)=>match take env x,z4 P t,H.get b with
      | some (x,env),some n,some (.ul eI sz cs e) =>
        fV (aW x) λx=>if Nat.beq eI u && dz x && Nat.beq x.cells.length n && Nat.ble (k+n) cs.length then
          fL (storeCells cs k x.cells) λcs=>EV H b (.ul eI sz cs e) x λH=>some (.skip,⟨env,H,lk,df⟩)
        else none
      | _,_,_=>none
    | _=>none
  | .makeMap _ r=>match r with
    | some _=>none
    | none=>xW H (.map []) λn H=>some (.val (.map n),⟨env,H,lk,df⟩)
  | .makeSlice t l c=>match P.underlying t,ak env l,ak env c with
    | some (.slice e),some (.int _ l),some (.int _ c)=>match z4 P e,P.info? e,qQ P e with
      | some n,some i,some z =>
        if Nat.beq n 0 || l<0 || c<l || !kx c.toNat i.bytes || !Nat.beq z.cells.length n || !dz z then none else
        match cx.uq e && Nat.blt 0 c.toNat with
        | true=>AP (List.replicate c.toNat z.cells).flatten λcs=>xW H (.cells cs e) λn H=>wL l.toNat λl=>wL c.toNat λc=>some (.val (.sr n 0 l c),⟨env,H,lk,df⟩)
        | false =>
        if l=0 then some (.val (.sl n [] (.yes e)),⟨env,H,lk,df⟩) else
        if l=c then AP (List.replicate c.toNat z.cells).flatten λcs=>xW H (.cells cs e) λn H=>some (.val (.sr n 0 l.toNat c.toNat),⟨env,H,lk,df⟩) else none
      | _,_,_=>none
    | _,_,_=>none
  | .mapUpdate t m k x|.insert t m k x=>match ak env m,ak env k,ak env x with
    | some (.map b),some k,some x=>if !Nk P t k then none else fV k λk=>fV x λx=>match H.get b with
      | some (.map es)=>match Hs k x es with
        | some es=>fL es λes=>EV H b (.map es) (.bq [k,x]) λH=>some (.skip,⟨env,H,lk,df⟩)
        | none=>none
      | _=>none
    | _,_,_=>none
  | .range t x=>match P.underlying t,ak env x with
    | some .string,some (.str l)=>xW H (.iter l 0) λn H=>some (.val (.ptr n 0),⟨env,H,lk,df⟩)
    | _,_=>none
  | .next it true=>match ak env it with
    | some (.ptr b 0)=>match H.get b with
      | some (.iter l pos) =>
        if Nat.blt pos l.length then
          let (c,w):=Ht (l.drop pos)
          wL (pos+w) λq=>EV H b (.iter l q) .fR λH=>some (.val (.bq [.bool true,.int .i64 pos,.int .i32 c]),⟨env,H,lk,df⟩)
        else some (.val (.bq [.bool false]),⟨env,H,lk,df⟩)
      | _=>none
    | _=>none
  | .convert a b x=>match v9 P a b x env with
    | some (v,env)=>some (.val v,⟨env,H,lk,df⟩)
    | none=>match cx.uq (vd a) with
      | true=>match KR P H a b (ak env x) with
        | some v=>some (.val v,⟨env,H,lk,df⟩)
        | none=>none
      | false=>read ()
  | .slice t x lo hi none=>match xz takes x lo hi with
    | true=>match KS P t x lo env with
      | some (v,env)=>some (.val v,⟨env,H,lk,df⟩)
      | none=>none
    | false=>match pN P cx.uq t with
      | true=>cx.ot t x lo hi env H lk df
      | false=>read ()
  | .call c=>match c.callee with
    | .builtin b=>match b,c.args.toList,c.argTypes.toList with
     | .copy,[x,y],t::_=>cx.sk t x y env H lk df
     | .append,[x,y],[t,u]=>match pN P cx.uq t with
       | true=>if Nat.beq t u then cx.mL t x y env H lk df else none
       | false=>match cx.builtin b c.argTypes c.args env H with
        | none=>none
        | some (r,env)=>some (r,⟨env,H,lk,df⟩)
     | _,_,_=>match cx.builtin b c.argTypes c.args env H with
      | none=>none
      | some (r,env)=>some (r,⟨env,H,lk,df⟩)
    | .value f=>match ak env f,av env c.args.toList with
      | some f,some args=>match cx.mq f args H with
        | none=>none
        | some (r,H)=>some (r,⟨env,H,lk,df⟩)
      | _,_=>none
    | .invoke r m=>match ak env r,av env c.args.toList with
      | some r,some args=>match cx.mq (.fn (.method m) [] []) (r::args) H with
        | none=>none
        | some (r,H)=>some (r,⟨env,H,lk,df⟩)
      | _,_=>none
  | .defer c=>match c.callee with
    | .value f=>match ak env f,av env c.args.toList with
      | some (.fn (.func f) first cap),some args=>some (.skip,⟨env,H,lk,(.fn (.func f) first cap,args)::df⟩)
      | _,_=>none
    | _=>none
  | .panic x=>match ak env x with
    | some (.ec t v)=>some (.pM (.ec t v),⟨env,H,lk,df⟩)
    | _=>none
  | _=>read ()
def aq(env:aD)(dst:fH)(v:V):aD :=
 match dst with
 | some d=>env.set d v
 | none=>env
def EW{β:Type}(env:aD)(dst:fH)(v:V)(k:aD->β):β :=
 match dst with
 | some d=>fV v λv=>Jq env d v k
 | none=>k env
def zX(ops:Array Oper)(o:Oper)(env:aD):Option Bool :=
 match o.guard with
 | none=>some true
 | some (j,want)=>match (ops[j]?).bind (·.dst) with
  | none=>none
  | some d=>match nth env d with
   | some (.bool b)=>some (b == want)
   | some (.bq _)=>some false
   | _=>none
def Cx.ops(cx:Cx)(all:Array Oper)(takes:bY):List Oper->St->Option (Ex×St)
 | [],s=>some (.normal,s)
 | o::os,⟨env,H,lk,df⟩ =>
  match zX all o env with
  | none=>none
  | some false=>EW env o.dst (.bq []) λenv=>cx.ops all takes os ⟨env,H,lk,df⟩
  | some true=>match cx.op takes o env H lk df with
   | none=>none
   | some (.val v,⟨env,H,lk,df⟩)=>EW env o.dst v λenv=>cx.ops all takes os ⟨env,H,lk,df⟩
   | some (.skip,⟨env,H,lk,df⟩)=>EW env o.dst (.bq []) λenv=>cx.ops all takes os ⟨env,H,lk,df⟩
   | some (.pM v,s)=>some (.pM v,s)
mutual
def V.same:V->V->Bool
 | .bool a,.bool b=>a == b
 | .int k n,.int k' n'=>if k=k' then n == n' else false
 | .str a,.str b=>nQ a b
 | .fR,.fR=>true
 | .ptr a b,.ptr c d=>Nat.beq a c && Nat.beq b d
 | .fq a b,.fq c d=>Nat.beq a c && Nat.beq b d
 | .obj a,.obj b=>Nat.beq a b
 | .vp a,.vp b=>eJ a b
 | .aG,.aG=>true
 | .sl s a o,.sl s' b o'=>Nat.beq s s' && (if o=o' then eJ a b else false)
 | .sr a b c d,.sr a' b' c' d'=>Nat.beq a a' && Nat.beq b b' && Nat.beq c c' && Nat.beq d d'
 | .mo,.mo=>true
 | .map a,.map b=>Nat.beq a b
 | .oY,.oY=>true
 | .fn f a c,.fn f' a' c'=>(if f=f' then true else false) && eJ a a' && eJ c c'
 | .bM,.bM=>true
 | .ec t v,.ec t' v'=>Nat.beq t t' && V.same v v'
 | .agg a,.agg b=>eJ a b
 | .bq a,.bq b=>eJ a b
 | .dW,.dW=>true
 | .dD a b n,.dD c d m=>Nat.beq a c && Nat.beq b d && Nat.beq n m
 | .gj a b e,.gj c d f=>Nat.beq a c && Nat.beq b d && Nat.beq e f
 | _,_=>false
def eJ:aD->aD->Bool
 | [],[]=>true
 | x::xs,y::ys=>V.same x y && eJ xs ys
 | _,_=>false
end
def q9(P:aQ)(uq:aB->Bool)(takes:bY)(o:Oper):Bool :=
 match o.op with
 | .alloc _|.box ..|.store ..|.makeMap ..|.makeSlice ..|.mapUpdate ..|.insert ..|.range ..|.next ..|.defer _|.panic _=>true
 | .load ..=>match o.dst with
  | some d=>takes.any (Nat.beq d)
  | none=>false
 | .slice t _ _ _ none=>pN P uq t
 | .call c=>match c.callee with
  | .builtin .copy=>true
  | .builtin .append=>match c.argTypes.toList with
   | t::_=>pN P uq t
   | _=>false
  | .builtin _=>false
  | _=>true
 | _=>false
def kU(P:aQ)(uq:aB->Bool)(o:Oper):Bool :=
 match o.op with
 | .slice t _ _ _ none=>pN P uq t
 | .convert a _ _=>uq (vd a)
 | .load ..|.lookup ..|.call _=>true
 | _=>false
def kl(takes:bY)(o:Oper):Option aX :=
 match o.op with
 | .move x=>if (match o.dst with|some d=>takes.any (Nat.beq d)|none=>false) then some x else none
 | .assign x|.box _ x|.store _ _ x=>some x
 | .convert a b x=>if Nat.beq a b then some x else none
 | .slice _ x lo hi none=>if xz takes x lo hi then some x else none
 | .call c=>match c.callee with
  | .builtin .append=>c.args.toList.head?
  | _=>none
 | _=>none
def gk:List aX->Nat
 | []=>0
 | .tmp t::xs=>Nat.lor (Nat.pow 2 t) (gk xs)
 | _::xs=>gk xs
structure Rec where
 idx:Nat
 o:Oper
 m:Nat
 tm:Nat
 lm:Nat
 hp:Bool
 free:Bool
 env:aD
 v:V
structure ei where
 D:Nat
 H:Hp
 lk:aN
 df:bO
def bit(m i:Nat):Bool:=Nat.beq (Nat.mod (Nat.shiftRight m i) 2) 1
def vA(a b:Nat):Bool:=Nat.beq (Nat.land a b) a
def maskAt:List Rec->Nat->Option Nat
 | [],_=>none
 | r::rs,j=>if Nat.beq r.idx j then some r.m else maskAt rs j
def wx(rs:List Rec):List Edge->Option Nat
 | []=>some 0
 | e::es=>match Region.binds .any e with
  | false=>wx rs es
  | true=>match maskAt rs e.on with
   | none=>none
   | some m=>match wx rs es with
    | none=>none
    | some k=>some (Nat.lor k (Nat.lor m (Nat.pow 2 e.on)))
def Cx.dK(cx:Cx)(takes:bY)(o:Oper)(env:aD)(c:ei)(D:Nat):Option (V×ei) :=
 match cx.op takes o env c.H c.lk c.df with
 | some (.val v,s)=>some (v,⟨D,s.H,s.lk,s.defers⟩)
 | some (.skip,s)=>some (.bq [],⟨D,s.H,s.lk,s.defers⟩)
 | _=>none
def Cx.eM(cx:Cx)(takes:bY)(o:Oper)(env:aD)(v:V)(c:ei):Bool :=
 match cx.dK takes o env c 0 with
 | some (u,_)=>V.same u v
 | none=>false
def p_:List (V×V)->List (V×V)->Bool
 | [],[]=>true
 | (a,b)::x,(c,d)::y=>V.same a c && V.same b d && p_ x y
 | _,_=>false
def gm:aV->aV->Bool
 | .cells a t,.cells b u=>Nat.beq t u && eJ a b
 | .map a,.map b=>p_ a b
 | .iter a i,.iter b j=>Nat.beq i j && nQ a b
 | .ul a b c d,.ul a' b' c' d'=>Nat.beq a a' && Nat.beq b b' && Nat.beq d d' && eJ c c'
 | _,_=>false
def mM:List aV->List aV->Bool
 | [],[]=>true
 | a::x,b::y=>gm a b && mM x y
 | _,_=>false
def l9:aN->aN->Bool
 | [],[]=>true
 | (a,b)::x,(c,d)::y=>Nat.beq a c && Nat.beq b d && l9 x y
 | _,_=>false
def nk:bO->bO->Bool
 | [],[]=>true
 | (a,b)::x,(c,d)::y=>V.same a c && eJ b d && nk x y
 | _,_=>false
def vH(a b:ei):Bool:=l9 a.lk b.lk && nk a.df b.df && l9 a.H.bG b.H.bG && mM a.H.az b.H.az
def vI(D:Nat):List ei->Option ei
 | []=>none
 | c::cs=>if Nat.beq c.D D then some c else vI D cs
def ep:List Rec->Nat
 | []=>0
 | r::rs=>match r.hp with
  | true=>Nat.lor (Nat.pow 2 r.idx) (ep rs)
  | false=>ep rs
def kz{α:Type}(f:α->Bool):List α->Bool
 | []=>true
 | q::qs=>match f q with
  | true=>kz f qs
  | false=>false
def KT(D:Nat)(q:Rec):List Rec->Bool
 | []=>false
 | c::cs=>(c.hp && bit D c.idx && bit c.m q.idx) || KT D q cs
def kw(r q:Rec):Bool :=
 match bit r.m q.idx with
 | true=>true
 | false=>Nat.beq (Nat.land q.tm r.lm) 0 && Nat.beq (Nat.land r.tm q.lm) 0
def Cx.gR(cx:Cx)(takes:bY)(o:Oper)(env:aD)(v:V)(m b:Nat):List ei->Option (List ei)
 | []=>some []
 | c::cs=>match vA m c.D with
  | false=>cx.gR takes o env v m b cs
  | true=>match cx.dK takes o env c (Nat.lor c.D b) with
   | none=>none
   | some (u,c2)=>match V.same u v with
    | false=>none
    | true=>match cx.gR takes o env v m b cs with
     | none=>none
     | some l=>some (c2::l)
def Cx.eK(cx:Cx)(takes:bY)(rs:List Rec)(KU:Nat)(r:Rec)(all:List ei)(c:ei):Bool :=
 kz (λq=>match vA (Nat.land q.m KU) c.D with
  | false=>true
  | true=>match q.hp with
   | true=>match bit c.D q.idx with
    | true=>true
    | false=>match cx.dK takes q.o q.env c 0,vI (Nat.lor c.D (Nat.pow 2 q.idx)) all with
     | some (u,c2),some c3=>V.same u q.v && vH c2 c3
     | _,_=>false
   | false=>q.free || bit r.m q.idx || KT c.D q rs || cx.eM takes q.o q.env q.v c) rs
def zex(all:Array Oper)(o:Oper):Nat :=
 match o.guard with
 | none=>0
 | some (j,_)=>match (all[j]?).bind (·.dst) with
  | none=>0
  | some d=>Nat.pow 2 d
def mU(takes:bY)(o:Oper):Nat :=
 match o.dst with
 | some d=>Nat.lor (Nat.pow 2 d) (gk (match kl takes o with|some x=>[x]|none=>[]))
 | none=>gk (match kl takes o with|some x=>[x]|none=>[])
def tw(all:Array Oper)(o:Oper):Nat:=Nat.lor (gk o.op.operands.toList) (zex all o)
def Cx.fj(cx:Cx)(takes:bY)(rs:List Rec)(r:Rec)(c0 c1:ei)(cs:List ei)(k:List ei->Option (Ex×St)):Option (Ex×St) :=
 let KU:=ep rs
 match r.hp with
 | false=>match r.free || kz (λc=>match vA (Nat.land r.m KU) c.D with
   | true=>cx.eM takes r.o r.env r.v c
   | false=>true) cs with
  | true=>k (c0::cs)
  | false=>none
 | true=>match cx.gR takes r.o r.env r.v (Nat.land r.m KU) (Nat.pow 2 r.idx) cs with
  | none=>none
  | some l =>
   let all:=c1::l++c0::cs
   match kz (λc=>cx.eK takes rs KU r all c) (c1::l) with
   | true=>k all
   | false=>none
def Cx.eN(cx:Cx)(all:Array Oper)(takes:bY):Nat->List Rec->List ei->List Oper->St->Option (Ex×St)
 | _,_,_,[],s=>some (.normal,s)
 | i,rs,cs,o::os,⟨env,H,lk,df⟩ =>
  match wx rs o.after.toList with
  | none=>none
  | some m=>wL m λm=>wL (mU takes o) λtm=>wL (Nat.lor tm (tw all o)) λlm =>
   let next (hp free:Bool) (v:V) (s1:St):Option (Ex×St) :=
    match s1 with
    | ⟨cK,H1,eB,eu⟩=>fV v λv=>EW cK o.dst v λcK =>
     match kz (kw ⟨i,o,m,tm,lm,hp,free,env,v⟩) rs,cs with
     | true,c0::cs=>cx.fj takes rs ⟨i,o,m,tm,lm,hp,free,env,v⟩ c0 ⟨Nat.lor c0.D (Nat.pow 2 i),H1,eB,eu⟩ cs λcs =>
      cx.eN all takes (i+1) (⟨i,o,m,tm,lm,hp,free,env,v⟩::rs) cs os ⟨cK,H1,eB,eu⟩
     | _,_=>none
   match zX all o env with
   | none=>none
   | some false=>next false true (.bq []) ⟨env,H,lk,df⟩
   | some true=>match cx.op takes o env H lk df with
    | none=>none
    | some (.val v,s1)=>next (q9 cx.P cx.uq takes o) (!kU cx.P cx.uq o) v s1
    | some (.skip,s1)=>next (q9 cx.P cx.uq takes o) false (.bq []) s1
    | some (.pM _,_)=>none
def Cx.drawn(cx:Cx)(ops:Array Oper):St->Option (Ex×St)
 | ⟨env,H,_,df⟩=>cx.eN ops (jN ops) 0 [] [⟨0,H,[],df⟩] ops.toList ⟨env,H,[],df⟩
def C3(after:Array Edge):Oper:=⟨none,.move (.const (.bool true)),0,"",after,none⟩
def SE(es:List Edge):Nat->Bool
 | 0=>true
 | n+1=>(es.any λe=>Nat.beq e.on n && Region.binds .any e) && SE es n
def SF(takes:bY)(d:Tmp)(o:Oper):Bool :=
 (match o.dst with|some k=>!(Nat.beq k d)|none=>true) && (match kl takes o with|some (.tmp k)=>!(Nat.beq k d)|_=>true) && (match o.guard with|none=>true|some _=>false)
def xP(ops:Array Oper):Option (List Oper×Tmp×aB×aX) :=
 match ops.toList.reverse with
 | ⟨none,.store t (.tmp d) x,_,_,after,none⟩::⟨some e,.alloc u,_,_,af,none⟩::os =>
  match Nat.beq d e && Nat.beq t u && SE after.toList (os.length+1) with
  | true=>some ((C3 after::C3 af::os).reverse,d,t,x)
  | false=>none
 | _=>none
def Cx.late(cx:Cx)(ops:Array Oper):St->Option (Ex×St)
 | ⟨env,H,_,df⟩=>match xP ops with
  | none=>none
  | some (os,d,t,x)=>match kz (SF (jN os.toArray) d) os && Nat.blt d env.length with
   | false=>none
   | true=>match cx.eN os.toArray (jN os.toArray) 0 [] [⟨0,H,[],df⟩] os ⟨env.set d .dW,H,[],df⟩ with
    | some (_,⟨env,H,lk,df⟩)=>match take env x,z4 cx.P t,qQ cx.P t with
     | some (v,env),some n,some z =>
      match dz v && dz z && Nat.beq z.cells.length n with
      | true=>fV v λv=>AP v.laid λcs=>match Nat.beq cs.length n with
       | true=>xW H (.cells cs t) λn H=>some (.normal,⟨env.set d (.ptr n 0),H,lk,df⟩)
       | false=>none
      | false=>none
     | _,_,_=>none
    | none=>none
def mu:Nat:=1099511627775
def Cx.draw(cx:Cx)(ops:Array Oper)(s:St):Option (Ex×St) :=
 match cx.uq mu with
 | true=>match xP ops with
  | some _=>cx.late ops s
  | none=>cx.drawn ops s
 | false=>cx.drawn ops s
def KV(step:St->Option (Ex×St)):Nat->St->Option (Ex×St)
 | 0,_=>none
 | n+1,s=>match step s with
  | none=>none
  | some (.normal,s)=>KV step n s
  | some (e,s)=>some (e,s)
def Gr(f:FuncId)(back:Bool)(t:aB):aB:=1099511627776+2 * (f * 1048576+t)+(if back then 1 else 0)
def Cx.code(cx:Cx)(n:Nat):Code->St->Option (Ex×St)
 | .skip,s=>some (.normal,s)
 | .label _,s=>some (.normal,s)
 | .region _ ops false,⟨env,H,_,df⟩=>cx.ops ops (jN ops) ops.toList ⟨env,H,[],df⟩
 | .region _ ops true,s=>cx.draw ops s
 | .seq a b,s=>match cx.code n a s with
  | none=>none
  | some (.normal,s)=>cx.code n b s
  | some (e,s)=>some (e,s)
 | .cond c a b,s=>match ak s.env c with
  | some (.bool true)=>cx.code n a s
  | some (.bool false)=>cx.code n b s
  | _=>none
 | .block id c,s=>match cx.code n c s with
  | none=>none
  | some (.exit i,s)=>some (if Nat.beq i id then .normal else .exit i,s)
  | some (e,s)=>some (e,s)
 | .loop c,s=>KV (cx.code n c) n s
 | .exit id,s=>some (.exit id,s)
 | .ret,s=>some (.ret,s)
 | .scope c,s=>match cx.code n c s with
  | none=>none
  | some (.goto _,_)=>none
  | some (e,s)=>some (e,s)
 | _,_=>none
def zx(P:aQ)(H:Hp)(env:aD):List ResultVar->Option aD
 | []=>some []
 | .tmp t::r=>match nth env t,zx P H env r with
  | some v,some vs=>some (v::vs)
  | _,_=>none
 | .cell a t::r=>match nth env a with
  | some p=>match zk P H (λ_ _=>none) t p,zx P H env r with
   | some v,some vs=>some (aW v::vs)
   | _,_=>none
  | none=>none
def iZ:aD->V
 | [v]=>v
 | vs=>.bq (vs.map aW)
def OJ{β:Type}(n0:Nat)(es:aN)(top:Nat)(H:Hp)(k:Hp->β):β :=
 match H with
 | ⟨bs,new⟩ =>
  if Nat.ble top n0 && new.all (λe=>Nat.ble n0 e.1 || Nat.ble e.2 n0) then
   fL (bs.take n0) λbs=>fL (new.filter (λe=>Nat.blt e.1 n0)) λnew=>k ⟨bs,new++es⟩
  else k ⟨bs,new++es⟩
def zoN(o:Oper):Bool :=
 match o.op with
 | .call c=>match c.callee with
  | .builtin .recover=>true
  | _=>false
 | _=>false
def Cx.tB(cx:Cx)(iI:bX)(all:Array Oper)(takes:bY):List Oper->Bool->St->Option (Ex×Bool×St)
 | [],r,s=>some (.normal,r,s)
 | o::os,r,⟨env,H,lk,df⟩ =>
  match zX all o env with
  | none=>none
  | some false=>EW env o.dst (.bq []) λenv=>cx.tB iI all takes os r ⟨env,H,lk,df⟩
  | some true=>match zoN o with
   | true=>match iI,r with
    | some v,false=>EW env o.dst (aW v) λenv=>cx.tB iI all takes os true ⟨env,H,lk,df⟩
    | _,_=>EW env o.dst .bM λenv=>cx.tB iI all takes os r ⟨env,H,lk,df⟩
   | false=>match cx.op takes o env H lk df with
    | none=>none
    | some (.val v,⟨env,H,lk,df⟩)=>EW env o.dst v λenv=>cx.tB iI all takes os r ⟨env,H,lk,df⟩
    | some (.skip,⟨env,H,lk,df⟩)=>EW env o.dst (.bq []) λenv=>cx.tB iI all takes os r ⟨env,H,lk,df⟩
    | some (.pM v,s)=>some (.pM v,r,s)
def Cx.mV(cx:Cx)(n:Nat)(iI:bX):Code->Bool->St->Option (Ex×Bool×St)
 | .seq a b,r,s=>match cx.mV n iI a r s with
  | none=>none
  | some (.normal,r,s)=>cx.mV n iI b r s
  | some x=>some x
 | .cond c a b,r,s=>match ak s.env c with
  | some (.bool true)=>cx.mV n iI a r s
  | some (.bool false)=>cx.mV n iI b r s
  | _=>none
 | .region _ ops false,r,⟨env,H,_,df⟩=>cx.tB iI ops (jN ops) ops.toList r ⟨env,H,[],df⟩
 | c,r,s=>match cx.code n c s with
  | none=>none
  | some (e,s)=>some (e,r,s)
def KX(P:aQ)(gl:Nat->Nat->bX)(uq:aB->Bool)(call:FuncId->aD->Hp->Option (Out×Hp))(n:Nat)(iI:bX)(f:FuncId)(args:aD)(H:Hp):Option (Bool×Hp) :=
 match H with
 | ⟨bs,es⟩ =>
  match P.funcs[f]? with
  | none=>none
  | some fn=>match fn.body with
   | none=>none
   | some body =>
    wL bs.length λn0 =>
    fL (args++List.replicate (fn.ntmps - args.length) (.bq [])) λenv =>
    match Cx.mV { P,gl,call,uq } n iI body false ⟨env,⟨bs,[]⟩,[],[]⟩ with
    | some (.normal,r,⟨env,H,_,[]⟩)|some (.ret,r,⟨env,H,_,[]⟩)=>match zx P H env fn.results.toList with
     | none=>none
     | some _=>OJ n0 es 0 H λH=>some (r,H)
    | _=>none
def vh(call:bX->FuncId->aD->Hp->Option (Bool×Hp)):bX->bO->Hp->Option (bX×Hp)
 | iI,[],H=>some (iI,H)
 | iI,(.fn (.func f) first cap,args)::ds,H=>fL ((first++args++cap).map aW) λargs=>match call iI f args H with
  | none=>none
  | some (true,H)=>vh call none ds H
  | some (false,H)=>vh call iI ds H
 | _,_,_=>none
def SG(call:bX->FuncId->aD->Hp->Option (Bool×Hp))(iI:bX)(ds:bO)(H:Hp):Option (bX×Hp):=vh call iI ds H
def AR:Ex->Option bX
 | .normal|.ret=>some none
 | .pM v=>some (some v)
 | _=>none
structure Gl where
 g:Nat->Nat->bX
 hk:FuncId->aD->bX:=λ_ _=>none
 uq:aB->Bool:=λ_=>false
 fG:Nat->FuncId->aD->Hp->Option (Out×Hp):=λ_ _ _ _=>none
instance : CoeFun Gl (λ_=>Nat->Nat->bX):=⟨Gl.g⟩
instance : Coe Gl (Nat->Nat->bX):=⟨Gl.g⟩
def zj(P:aQ)(gl:Gl):Nat->FuncId->aD->Hp->Option (Out×Hp)
 | 0,_,_,_=>none
 | n+1,f,args,⟨bs,es⟩ =>
  match gl.hk f args with
  | some v=>some (.ret v,⟨bs,es⟩)
  | none =>
  match gl.fG n f args ⟨bs,es⟩ with
  | some r=>some r
  | none =>
  match P.funcs[f]? with
  | none=>none
  | some fn=>match fn.body with
   | none=>none
   | some body =>
    wL bs.length λn0 =>
    fL (args++List.replicate (fn.ntmps - args.length) (.bq [])) λenv =>
    match Cx.code { P,gl:=gl.g,call:=zj P gl n,uq:=gl.uq } n body ⟨env,⟨bs,[]⟩,[],[]⟩ with
    | none=>none
    | some (ex,⟨env,H,_,df⟩)=>match AR ex with
     | none=>none
     | some iI=>match SG (KX P gl.g gl.uq (zj P gl n) n) iI df H with
      | none=>none
      | some (some v,H)=>OJ n0 es v.top H λH=>some (.pM v,H)
      | some (none,H)=>match zx P H env fn.results.toList with
       | none=>none
       | some vs=>fV (iZ vs) λv=>OJ n0 es v.top H λH=>some (.ret v,H)
end
section
inductive Loc where
 |slot (d t:Nat)
 |cell (b off:Nat)
 |ret
 deriving DecidableEq
structure Ob where
 adr:Nat->Addr
 lo:Nat->Prop
instance : CoeFun Ob (λ_=>Nat->Addr):=⟨Ob.adr⟩
structure Gh where
 M:Nat->Nat->Option bt
 bP:Nat->Nat
 obj:Ob
 own:Nat->Option Loc
 lk:Nat->Nat->bt
 eZ:Nat->Nat->Option bt
abbrev V.one(v:V):Bool:=Cc v
theorem zg{α:Type}:∀(l:List α)(n:Nat),nth l n=l[n]?
 | [],_=>by simp[nth]
 | _::_,0=>by simp[nth]
 | _::xs,n+1=>by simp[nth,zg xs n]
section force
variable{α β:Type}
theorem qz(n:Nat)(k:Nat->β):wL n k=k n:=by cases n<;>rfl
theorem znk(n:Int)(k:Int->β):Ve n k=k n:=by cases n<;>simp[Ve,qz]
theorem AS:∀(l:bN)(k:bN->β),SA l k=k l
 | [],_=>rfl
 | x::xs,k=>by simp[SA,qz,AS xs]
theorem eE:∀(l:List α)(k:List α->β),fL l k=k l
 | [],_=>rfl
 | x::xs,k=>by simp[fL,eE xs]
theorem zoO(v:V)(k:V->β):fC v k=k v:=by
 unfold fC;split<;>simp[znk,AS,qz,eE]
theorem de:∀(l:aD)(k:aD->β),AP l k=k l
 | [],_=>rfl
 | x::xs,k=>by simp[AP,zoO,de xs]
theorem qp(v:V)(k:V->β):fV v k=k v:=by
 unfold fV;split<;>simp[de,zoO]
theorem fm:∀(l:List α)(n:Nat)(v:α)(k:List α->β),Jq l n v k=k (l.set n v)
 | [],_,_,_=>rfl
 | _::_,0,_,_=>rfl
 | x::xs,n+1,v,k=>by simp[Jq,fm xs]
theorem qm(H:Hp)(b:aV)(k:Nat->Hp->β):xW H b k=k H.az.length (H.push b):=by
 cases H;simp[xW,qz,eE,Hp.push]
theorem jd(H:Hp)(b:Nat)(x:aV)(v:V)(k:Hp->β):EV H b x v k=k ((H.set b x).bQ b v):=by
 cases H;simp only[EV,fm,qz,Hp.set,Hp.bQ];split<;>rfl
theorem jO(env:aD)(dst:fH)(v:V)(k:aD->β):EW env dst v k=k (aq env dst v):=by
 cases dst<;>simp[EW,aq,qp,fm]
end force
theorem ziU{P:aQ}{H:Hp}{a:aB}{v:V}(hv:∀b o l c,v≠.sr b o l c):KQ P H a v=some v:=by
 unfold KQ;split
 ·exact absurd rfl (hv _ _ _ _)
 ·rfl
theorem znl{P:aQ}{H:Hp}{a:aB}{sz:Nat}{xs:aD}{o:ug}:KQ P H a (.sl sz xs o)=some (.sl sz xs o):=ziU (by simp)
def zI(xs:aD):aD:=xs.flatMap V.cells
def bytes(s:bN):ByteArray:=⟨(s.map UInt8.ofNat).toArray⟩
inductive aR(g:Gh):V->bt->Prop where
 |bool (b:Bool):aR g (.bool b) (.bool b)
 |int (k:IntKind) (n:Int):aR g (.int k n) (.int k n)
 |str {s:bN}:(∀b:Nat,b∈s->b<256)->aR g (.str s) (.string (bytes s))
 |fR:aR g .fR (.pointer none)
 |ptr (b off:Nat):aR g (.ptr b off) (.pointer (some ⟨g.bP b,off,none⟩))
 |fq (k off:Nat):aR g (.fq k off) (.pointer (some ⟨k,off,none⟩))
 |obj (k:Nat):aR g (.obj k) (.pointer (some (g.obj k)))
 |vp {cs:aD} {c o:Nat} (f:Nat->bt):(∀(j:Nat)(x:V),cs[j]?=some x->x.one=true)->(∀(j:Nat)(x:V),cs[j]?=some x->g.M c (o+j)=some (f j))->(∀(j:Nat)(x:V),cs[j]?=some x->aR g x (f j)) ->
   aR g (.vp cs) (.pointer (some ⟨c,o,none⟩))
 |aG:aR g .aG (.slice none 0 0)
 |sl {sz:Nat} {xs:aD} {ow:ug} {a:Option Addr} {cap c o:Nat} (f:Nat->bt):(∀x:V,x∈xs->x.cells.length=sz)->xs.length<=cap->(xs≠[]->a=some ⟨c,o,none⟩) ->
   (∀(j:Nat)(x:V),(zI xs)[j]?=some x->x.one=true)->(∀(j:Nat)(x:V),(zI xs)[j]?=some x->g.M c (o+j)=some (f j))->(∀(j:Nat)(x:V),(zI xs)[j]?=some x->aR g x (f j)) ->
   aR g (.sl sz xs ow) (.slice a xs.length cap)
 |sr {b off len cap:Nat}:len<=cap->aR g (.sr b off len cap) (.slice (some ⟨g.bP b,off,none⟩) len cap)
 |mo:aR g .mo (.map none)
 |map (b:Nat):aR g (.map b) (.map (some (g.bP b)))
 |oY:aR g .oY .nilFunc
 |fn {f:Fn} {as cs:aD} {fa fc:dN}:as.length=fa.size->cs.length=fc.size->(∀(j:Nat)(x:V)(v:bt),as[j]?=some x->fa[j]?=some v->aR g x v) ->
   (∀(j:Nat)(x:V)(v:bt),cs[j]?=some x->fc[j]?=some v->aR g x v)->aR g (.fn f as cs) (.func f fa fc)
 |bM:aR g .bM .nilIface
 |ec {t:aB} {v:V} {cv:bt}:aR g v cv->aR g (.ec t v) (.iface t cv)
 |agg {cs:aD} {arr:dN}:cs.length=arr.size->(∀(j:Nat)(x:V),cs[j]?=some x->x.one=true)->(∀(j:Nat)(x:V)(v:bt),cs[j]?=some x->arr[j]?=some v->aR g x v)->aR g (.agg cs) (.agg arr)
 |bq {cs:aD} {arr:dN}:cs.length=arr.size->(∀(j:Nat)(x:V)(v:bt),cs[j]?=some x->arr[j]?=some v->aR g x v)->aR g (.bq cs) (.tuple arr)
 |dD {b u len cap c o:Nat}:g.eZ b u=some (.slice (some ⟨c,o,none⟩) len cap)->aR g (.dD b u len) (.slice (some ⟨c,o,none⟩) len cap)
 |gj {b u len cap c o:Nat} (k:Nat):g.eZ b u=some (.slice (some ⟨c,o,none⟩) len cap)->aR g (.gj b u k) (.pointer (some ⟨c,o+k,none⟩))
 |dW (v:bt):aR g .dW v
theorem zn{x:V}:∀{cs:aD},x∈cs->x.top<=aI cs
 | c::cs,h=>by
  simp only[aI];rcases dH.1 h with rfl|h
  ·exact DG _ _
  ·exact cP (zn h) (Ho _ _)
theorem qL{n:Nat}:∀{cs:aD},(∀x∈cs,x.top<=n)->aI cs<=n
 | [],_=>eg _
 | c::cs,h=>by
  simp only[aI];exact tu.2 ⟨h c (eH ..),qL λx hx=>h x (dR _ hx)⟩
theorem SH{x y:V}(h:y∈x.cells):y.top<=x.top:=by
 cases x<;>simp only[V.cells,oX] at h<;>try (subst h;exact dI _)
 simp only[V.top];exact zn h
theorem xX{xs:aD}{y:V}(h:y∈zI xs):y.top<=aI xs:=by
 obtain⟨x,hx,hy⟩:=List.mem_flatMap.1 h;exact cP (SH hy) (zn hx)
theorem jm(v:V):(aW v).top=v.top:=by
 cases v<;>rfl
theorem eO:∀(cs:aD),aI (cs.map aW)=aI cs
 | []=>rfl
 | c::cs=>by simp[aI,jm,eO cs]
theorem Vh(v:V):(aW v).one=v.one:=by cases v<;>rfl
theorem aR.aW{g:Gh}{v:V}{cv:bt}(h:aR g v cv):aR g (aW v) cv:=by
 cases h<;>first
  |constructor<;>assumption
  |(rename_i f h1 h2 h3 h4 h5 h6;exact .sl f h1 h2 h3 h4 h5 h6)
  |(rename_i f h1 h2 h3;exact .vp f h1 h2 h3)
structure Gh.Le(n:Nat)(g g':Gh):Prop where
 M:∀c o v,g.M c o=some v->g'.M c o=some v
 bP:∀b,b<n->g'.bP b=g.bP b
 obj:g'.obj=g.obj
 eZ:∀b u v,b<n->g.eZ b u=some v->g'.eZ b u=some v
theorem Gh.Le.refl(n:Nat)(g:Gh):Gh.Le n g g:=⟨λ_ _ _ h=>h,λ_ _=>rfl,rfl,λ_ _ _ _ h=>h⟩
theorem Gh.Le.trans{n:Nat}{a b c:Gh}(h:Gh.Le n a b)(k:Gh.Le n b c):Gh.Le n a c :=
 ⟨λ_ _ _ e=>k.M _ _ _ (h.M _ _ _ e),λi hi=>(k.bP i hi).trans (h.bP i hi),k.obj.trans h.obj,λb u v hb e=>k.eZ b u v hb (h.eZ b u v hb e)⟩
theorem Gh.Le.mono{n m:Nat}{a b:Gh}(h:Gh.Le n a b)(hm:m<=n):Gh.Le m a b:=⟨h.M,λi hi=>h.bP i (uO hi hm),h.obj,λb u v hb e=>h.eZ b u v (uO hb hm) e⟩
theorem zv{α:Type}{l:List α}{j:Nat}{x:α}(h:l[j]?=some x):x∈l:=m_ h
theorem aR.le{n:Nat}{g g':Gh}(hg:Gh.Le n g g'){v:V}{cv:bt}(h:aR g v cv):v.top<=n->aR g' v cv:=by
 induction h with
 | bool b=>intro _;exact .bool b
 | int k m=>intro _;exact .int k m
 | str h=>intro _;exact .str h
 | fR=>intro _;exact .fR
 | ptr b off=>intro ht;simp only[V.top] at ht;rw[<- hg.bP b (by omega)];exact .ptr b off
 | fq k off=>intro _;exact .fq k off
 | obj k=>intro _;rw[<- hg.obj];exact .obj k
 | vp f h1 h2 _ ih=>intro ht;exact .vp f h1 (λj x hx=>hg.M _ _ _ (h2 j x hx)) λj x hx=>ih j x hx (cP (zn (zv hx)) ht)
 | aG=>intro _;exact .aG
 | sl f h1 h2 h3 h4 h5 _ ih=>intro ht;exact .sl f h1 h2 h3 h4 (λj x hx=>hg.M _ _ _ (h5 j x hx)) λj x hx=>ih j x hx (cP (xX (zv hx)) ht)
 | sr hl=>intro ht;simp only[V.top] at ht;rw[<- hg.bP _ (by omega)];exact .sr hl
 | mo=>intro _;exact .mo
 | map b=>intro ht;simp only[V.top] at ht;rw[<- hg.bP b (by omega)];exact .map b
 | oY=>intro _;exact .oY
 | fn h1 h2 _ _ iha ihc =>
  intro ht;simp only[V.top] at ht;have:=tu.1 ht;exact .fn h1 h2 (λj x v hx hv=>iha j x v hx hv (cP (zn (zv hx)) this.1)) (λj x v hx hv=>ihc j x v hx hv (cP (zn (zv hx)) this.2))
 | bM=>intro _;exact .bM
 | ec _ ih=>intro ht;exact .ec (ih ht)
 | agg h1 h2 _ ih=>intro ht;exact .agg h1 h2 λj x v hx hv=>ih j x v hx hv (cP (zn (zv hx)) ht)
 | bq h1 _ ih=>intro ht;exact .bq h1 λj x v hx hv=>ih j x v hx hv (cP (zn (zv hx)) ht)
 | dD h=>intro ht;simp only[V.top] at ht;exact .dD (hg.eZ _ _ _ (by omega) h)
 | gj k h=>intro ht;simp only[V.top] at ht;exact .gj k (hg.eZ _ _ _ (by omega) h)
 | dW v=>intro _;exact .dW v
theorem aR.nJ{g:Gh}{v:V}{cv:bt}(h:aR g v cv)(h1:v.one=true):cv.oneCell'=true:=by
 cases h<;>first|rfl|(simp[V.one,Cc] at h1)
def rowAt(w:aP)(e sz:Nat)(cv:bt)(n:Nat)(xs:dx):Prop :=
 xs.length=n * sz/\((cv=.slice none 0 0/\n=0)\/∃c o cap cur,cv=.slice (some ⟨c,o,none⟩) n cap/\w.heap[c]?=some (.cells cur e (0,0))/\n<=cap/\cap<=maxLen/\(cap=0\/cur.size=o+cap * sz)/\(cur.toList.drop o).take (n * sz)=xs)
def o4(sz len:Nat)(M:Nat->Option bt):bt->Prop
 | .slice (some a) _ cap=>∀j,a.off+len * sz<=j->j<a.off+cap * sz->M j=none
 | _=>True
def fK(g:Gh)(n:Nat)(w:aP)(l:Loc)(e sz len:Nat)(cv:bt):Prop :=
 ∃xs,rowAt w e sz cv len xs/\∀c,cv.ownBlock=some c->g.own c=some l/\o4 sz len (g.M c) cv/\(∀b,b<n->g.bP b≠c)
theorem o4.eq{sz len:Nat}{M M':Nat->Option bt}{cv:bt}(h:o4 sz len M cv)(hm:∀j,M' j=M j):o4 sz len M' cv:=by
 unfold o4 at *;split
 next a _ cap=>intro j h1 h2;rw[hm];exact h j h1 h2
 ·trivial
theorem zgr{w:aP}{e sz n:Nat}{cv:bt}{xs:dx}(h:w.ownsRow 0 e sz cv n xs):rowAt w e sz cv n xs:=by
 obtain⟨h1,h|⟨c,cap,cur,h2,_,h3,h4,h5,h6,h7⟩⟩:=h
 ·exact⟨h1,.inl h⟩
 ·exact⟨h1,.inr ⟨c,0,cap,cur,h2,h3,h4,h5,.inr (by omega),by rw[mg];exact h7⟩⟩
theorem rowAt.lt{w:aP}{e sz n:Nat}{cv:bt}{xs:dx}(h:rowAt w e sz cv n xs):∀c,cv.ownBlock=some c->c<w.heap.size:=by
 obtain⟨_,⟨rfl,_⟩|⟨c,o,cap,cur,rfl,h3,_⟩⟩:=h
 ·intro c hc;cases hc
 ·intro c' hc;cases hc;exact(tj.1 h3).1
theorem rowAt.cells{w:aP}{e sz n:Nat}{c o cap:Nat}{xs:dx}(h:rowAt w e sz (.slice (some ⟨c,o,none⟩) n cap) n xs):∀j u,xs[j]?=some u->w.cell? ⟨c,o+j,none⟩=some u:=by
 obtain⟨_,⟨h,_⟩|⟨c,o,cap,cur,h,h3,_,_,_,rfl⟩⟩:=h
 ·cases h
 ·cases h;intro j u hu;rw[cell_of_row w _ _ cur _ _ h3];rw[Ao] at hu;split at hu
  ·rw[Hl] at hu;simpa using hu
  ·cases hu
def cM(g:Gh)(n:Nat)(w:aP)(l:Loc):V->bt->Prop
 | .sl sz xs (.yes e),cv=>fK g n w l e sz xs.length cv
 | _,_=>True
def OK(g:Gh)(b off:Nat):V->bt->Prop
 | .sl _ _ .lock,cv=>cv=g.lk b off
 | _,_=>True
def aV.top:aV->Nat
 | .cells cs _=>aI cs
 | .map es=>max (aI (es.map (·.1))) (aI (es.map (·.2)))
 | .iter _ _=>0
 | .ul _ _ cs _=>aI cs
structure Hv(g:Gh)(n:Nat)(w:aP)(b eI sz:Nat)(cs:aD)(e:aB)(c len cap:Nat)(vs:dx):Prop where
 eZ:g.eZ b eI=some (.slice (some ⟨c,0,none⟩) len cap)
 pos:0<sz
 row:w.ownsRow 0 e sz (.slice (some ⟨c,0,none⟩) len cap) len vs
 Cd:c=g.bP b\/g.own c=some (.cell b 0)
 M:∀o,g.M c o=none
 others:∀b',b'<n->b'≠b->g.bP b'≠c
 len:cs.length=vs.length
 cells:∀(j:Nat)(x:V)(v:bt),cs[j]?=some x->vs[j]?=some v->x.one=true/\aR g x v
 fresh:∀u,eI<u->g.eZ b u=none
def fY(g:Gh)(n:Nat)(w:aP)(b:Nat):aV->Prop
 | .cells cs t=>∃arr,w.heap[g.bP b]?=some (.cells arr t (0,0))/\cs.length=arr.size /\
   ∀(j:Nat)(x:V)(v:bt),cs[j]?=some x->arr[j]?=some v->x.one=true/\aR g x v/\cM g n w (.cell b j) x v/\OK g b j x v
 | .map es=>∃en ck,w.heap[g.bP b]?=some (.map en ck)/\es.length=en.size/\∀(j:Nat)(x:V×V)(me:MapEntry),es[j]?=some x->en[j]?=some me->aR g x.1 me.key/\aR g x.2 me.val
 | .iter s pos=>w.heap[g.bP b]?=some (.stringIter (bytes s) pos)/\∀b:Nat,b∈s->b<256
 | .ul eI sz cs e=>∃c len cap vs,Hv g n w b eI sz cs e c len cap vs
structure q_(g:Gh)(bs:List aV)(w:aP):Prop where
 mem:∀c o v,g.M c o=some v->w.cell? ⟨c,o,none⟩=some v
 lt:∀b,b<bs.length->g.bP b<w.heap.size
 inj:∀b b',b<bs.length->b'<bs.length->g.bP b=g.bP b'->b=b'
 apart:∀b,b<bs.length->∀o,g.M (g.bP b) o=none
 eV:∀c l,g.own c=some l->c<w.heap.size
 eD:∀b,b<bs.length->g.own (g.bP b)=none
 ok:∀(b:Nat)(x:aV),bs[b]?=some x->fY g bs.length w b x
 aI:∀(b:Nat)(x:aV),bs[b]?=some x->x.top<=bs.length
 laid:∀c,g.obj.lo c->(∃cs t,w.heap[c]?=some (.cells cs t (0,0)))/\g.own c=none/\∀b,b<bs.length->g.bP b≠c
def rM(d n:Nat)(g:Gh)(w:aP)(c:Nat):Prop :=
 c<w.heap.size/\(∀b,b<n->g.bP b≠c)/\(g.own c=none\/∃d' t,g.own c=some (.slot d' t)/\d<d')
def jp(bs:List aV)(b off:Nat):Prop:=∃cs t sz xs,bs[b]?=some (.cells cs t)/\cs[off]?=some (.sl sz xs .lock)
structure Fr(d:Nat)(bs:List aV)(g:Gh)(w:aP)(g':Gh)(w':aP):Prop where
 le:Gh.Le bs.length g g'
 heap:∀c,rM d bs.length g w c->w'.heap[c]?=w.heap[c]?
 own:∀c,rM d bs.length g w c->g'.own c=g.own c
 M:∀c,rM d bs.length g w c->∀o,g'.M c o=g.M c o
 size:w.heap.size<=w'.heap.size
 lk:∀b off,jp bs b off->g'.lk b off=g.lk b off
 os:w'.os=w.os
 tape:w'.tape=w.tape
 output:w'.output=w.output
theorem Fr.refl(d:Nat)(bs:List aV)(g:Gh)(w:aP):Fr d bs g w g w :=
 ⟨.refl _ _,λ_ _=>rfl,λ_ _=>rfl,λ_ _ _=>rfl,dI _,λ_ _ _=>rfl,rfl,rfl,rfl⟩
theorem Fr.trans{d:Nat}{Ej bs:List aV}{g0 g g':Gh}{w0 w w':aP}(h1:Fr d Ej g0 w0 g w)(hlen:Ej.length<=bs.length)
  (dX:∀b,Ej.length<=b->b<bs.length->w0.heap.size<=g.bP b) (pO:∀b off,jp Ej b off->jp bs b off) (h2:Fr d bs g w g' w'):Fr d Ej g0 w0 g' w':=by
 have hp:∀c,rM d Ej.length g0 w0 c->rM d bs.length g w c:=λc hc=>by
  refine⟨uO hc.1 h1.size,λb hb e=>?_,by rw[h1.own c hc];exact hc.2.2⟩
  rcases eX b Ej.length with bR|Au
  ·exact hc.2.1 b bR ((h1.le.bP b bR).symm.trans e)
  ·have:=dX b Au hb;have:=hc.1;omega
 exact⟨h1.le.trans (h2.le.mono hlen),λc hc=>(h2.heap c (hp c hc)).trans (h1.heap c hc),λc hc=>(h2.own c (hp c hc)).trans (h1.own c hc),
  λc hc o=>(h2.M c (hp c hc) o).trans (h1.M c hc o),cP h1.size h2.size,λb off hl=>(h2.lk b off (pO b off hl)).trans (h1.lk b off hl),
  h2.os.trans h1.os,h2.tape.trans h1.tape,h2.output.trans h1.output⟩
def OL(Ej:List aV)(H:Hp):Prop :=
 ∀(b:Nat)(x:aV),H.az[b]?=some x->x.top<=b+1\/(∃m,(b,m)∈H.bG/\x.top<=m)\/∃y:aV,Ej[b]?=some y/\x.top<=y.top
structure KY where
 t:Nat
 v:V
 cv:bt
 at_:Option (Nat×Nat)
structure dS where
 d:Nat
 bs:List aV
 g:Gh
 w:aP
 cW:List KY
def DK(B:dS)(b off:Nat):Prop:=jp B.bs b off\/∃q∈B.cW,q.at_=some (b,off)
def C4(g:Gh)(n:Nat)(x:V×aD)(d:Deferred):Prop :=
 ∃(f:FuncId)(as cs:aD)(fc:dN),x.1=.fn (.func f) as cs/\d.target=.fn (.func f) fc/\(as++x.2).length=d.args.size/\cs.length=fc.size/\(∀(j:Nat)(y:V)(v:bt),(as++x.2)[j]?=some y->d.args[j]?=some v->aR g y v) /\
  (∀(j:Nat)(y:V)(v:bt),cs[j]?=some y->fc[j]?=some v->aR g y v)/\aI (as++x.2)<=n/\aI cs<=n
def uS(g:Gh)(n:Nat)(x:V×aD)(d:Deferred):Prop:=C4 g n x d\/(x=(.fR,[])/\∃D,d={ target:=.collected D,args:=#[] })
def zqI(g:Gh)(n:Nat)(w:aP)(D:Nat):Prop:=w.heap[D]?=some (.deferred (some []))/\(∀b,b<n->g.bP b≠D)/\g.own D=none
structure Rel(B:dS)(g:Gh)(s:St)(a:Act)(w:aP):Prop where
 cY:q_ g s.H.az w
 len:s.env.length=a.tmps.size
 env:∀(t:Nat)(x:V)(v:bt),s.env[t]?=some x->a.tmps[t]?=some v->aR g x v/\cM g s.H.az.length w (.slot B.d t) x v
 dO:∀(t:Nat)(x:V),s.env[t]?=some x->x.top<=s.H.az.length
 n0:B.bs.length<=s.H.az.length
 bG:OL B.bs s.H
 d_:∀b,B.bs.length<=b->b<s.H.az.length->B.w.heap.size<=g.bP b
 fr:Fr B.d B.bs B.g B.w g w
 lV:∀b off,DK B b off->jp s.H.az b off
 n8:∀p∈s.lk,¬DK B p.1 p.2
 cW:∀p∈B.cW,s.env.length<p.t/\aR g p.v p.cv/\cM g s.H.az.length w (.slot B.d p.t) p.v p.cv/\p.v.top<=s.H.az.length/\∀b off,p.at_=some (b,off)->g.lk b off=p.cv
 eF:s.defers.length=a.defers.length
 defers:∀(j:Nat)(x:V×aD)(d:Deferred),s.defers[j]?=some x->a.defers[j]?=some d->uS g s.H.az.length x d
 marks:∀d∈a.defers,∀D,d.target=.collected D->B.w.heap.size<=D/\zqI g s.H.az.length w D
 nq:a.defers.Pairwise λd d'=>∀D,d.target=.collected D->d'.target≠.collected D
structure ir(d:Nat)(b0:Option Nat)(l0:Option Loc)(n:Nat)(g:Gh)(w:aP)(g':Gh)(w':aP):Prop where
 le:Gh.Le n g g'
 heap:∀c,c<w.heap.size->(∀b,b0=some b->g.bP b≠c)->(∀l,l0=some l->g.own c≠some l)->w'.heap[c]?=w.heap[c]?
 own:∀c,c<w.heap.size->(∀l,l0=some l->g.own c≠some l)->g'.own c=g.own c
 M:∀c,c<w.heap.size->(∀l,l0=some l->g.own c≠some l)->∀o,g'.M c o=g.M c o
 size:w.heap.size<=w'.heap.size
 lk:∀b off,(∀l,l0=some l->l≠.cell b off)->g'.lk b off=g.lk b off
 OM:∀l,l0=some l->(∃t,l=.slot d t)\/∃b j,l=.cell b j/\b0=some b
 DM:∀b,b0=some b->b<n
 eZ:∀b u,b<n->b0≠some b->g'.eZ b u=g.eZ b u
 os:w'.os=w.os
 tape:w'.tape=w.tape
 output:w'.output=w.output
theorem zcR{w w':aP}{base e sz:Nat}{cv:bt}{n:Nat}{xs:dx}(h:w.ownsRow base e sz cv n xs)(hh:∀c,cv.ownBlock=some c->w'.heap[c]?=w.heap[c]?) :
  w'.ownsRow base e sz cv n xs:=by
 refine⟨h.1,h.2.imp id ?_⟩;rintro⟨c,cap,cur,rfl,hb,hc,r⟩;exact⟨c,cap,cur,rfl,hb,by rw[hh c rfl];exact hc,r⟩
theorem za0{w w':aP}{e sz:Nat}{cv:bt}{n:Nat}{xs:dx}(h:rowAt w e sz cv n xs)(hh:∀c,cv.ownBlock=some c->w'.heap[c]?=w.heap[c]?):rowAt w' e sz cv n xs:=by
 refine⟨h.1,h.2.imp id ?_⟩;rintro⟨c,o,cap,cur,rfl,hc,r⟩;exact⟨c,o,cap,cur,rfl,by rw[hh c rfl];exact hc,r⟩
theorem fK.lt{g:Gh}{n:Nat}{w:aP}{l:Loc}{e sz len:Nat}{cv:bt}(h:fK g n w l e sz len cv):∀c,cv.ownBlock=some c->c<w.heap.size:=by
 obtain⟨xs,ho,_⟩:=h;exact λc hc=>ho.lt c hc
def Nm(g:Gh)(l0:Option Loc)(w:aP)(c:Nat):Prop:=w.heap.size<=c\/∃l,l0=some l/\g.own c=some l
theorem fK.nt{d:Nat}{b0:Option Nat}{l0:Option Loc}{n n':Nat}{g g':Gh}{w w':aP}(hs:ir d b0 l0 n g w g' w'){l:Loc}(hl:l0≠some l)
  (hn:∀b,n<=b->b<n'->Nm g l0 w (g'.bP b)) {e sz len:Nat} {cv:bt} (h:fK g n w l e sz len cv):fK g' n' w' l e sz len cv:=by
 have bR:=h.lt;obtain⟨xs,ho,hc⟩:=h;have cI:∀c,cv.ownBlock=some c->∀l',l0=some l'->g.own c≠some l':=λc ri l' mK e=>by
  rw[(hc c ri).1] at e;cases e;exact hl mK
 refine⟨xs,za0 ho λc ri=>hs.heap c (bR c ri) (λb hb=>(hc c ri).2.2 b (hs.DM b hb)) (cI c ri),λc ri=>⟨?_,?_,?_⟩⟩
 ·rw[hs.own c (bR c ri) (cI c ri)];exact(hc c ri).1
 ·exact(hc c ri).2.1.eq λo=>hs.M c (bR c ri) (cI c ri) o
 ·intro b hb e;rcases eX b n with h1|h1
  ·exact(hc c ri).2.2 b h1 ((hs.le.bP b h1).symm.trans e)
  ·have:=bR c ri;rcases hn b h1 hb with h2|⟨l',h2,h3⟩
   ·omega
   ·rw[e,(hc c ri).1] at h3;cases h3;exact hl h2
theorem fK.same{d:Nat}{b0:Option Nat}{l0:Option Loc}{n n':Nat}{g g':Gh}{w w':aP}(hs:ir d b0 l0 n g w g' w'){l:Loc}(hl:l0≠some l)
  (hn:∀b,n<=b->b<n'->w.heap.size<=g'.bP b) {e sz len:Nat} {cv:bt} (h:fK g n w l e sz len cv):fK g' n' w' l e sz len cv :=
 fK.nt hs hl (λb h1 h2=>.inl (hn b h1 h2)) h
theorem cM.nt{d:Nat}{b0:Option Nat}{l0:Option Loc}{n n':Nat}{g g':Gh}{w w':aP}(hs:ir d b0 l0 n g w g' w'){l:Loc}(hl:l0≠some l)
  (hn:∀b,n<=b->b<n'->Nm g l0 w (g'.bP b)) {x:V} {cv:bt} (h:cM g n w l x cv):cM g' n' w' l x cv:=by
 unfold cM at *;split
 ·exact fK.nt hs hl hn h
 ·trivial
theorem cM.same{d:Nat}{b0:Option Nat}{l0:Option Loc}{n n':Nat}{g g':Gh}{w w':aP}(hs:ir d b0 l0 n g w g' w'){l:Loc}(hl:l0≠some l)
  (hn:∀b,n<=b->b<n'->w.heap.size<=g'.bP b) {x:V} {cv:bt} (h:cM g n w l x cv):cM g' n' w' l x cv :=
 cM.nt hs hl (λb h1 h2=>.inl (hn b h1 h2)) h
theorem vk(g:Gh)(n:Nat)(w:aP)(l:Loc)(x:V)(cv:bt):cM g n w l (aW x) cv:=by
 cases x<;>simp[aW,cM]
theorem fY.nt{d:Nat}{b0:Option Nat}{l0:Option Loc}{n n':Nat}{g g':Gh}{w w':aP}(hs:ir d b0 l0 n g w g' w'){b:Nat}(hb:b0≠some b)(Nn:b<n)
  (bR:g.bP b<w.heap.size) (iC:g.own (g.bP b)=none) (Ce:∀b',b0=some b'->g.bP b'≠g.bP b)
  (hn:∀b,n<=b->b<n'->Nm g l0 w (g'.bP b)) {x:aV} (dr:x.top<=n) (h:fY g n w b x):fY g' n' w' b x:=by
 have cI:∀l,l0=some l->g.own (g.bP b)≠some l:=by
  intro l _;rw[iC];simp
 have n_:w'.heap[g'.bP b]?=w.heap[g.bP b]?:=by
  rw[hs.le.bP b Nn];exact hs.heap _ bR Ce cI
 have dg:∀j,l0≠some (.cell b j):=λj e=>by
  rcases hs.OM _ e with⟨t,ht⟩|⟨b',j',he,cZ⟩
  ·cases ht
  ·cases he;exact hb cZ
 cases x with
 | cells cs t =>
  obtain⟨arr,ha,hl,hj⟩:=h;refine⟨arr,n_.trans ha,hl,λj x v hx hv=>?_⟩;obtain⟨h1,h2,h3,h4⟩:=hj j x v hx hv;have DN:x.top<=n:=cP (zn (zv hx)) dr;refine⟨h1,h2.le hs.le DN,cM.nt hs (dg j) hn h3,?_⟩;unfold OK at *;split
  ·rw[hs.lk b j λl hl e=>dg j (e ▸ hl)];exact h4
  ·trivial
 | map es =>
  obtain⟨en,ck,ha,hl,hj⟩:=h;have ht:=tu.1 (show max (aI (es.map (·.1))) (aI (es.map (·.2)))<=n from dr);refine⟨en,ck,n_.trans ha,hl,λj x me hx KZ=>?_⟩;obtain⟨h1,h2⟩:=hj j x me hx KZ;exact⟨h1.le hs.le (cP (zn (Hg (f:=(·.1)) (zv hx))) ht.1),h2.le hs.le (cP (zn (Hg (f:=(·.2)) (zv hx))) ht.2)⟩
 | iter s pos=>exact⟨n_.trans h.1,h.2⟩
 | ul eI sz cs e =>
  obtain⟨c,len,cap,vs,hu⟩:=h;have bR:c<w.heap.size:=(hu.row.lt c rfl).2;have eT:∀l,l0=some l->g.own c≠some l:=λl mK e'=>by
   rcases hu.Cd with h1|h1
   ·exact cI l mK (h1 ▸ e')
   ·rw[h1] at e';cases e';exact dg 0 mK
  have hnb:∀b',b0=some b'->g.bP b'≠c:=λb' cZ=>hu.others b' (hs.DM b' cZ) λe'=>hb (e' ▸ cZ);refine⟨c,len,cap,vs,?_,hu.pos,zcR hu.row λk hk=>?_,?_,λo=>?_,λb' cZ Vi e'=>?_,hu.len,λj x v hx hv=>?_,λu hlu=>?_⟩
  ·rw[hs.eZ b eI Nn hb];exact hu.eZ
  ·cases hk;exact hs.heap c bR hnb eT
  ·rw[hs.le.bP b Nn,hs.own c bR eT];exact hu.Cd
  ·rw[hs.M c bR eT];exact hu.M o
  ·rcases eX b' n with h1|h1
   ·exact hu.others b' h1 Vi ((hs.le.bP b' h1).symm.trans e')
   ·rcases hn b' h1 cZ with h2|⟨l,h2,h3⟩
    ·omega
    ·exact eT l h2 (e' ▸ h3)
  ·obtain⟨h1,h2⟩:=hu.cells j x v hx hv;exact⟨h1,h2.le hs.le (cP (zn (zv hx)) dr)⟩
  ·rw[hs.eZ b u Nn hb];exact hu.fresh u hlu
theorem fY.same{d:Nat}{b0:Option Nat}{l0:Option Loc}{n n':Nat}{g g':Gh}{w w':aP}(hs:ir d b0 l0 n g w g' w'){b:Nat}(hb:b0≠some b)(Nn:b<n)
  (bR:g.bP b<w.heap.size) (iC:g.own (g.bP b)=none) (Ce:∀b',b0=some b'->g.bP b'≠g.bP b)
  (hn:∀b,n<=b->b<n'->w.heap.size<=g'.bP b) {x:aV} (dr:x.top<=n) (h:fY g n w b x):fY g' n' w' b x :=
 fY.nt hs hb Nn bR iC Ce (λb h1 h2=>.inl (hn b h1 h2)) dr h
theorem ir.fr{d:Nat}{b0:Option Nat}{l0:Option Loc}{bs:List aV}{g g':Gh}{w w':aP}(hs:ir d b0 l0 bs.length g w g' w')(hl:∀b j,l0=some (.cell b j)->¬jp bs b j) :
  Fr d bs g w g' w':=by
 have cI:∀c,rM d bs.length g w c->∀l,l0=some l->g.own c≠some l:=by
  intro c hc l mK e;rcases hc.2.2 with h0|⟨d',t,h1,hd⟩
  ·rw[h0] at e;cases e
  ·rw[h1] at e;cases e;rcases hs.OM _ mK with⟨t',ht⟩|⟨b,j,hj,_⟩
   ·cases ht;omega
   ·cases hj
 exact⟨hs.le,λc hc=>hs.heap c hc.1 (λb hb=>hc.2.1 b (hs.DM b hb)) (cI c hc),λc hc=>hs.own c hc.1 (cI c hc),λc hc=>hs.M c hc.1 (cI c hc),hs.size,
  λb off pO=>hs.lk b off λl mK e=>hl b off (e ▸ mK) pO,hs.os,hs.tape,hs.output⟩
theorem C4.le{n n':Nat}{g g':Gh}(hg:Gh.Le n g g')(hn:n<=n'){x:V×aD}{d:Deferred}(h:C4 g n x d):C4 g' n' x d:=by
 obtain⟨f,as,cs,fc,h1,h2,h3,h4,h5,h6,h7,h8⟩:=h
 exact⟨f,as,cs,fc,h1,h2,h3,h4,λj y v hy hv=>(h5 j y v hy hv).le hg (cP (zn (zv hy)) h7),λj y v hy hv=>(h6 j y v hy hv).le hg (cP (zn (zv hy)) h8),
  cP h7 hn,cP h8 hn⟩
theorem uS.le{n n':Nat}{g g':Gh}(hg:Gh.Le n g g')(hn:n<=n'){x:V×aD}{d:Deferred}(h:uS g n x d):uS g' n' x d:=h.imp (λh=>h.le hg hn) id
theorem Rel.C5{B:dS}{g:Gh}{s:St}{a:Act}{w:aP}(h:Rel B g s a w){b0:Option Nat}{l0:Option Loc}{g':Gh}{w':aP}(hs:ir B.d b0 l0 s.H.az.length g w g' w'){s':St}
  (hlen:s.H.az.length<=s'.H.az.length)
  (hold:∀b,b<s.H.az.length->b0≠some b->s'.H.az[b]?=s.H.az[b]?)
  (Hw:∀(b:Nat)(x:aV),(b0=some b\/s.H.az.length<=b)->s'.H.az[b]?=some x->fY g' s'.H.az.length w' b x/\x.top<=s'.H.az.length)
  (dX:∀b,s.H.az.length<=b->b<s'.H.az.length->(Nm g l0 w (g'.bP b)/\B.w.heap.size<=g'.bP b)/\g'.bP b<w'.heap.size/\g'.own (g'.bP b)=none/\∀o,g'.M (g'.bP b) o=none)
  (Ce:∀b b',s.H.az.length<=b->b<s'.H.az.length->s.H.az.length<=b'->b'<s'.H.az.length->g'.bP b=g'.bP b'->b=b')
  (dJ:∀c o v,g'.M c o=some v->w'.cell? ⟨c,o,none⟩=some v)
  (sn:∀c l,g'.own c=some l->c<w'.heap.size)
  (K0:∀b j,l0=some (.cell b j)->¬jp s.H.az b j)
  (C6:s'.env.length=s.env.length) (DO:s'.defers=s.defers)
  (i_:∀(t:Nat)(x:V),s'.env[t]?=some x->∃y,s.env[t]?=some y/\(x=y/\l0≠some (.slot B.d t)\/x=aW y))
  (Cf:OL B.bs s'.H) (DP:∀b off,DK B b off->jp s'.H.az b off) (K1:∀p∈s'.lk,¬DK B p.1 p.2) (so:∀t,l0=some (.slot B.d t)->∀p∈B.cW,p.t≠t):Rel B g' s' a w':=by
 have hn:∀b,s.H.az.length<=b->b<s'.H.az.length->Nm g l0 w (g'.bP b):=λb h1 h2=>(dX b h1 h2).1.1;have uT:∀b,s.H.az.length<=b->b<s'.H.az.length->∀c,c<w.heap.size->(∀l,l0=some l->g.own c≠some l)->g'.bP b≠c:=λb h1 h2 c h3 h4 e=>by
  rcases hn b h1 h2 with h5|⟨l,h5,h6⟩
  ·omega
  ·exact h4 l h5 (e ▸ h6)
 have cI:∀b,b<s.H.az.length->∀l,l0=some l->g.own (g.bP b)≠some l:=λb hb l _=>by rw[h.cY.eD b hb];simp
 have nR:∀b,b<s.H.az.length->g'.bP b=g.bP b:=λb hb=>hs.le.bP b hb;refine { cY:=?_,len:=C6.trans h.len,env:=?_,dO:=?_,n0:=cP h.n0 hlen,bG:=Cf,d_:=?_,fr:=?_,lV:=DP,n8:=K1,cW:=?_,eF:=by rw[DO];exact h.eF,defers:=?_,marks:=λd hd D hD=>?_,nq:=h.nq }
 ·refine { mem:=dJ,lt:=?_,inj:=?_,apart:=?_,eV:=sn,eD:=?_,ok:=?_,aI:=?_,laid:=?_ }
  ·intro b hb;rcases eX b s.H.az.length with h1|h1
   ·rw[nR b h1];exact uO (h.cY.lt b h1) hs.size
   ·exact(dX b h1 hb).2.1
  ·intro b b' hb cZ e;rcases eX b s.H.az.length with h1|h1<;>rcases eX b' s.H.az.length with h2|h2
   ·rw[nR b h1,nR b' h2] at e;exact h.cY.inj b b' h1 h2 e
   ·rw[nR b h1] at e;exact absurd e.symm (uT b' h2 cZ _ (h.cY.lt b h1) (cI b h1))
   ·rw[nR b' h2] at e;exact absurd e (uT b h1 hb _ (h.cY.lt b' h2) (cI b' h2))
   ·exact Ce b b' h1 hb h2 cZ e
  ·intro b hb o;rcases eX b s.H.az.length with h1|h1
   ·rw[nR b h1,hs.M _ (h.cY.lt b h1) (cI b h1)];exact h.cY.apart b h1 o
   ·exact(dX b h1 hb).2.2.2 o
  ·intro b hb;rcases eX b s.H.az.length with h1|h1
   ·rw[nR b h1,hs.own _ (h.cY.lt b h1) (cI b h1)];exact h.cY.eD b h1
   ·exact(dX b h1 hb).2.2.1
  ·intro b x hx
   by_cases hc:b0=some b\/s.H.az.length<=b
   ·exact(Hw b x hc hx).1
   ·have h1:b<s.H.az.length:=by omega
    have h2:b0≠some b:=λe=>hc (.inl e);rw[hold b h1 h2] at hx;exact fY.nt hs h2 h1 (h.cY.lt b h1) (h.cY.eD b h1) (λb' cZ e=>h2 (by rw[cZ,h.cY.inj b' b (hs.DM b' cZ) h1 e])) hn (h.cY.aI b x hx) (h.cY.ok b x hx)
  ·intro b x hx
   by_cases hc:b0=some b\/s.H.az.length<=b
   ·exact(Hw b x hc hx).2
   ·have h1:b<s.H.az.length:=by omega
    rw[hold b h1 (λe=>hc (.inl e))] at hx;exact cP (h.cY.aI b x hx) hlen
  ·intro c hc;rw[hs.le.obj] at hc;obtain⟨⟨cs,t,h1⟩,h2,h3⟩:=h.cY.laid c hc;have bR:c<w.heap.size:=(tj.1 h1).1;have eT:∀l,l0=some l->g.own c≠some l:=λl _=>by rw[h2];simp
   refine⟨⟨cs,t,by rw[hs.heap c bR (λb hb=>h3 b (hs.DM b hb)) eT];exact h1⟩,by rw[hs.own c bR eT];exact h2,λb hb e=>?_⟩
   rcases eX b s.H.az.length with h4|h4
   ·rw[nR b h4] at e;exact h3 b h4 e
   ·exact uT b h4 hb c bR eT e
 ·intro t x v hx hv;obtain⟨y,hy,Hx⟩:=i_ t x hx;obtain⟨h1,h2⟩:=h.env t y v hy hv;have h3:=h.dO t y hy;rcases Hx with⟨rfl,hl⟩|rfl
  ·exact⟨h1.le hs.le h3,cM.nt hs hl hn h2⟩
  ·exact⟨(h1.le hs.le h3).aW,vk _ _ _ _ _ _⟩
 ·intro t x hx;obtain⟨y,hy,Hx⟩:=i_ t x hx;have h3:=h.dO t y hy;rcases Hx with⟨rfl,_⟩|rfl
  ·exact cP h3 hlen
  ·rw[jm];exact cP h3 hlen
 ·intro b h1 h2;rcases eX b s.H.az.length with h3|h3
  ·rw[nR b h3];exact h.d_ b h1 h3
  ·exact(dX b h3 h2).1.2
 ·exact h.fr.trans h.n0 h.d_ (λb off hl=>h.lV b off (.inl hl)) (hs.fr K0)
 ·intro p hp;obtain⟨p1,p2,p3,p4,p5⟩:=h.cW p hp;refine⟨by rw[C6];exact p1,p2.le hs.le p4,cM.nt hs (λe=>?_) hn p3,cP p4 hlen,λb off e=>?_⟩
  ·exact so _ e p hp rfl
  ·rw[hs.lk b off λl hl e'=>K0 b off (e' ▸ hl) (h.lV b off (.inr ⟨p,hp,e⟩))];exact p5 b off e
 ·intro j x d hx hd;rw[DO] at hx;exact(h.defers j x d hx hd).le hs.le hlen
 ·obtain⟨h0,h1,h2,h3⟩:=h.marks d hd D hD;have bR:D<w.heap.size:=(tj.1 h1).1;have eT:∀l,l0=some l->g.own D≠some l:=λl _=>by rw[h3];simp
  refine⟨h0,by rw[hs.heap D bR (λb hb=>h2 b (hs.DM b hb)) eT];exact h1,λb hb e=>?_,by rw[hs.own D bR eT];exact h3⟩
  rcases eX b s.H.az.length with h4|h4
  ·rw[nR b h4] at e;exact h2 b h4 e
  ·exact uT b h4 hb D bR eT e
theorem Rel.j_{B:dS}{g:Gh}{s:St}{a:Act}{w:aP}(h:Rel B g s a w){b0:Option Nat}{l0:Option Loc}{g':Gh}{w':aP}(hs:ir B.d b0 l0 s.H.az.length g w g' w'){s':St}
  (hlen:s.H.az.length<=s'.H.az.length)
  (hold:∀b,b<s.H.az.length->b0≠some b->s'.H.az[b]?=s.H.az[b]?)
  (Hw:∀(b:Nat)(x:aV),(b0=some b\/s.H.az.length<=b)->s'.H.az[b]?=some x->fY g' s'.H.az.length w' b x/\x.top<=s'.H.az.length)
  (dX:∀b,s.H.az.length<=b->b<s'.H.az.length->w.heap.size<=g'.bP b/\g'.bP b<w'.heap.size/\g'.own (g'.bP b)=none/\∀o,g'.M (g'.bP b) o=none)
  (Ce:∀b b',s.H.az.length<=b->b<s'.H.az.length->s.H.az.length<=b'->b'<s'.H.az.length->g'.bP b=g'.bP b'->b=b')
  (dJ:∀c o v,g'.M c o=some v->w'.cell? ⟨c,o,none⟩=some v)
  (sn:∀c l,g'.own c=some l->c<w'.heap.size)
  (K0:∀b j,l0=some (.cell b j)->¬jp s.H.az b j)
  (C6:s'.env.length=s.env.length) (DO:s'.defers=s.defers)
  (i_:∀(t:Nat)(x:V),s'.env[t]?=some x->∃y,s.env[t]?=some y/\(x=y/\l0≠some (.slot B.d t)\/x=aW y))
  (Cf:OL B.bs s'.H) (DP:∀b off,DK B b off->jp s'.H.az b off) (K1:∀p∈s'.lk,¬DK B p.1 p.2) (so:∀t,l0=some (.slot B.d t)->t<=s.env.length):Rel B g' s' a w' :=
 h.C5 hs hlen hold Hw (λb h1 h2=>⟨⟨.inl (dX b h1 h2).1,cP h.fr.size (dX b h1 h2).1⟩,(dX b h1 h2).2⟩) Ce dJ sn K0 C6 DO i_ Cf DP K1
  λt e p hp e'=>by have:=so t e;have:=(h.cW p hp).1;omega
end
section
mutual
theorem Vj(g:Gh):∀(v:bt)(x:V),aj v=some x->aR g x v/\x.top=0
 | .bool b,x,h=>by simp only[aj,br] at h;subst h;exact⟨.bool b,rfl⟩
 | .int k n,x,h=>by simp only[aj,br] at h;subst h;exact⟨.int k n,rfl⟩
 | .float _ _,x,h=>by simp[aj] at h
 | .complex _ _ _,x,h=>by simp[aj] at h
 | .string s,x,h=>by
  simp only[aj,br] at h;subst h;have e:s=bytes (s.data.toList.map UInt8.toNat):=by
   cases s;simp[bytes,Function.comp_def]
  refine⟨?_,rfl⟩
  conv=>rhs;rw[e]
  exact .str λb hb=>by
   obtain⟨c,_,rfl⟩:=mj.1 hb;exact c.toNat_lt
 | .pointer a,x,h=>by
  cases a with
  | none=>simp only[aj,br] at h;subst h;exact⟨.fR,rfl⟩
  | some _=>simp[aj] at h
 | .slice a n c,x,h=>by
  unfold aj at h;split at h<;>first|(rename_i e;cases e;done)|skip
  all_goals first
   |(simp only[br] at h;subst h;rename_i e;cases e;first|exact⟨.aG,rfl⟩)
   |(cases h;done)
   |(rename_i e;cases e)
 | .map r,x,h=>by
  cases r with
  | none=>simp only[aj,br] at h;subst h;exact⟨.mo,rfl⟩
  | some _=>simp[aj] at h
 | .chan _,x,h=>by simp[aj] at h
 | .func f ⟨as⟩ ⟨cs⟩,x,h=>by
  cases as with
  | nil=>cases cs with
   | nil =>
    simp only[aj,br] at h;subst h;exact⟨.fn rfl rfl (λj x v hx=>by simp at hx) (λj x v hx=>by simp at hx),rfl⟩
   | cons _ _=>simp[aj] at h
  | cons _ _=>simp[aj] at h
 | .nilFunc,x,h=>by simp only[aj,br] at h;subst h;exact⟨.oY,rfl⟩
 | .iface _ _,x,h=>by simp[aj] at h
 | .nilIface,x,h=>by simp only[aj,br] at h;subst h;exact⟨.bM,rfl⟩
 | .agg ⟨cs⟩,x,h=>by
  simp only[aj,eG] at h;obtain⟨l,hl,h⟩:=h;split at h
  ·rename_i dF;simp only[br] at h;subst h;obtain⟨h1,h2,h3⟩:=zdi g cs l hl;refine⟨.agg (by simpa using h1) (λj x hx=>B_.1 dF x (zv hx)) (λj x v hx hv=>h2 j x v hx (by simpa using hv)),?_⟩
   simp only[V.top];exact h3
  ·cases h
 | .tuple ⟨vs⟩,x,h=>by
  cases vs with
  | nil=>simp only[aj,br] at h;subst h;exact⟨.bq rfl (λj x v hx=>by simp at hx),rfl⟩
  | cons _ _=>simp[aj] at h
theorem zdi(g:Gh):∀(vs:dx)(xs:aD),ni vs=some xs->xs.length=vs.length/\(∀(j:Nat)(x:V)(v:bt),xs[j]?=some x->vs[j]?=some v->aR g x v)/\aI xs=0
 | [],xs,h=>by simp only[ni,br] at h;subst h;exact⟨rfl,λj x v hx=>by simp at hx,rfl⟩
 | v::vs,xs,h=>by
  simp only[ni] at h;split at h
  ·rename_i x ys hx s6;simp only[br] at h;subst h;obtain⟨h1,h2⟩:=Vj g v x hx;obtain⟨h3,h4,h5⟩:=zdi g vs ys s6;refine⟨by simp[h3],λj y u hy hu=>?_,by simp[aI,h2,h5]⟩
   cases j with
   | zero=>simp at hy hu;subst hy;subst hu;exact h1
   | succ j=>simp at hy hu;exact h4 j y u hy hu
  ·cases h
end
variable{B:dS}{g:Gh}{s:St}{a:Act}{w:aP}
theorem Rel.slot(h:Rel B g s a w){t:Nat}{x:V}(hx:s.env[t]?=some x):∃v,a.tmps[t]?=some v/\a.eval (.tmp t)=v:=by
 have bR:t<a.tmps.size:=by rw[<- h.len];exact(c_.1 hx).1
 refine⟨a.tmps[t],Eh bR,?_⟩;simp[Act.eval,Array.getD,bR]
theorem zez{n:Nat}{l:Loc}{x:V}{v cv:bt}(h:aj v=some x):cM g n w l x cv:=by
 unfold cM;split
 ·unfold aj at h;split at h<;>try (simp at h;done)
  all_goals (simp only[eG] at h;obtain⟨l,_,h⟩:=h;split at h<;>simp at h)
 ·trivial
theorem zJ(h:Rel B g s a w){x:aX}{v:V}(hp:ak s.env x=some v) :
  aR g v (a.eval x)/\v.top<=s.H.az.length/\∀n l,cM g n w l v (a.eval x):=by
 cases x with
 | tmp t =>
  simp only[ak,zg] at hp;split at hp<;>simp only[br,reduceCtorEq] at hp;rename_i y hy;subst hp;obtain⟨cv,iV,he⟩:=h.slot hy;rw[he];exact⟨(h.env t y cv hy iV).1.aW,by rw[jm];exact h.dO t y hy,λ_ _=>vk _ _ _ _ _ _⟩
 | const c =>
  simp only[ak] at hp;obtain⟨h1,h2⟩:=Vj g c v hp;exact⟨h1,by omega,λ_ _=>zez hp⟩
 | global k =>
  simp only[ak,br] at hp;subst hp;exact⟨.fq k 0,eg _,λ_ _=>trivial⟩
 | func f =>
  simp only[ak,br] at hp;subst hp;exact⟨.fn rfl rfl (λj x v hx=>by simp at hx) (λj x v hx=>by simp at hx),eg _,λ_ _=>trivial⟩
theorem Rel.hand(h:Rel B g s a w){t:Nat}{v:V}(hv:s.env[t]?=some v)(c:Nat)(hc:g.own c=some (.slot B.d t))(hcw:c<w.heap.size)(l:Loc) :
  Rel B { g with own:=λx=>if x=c then some l else g.own x } { s with env:=s.env.set t (aW v) } a w:=by
 have ht:t<s.env.length:=(c_.1 hv).1;refine h.j_ (b0:=none) (l0:=some (.slot B.d t)) ?_ (dI _) (λ_ _ _=>rfl) (λb x hb hx=>?_) (λb h1 h2=>?_) (λb b' h1 h2=>?_) h.cY.mem (λc' l' ej=>?_) (λb j e=>by cases e) (by simp) rfl (λt' x hx=>?_) h.bG h.lV h.n8 ?_
 ·refine⟨⟨λ_ _ _ e=>e,λ_ _=>rfl,rfl,λ_ _ _ _ e=>e⟩,λ_ _ _ _=>rfl,λc' _ h'=>?_,λ_ _ _ _=>rfl,dI _,λ_ _ _=>rfl,λl' mK=>?_,λb hb=>(by cases hb),λ_ _ _ _=>rfl,rfl,rfl,rfl⟩
  ·show(if c'=c then some l else g.own c')=g.own c'
   rw[if_neg];rintro rfl;exact h' _ rfl hc
  ·cases mK;exact .inl ⟨t,rfl⟩
 ·rcases hb with hb|hb
  ·cases hb
  ·have:=(c_.1 hx).1;simp only at this;omega
 ·simp only at h2;omega
 ·simp only at h2;omega
 ·simp only at ej;split at ej
  next e=>rw[e];exact hcw
  ·exact h.cY.eV c' l' ej
 ·simp only[s4] at hx;split at hx
  next e=>subst e;simp only[br] at hx;exact⟨v,hv,.inr hx.symm⟩
  next e=>exact⟨x,hx,.inl ⟨rfl,λe'=>e (by cases e';rfl)⟩⟩
 ·intro t' e;cases e;exact Nat.le_of_lt ht
theorem Rel.clear(h:Rel B g s a w){t:Nat}{v:V}(hv:s.env[t]?=some v):Rel B g { s with env:=s.env.set t (aW v) } a w:=by
 have ht:t<s.env.length:=(c_.1 hv).1;refine h.j_ (b0:=none) (l0:=none) ?_ (dI _) (λ_ _ _=>rfl) (λb x hb hx=>?_) (λb h1 h2=>?_) (λb b' h1 h2=>?_) h.cY.mem h.cY.eV (λb j e=>by cases e) (by simp) rfl (λt' x hx=>?_) h.bG h.lV h.n8 ?_
 ·exact⟨⟨λ_ _ _ e=>e,λ_ _=>rfl,rfl,λ_ _ _ _ e=>e⟩,λ_ _ _ _=>rfl,λ_ _ _=>rfl,λ_ _ _ _=>rfl,dI _,λ_ _ _=>rfl,λl' mK=>(by cases mK),λb hb=>(by cases hb),λ_ _ _ _=>rfl,rfl,rfl,rfl⟩
 ·rcases hb with hb|hb
  ·cases hb
  ·have:=(c_.1 hx).1;simp only at this;omega
 ·simp only at h2;omega
 ·simp only at h2;omega
 ·simp only[s4] at hx;split at hx
  next e=>subst e;simp only[br] at hx;exact⟨v,hv,.inr hx.symm⟩
  ·exact⟨x,hx,.inl ⟨rfl,λe'=>by cases e'⟩⟩
 ·intro t' e;cases e
structure Gh.Alike(g g':Gh):Prop where
 M:g'.M=g.M
 bP:g'.bP=g.bP
 obj:g'.obj=g.obj
 lk:g'.lk=g.lk
 eZ:g'.eZ=g.eZ
theorem Gh.Alike.refl(g:Gh):Gh.Alike g g:=⟨rfl,rfl,rfl,rfl,rfl⟩
theorem Gh.Alike.le{g g':Gh}(h:Gh.Alike g g')(n:Nat):Gh.Le n g g':=⟨λ_ _ _ e=>by rw[h.M];exact e,λ_ _=>by rw[h.bP],h.obj,λ_ _ _ _ e=>by rw[h.eZ];exact e⟩
theorem Gh.Alike.rel{g g':Gh}(h:Gh.Alike g g'){v:V}{cv:bt}(hr:aR g v cv):aR g' v cv:=hr.le (h.le v.top) (dI _)
theorem vJ(h:Rel B g s a w){x:aX}{v:V}{cX:aD}(ht:take s.env x=some (v,cX))(l:Loc) :
  ∃g',Rel B g' { s with env:=cX } a w/\aR g' v (a.eval x)/\cM g' s.H.az.length w l v (a.eval x)/\v.top<=s.H.az.length/\Gh.Alike g g':=by
 have plain:∀y,(∀t,y≠.tmp t)->take s.env y=some (v,cX)->∃g',Rel B g' { s with env:=cX } a w/\aR g' v (a.eval y)/\cM g' s.H.az.length w l v (a.eval y)/\v.top<=s.H.az.length/\Gh.Alike g g':=by
  intro y hy s7;have hp:ak s.env y=some v/\s.env=cX:=by
   cases y with
   | tmp t=>exact absurd rfl (hy t)
   | _ =>
    simp only[take,m9,cg] at s7;obtain⟨u,hu,rfl,rfl⟩:=s7;exact⟨hu,rfl⟩
  obtain⟨h1,h2,h3⟩:=zJ h hp.1;rw[<- hp.2];exact⟨g,h,h1,h3 _ _,h2,.refl g⟩
 cases x with
 | tmp t =>
  simp only[take,zg,fm] at ht;split at ht<;>simp only[br,cg,reduceCtorEq] at ht
  ·rename_i sz xs e hy;obtain⟨rfl,rfl⟩:=ht;obtain⟨cv,iV,he⟩:=h.slot hy;obtain⟨h1,h2⟩:=h.env t _ cv hy iV;have h3:=h.dO t _ hy;rw[he];have Gs:fK g s.H.az.length w (.slot B.d t) e sz xs.length cv:=h2;cases Gt:cv.ownBlock with
   | none =>
    obtain⟨ys,ho,_⟩:=Gs;exact⟨g,h.clear hy,h1,⟨ys,ho,λc hc=>by rw[Gt] at hc;cases hc⟩,h3,.refl g⟩
   | some c =>
    have bR:=Gs.lt c Gt;obtain⟨ys,ho,hc⟩:=Gs;obtain⟨c1,c2,c3⟩:=hc c Gt;refine⟨_,h.hand hy c c1 bR l,?_,⟨ys,ho,λc' ej=>?_⟩,h3,⟨rfl,rfl,rfl,rfl,rfl⟩⟩
    ·exact Gh.Alike.rel (g:=g) (g':={ g with own:=λx=>if x=c then some l else g.own x }) ⟨rfl,rfl,rfl,rfl,rfl⟩ h1
    ·rw[Gt] at ej;cases ej;exact⟨by simp,c2,c3⟩
  next y _ hy=>obtain⟨rfl,rfl⟩:=ht;obtain⟨cv,iV,he⟩:=h.slot hy;obtain⟨h1,h2⟩:=h.env t _ cv hy iV;rw[he];exact⟨g,h,h1.aW,vk _ _ _ _ _ _,by rw[jm];exact h.dO t _ hy,.refl g⟩
 | const c=>exact plain _ (λt=>by simp) ht
 | global k=>exact plain _ (λt=>by simp) ht
 | func f=>exact plain _ (λt=>by simp) ht
structure DQ(B:dS)(g:Gh)(s:St)(a:Act)(w:aP)(dst:fH)(v:V)(cv:bt):Prop where
 rel:Rel B g s a w
 val:aR g v cv
 own:∀t,dst=some t->cM g s.H.az.length w (.slot B.d t) v cv
 top:v.top<=s.H.az.length
theorem wU{dst:fH}{v:V}{cv:bt}(h:DQ B g s a w dst v cv):Rel B g { s with env:=aq s.env dst v } (a.put dst cv) w:=by
 cases dst with
 | none=>exact h.rel
 | some t =>
  have hr:=h.rel;refine { cY:=hr.cY,len:=by simpa[aq,Act.put] using hr.len,env:=?_,dO:=?_,n0:=hr.n0,bG:=hr.bG,d_:=hr.d_,fr:=hr.fr,lV:=hr.lV,n8:=hr.n8,cW:=by simpa[aq] using hr.cW,eF:=hr.eF,defers:=hr.defers,marks:=hr.marks,nq:=hr.nq }
  ·intro t' x u hx hu;simp only[aq,s4] at hx;simp only[Act.put,Array.getElem?_setIfInBounds] at hu
   by_cases e:t=t'
   ·subst e;simp only[aF] at hx hu;split at hx
    ·simp only[br] at hx;split at hu
     ·simp only[br] at hu;subst hx;subst hu;exact⟨h.val,h.own t rfl⟩
     ·cases hu
    ·cases hx
   ·simp only[e,bw] at hx hu;exact hr.env t' x u hx hu
  ·intro t' x hx;simp only[aq,s4] at hx
   by_cases e:t=t'
   ·subst e;simp only[aF] at hx;split at hx
    ·simp only[br] at hx;subst hx;exact h.top
    ·cases hx
   ·simp only[e,bw] at hx;exact hr.dO t' x hx
end
section
variable{P:aQ}{g:Gh}{w:aP}
theorem ju{t:aB}{n:Nat}(h:z4 P t=some n)(w:aP):(sizeOf t).run P w=.ok n w:=by
 simp only[z4,m9] at h;obtain⟨i,hi,rfl⟩:=h;simp[sizeOf,typeInfo,hi]
theorem SI{t:aB}{b:Bool}(h:qD P t=some b)(w:aP):(isAgg t).run P w=.ok b w:=by
 simp only[qD,m9] at h;obtain⟨d,hd,rfl⟩:=h;unfold isAgg;simp only[Sem.run_bind,run_underlying hd,Result.andThen_ok];cases d<;>rfl
structure bK(g:Gh)(cs:aD)(vs:dx):Prop where
 len:cs.length=vs.length
 one:∀(j:Nat)(x:V),cs[j]?=some x->x.one=true
 rel:∀(j:Nat)(x:V)(v:bt),cs[j]?=some x->vs[j]?=some v->aR g x v
theorem bK.get{cs:aD}{vs:dx}(h:bK g cs vs){j:Nat}{x:V}(hx:cs[j]?=some x):∃v,vs[j]?=some v/\aR g x v:=by
 have bR:j<vs.length:=by rw[<- h.len];exact(c_.1 hx).1
 exact⟨vs[j],gh bR,h.rel j x _ hx (gh bR)⟩
theorem bK.drop{cs:aD}{vs:dx}(h:bK g cs vs)(k:Nat):bK g (cs.drop k) (vs.drop k) :=
 ⟨by simp[h.len],λj x hx=>h.one (k+j) x (by simpa using hx),λj x v hx hv=>h.rel (k+j) x v (by simpa using hx) (by simpa using hv)⟩
theorem bK.take{cs:aD}{vs:dx}(h:bK g cs vs)(k:Nat):bK g (cs.take k) (vs.take k):=by
 refine⟨by simp[h.len],λj x hx=>?_,λj x v hx hv=>?_⟩
 ·rw[Ao] at hx;split at hx
  ·exact h.one j x hx
  ·cases hx
 ·rw[Ao] at hx hv;split at hx
  next hj=>rw[if_pos hj] at hv;exact h.rel j x v hx hv
  ·cases hx
theorem bK.agg{cs:aD}{arr:dN}(h:bK g cs arr.toList):aR g (.agg cs) (.agg arr) :=
 .agg (by simpa using h.len) h.one λj x v hx hv=>h.rel j x v hx (by simpa using hv)
theorem vl{cs:aD}{cv:bt}(h:aR g (.agg cs) cv):∃arr,cv=.agg arr/\bK g cs arr.toList:=by
 cases h with
 | agg h1 h2 h3=>exact⟨_,rfl,⟨by simpa using h1,h2,λj x v hx hv=>h3 j x v hx (by simpa using hv)⟩⟩
theorem bK.uU{cs:aD}{vs:dx}(h:bK g cs vs):bK g (cs.map aW) vs:=by
 refine⟨by simp[h.len],λj x hx=>?_,λj x v hx hv=>?_⟩
 ·simp only[iY,m9] at hx;obtain⟨y,hy,rfl⟩:=hx;exact(Vh y).trans (h.one j y hy)
 ·simp only[iY,m9] at hx;obtain⟨y,hy,rfl⟩:=hx;exact(h.rel j y v hy hv).aW
theorem No{cs:aD}{arr:dN}(h:bK g cs arr.toList){t:aB}{off:Nat}{v:V}(hv:wd P t cs off=some v)(w:aP) :
  ∃cv,(part t arr off).run P w=.ok cv w/\aR g v cv/\v.top<=aI cs/\(∀ys,v=.agg ys->∃vs,cv=.agg vs/\vs=arr.extract off (off+ys.length)):=by
 simp only[wd,Option.bind_eq_bind,eG] at hv;obtain⟨b,hb,hv⟩:=hv;unfold part;simp only[Sem.run_bind,SI hb,Result.andThen_ok];cases b with
 | true =>
  simp only[aF,eG] at hv;obtain⟨n,hn,hv⟩:=hv;split at hv<;>simp only[br,reduceCtorEq] at hv;rename_i hle;subst hv;simp only[aF,Sem.run_bind,ju hn,Result.andThen_ok,Sem.run_pure];have hl:(List.take n (List.drop off cs)).length=n:=by simp;omega
  refine⟨_,rfl,?_,?_,λys s6=>?_⟩
  ·refine bK.agg ?_;have:=(h.drop off).take n;simpa[List.take_drop] using this
  ·simp only[V.top];exact qL λx hx=>zn (B8 (B9 hx))
  ·cases s6;exact⟨_,rfl,by rw[hl]⟩
 | false =>
  simp only[fP,bw,zg] at hv;obtain⟨cv,iV,hr⟩:=h.get hv;simp only[fP,bw];have:arr[off]?=some cv:=by simpa using iV
  rw[this];refine⟨cv,rfl,hr,zn (zv hv),λys s6=>?_⟩;subst s6;have:=h.one off _ hv;simp[V.one,Cc] at this
theorem Vk{cs:aD}{vs:dx}(h:bK g cs vs){c o:Nat}(hc:∀j v,vs[j]?=some v->w.cell? ⟨c,o+j,none⟩=some v){t:aB}{off:Nat}{v:V}(hv:wd P t cs off=some v) :
  ∃cv,(loadVar t ⟨c,o+off,none⟩).run P w=.ok cv w/\aR g v cv/\v.top<=aI cs:=by
 simp only[wd,Option.bind_eq_bind,eG] at hv;obtain⟨b,hb,hv⟩:=hv;unfold loadVar;simp only[Sem.run_bind,SI hb,Result.andThen_ok];cases b with
 | true =>
  simp only[aF,eG] at hv;obtain⟨n,hn,hv⟩:=hv;split at hv<;>simp only[br,reduceCtorEq] at hv;rename_i hle;subst hv;have hr:=(h.drop off).take n;have hl:((vs.drop off).take n).length=n:=by simp;have:=h.len;omega
  have cq:=run_loadCells_list (P:=P) (w:=w) ⟨c,o+off,none⟩ ((vs.drop off).take n) (λj v hj=>by
   rw[Ao] at hj;split at hj
   ·rw[Addr.add_lit];rw[Hl] at hj;rw[pL];exact hc _ _ hj
   ·cases hj)
  rw[hl] at cq;simp only[aF,Sem.run_bind,ju hn,Result.andThen_ok,cq,Sem.run_pure];refine⟨_,rfl,bK.agg (by simpa using hr),?_⟩
  simp only[V.top];exact qL λx hx=>zn (B8 (B9 hx))
 | false =>
  simp only[fP,bw,zg] at hv;obtain⟨cv,iV,hr⟩:=h.get hv;refine⟨cv,?_,hr,zn (zv hv)⟩;simp[hc off cv iV]
end
section
variable{P:aQ}{g:Gh}{w:aP}
theorem zk0{op:BinOp}{k:IntKind}{x y:Int}{v:V}(t:aB)(h:j3 op k x y=some v)(w:aP) :
  ∃cv,(binOp op t (.int k x) (.int k y)).run P w=.ok cv w/\aR g v cv/\v.top=0/\∀m l,cM g m w l v cv:=by
 cases op<;>simp only[j3,br,reduceCtorEq] at h
 case quo =>
  split at h<;>simp only[br,reduceCtorEq] at h;rename_i hy;subst h;refine⟨.int _ _,?_,.int _ _,rfl,λ_ _=>trivial⟩;simp[binOp,Op.intDiv,hy]
 case rem =>
  split at h<;>simp only[br,reduceCtorEq] at h;rename_i hy;subst h;refine⟨.int _ _,?_,.int _ _,rfl,λ_ _=>trivial⟩;simp[binOp,Op.intDiv,hy]
 all_goals subst h
 all_goals first
  | (refine⟨.int _ _,?_,.int _ _,rfl,λ_ _=>trivial⟩;simp[binOp,Op.intArith,Op.intBits];done)
  | (refine⟨.bool _,?_,.bool _,rfl,λ_ _=>trivial⟩;simp[binOp,Op.intCmp];done)
theorem zgu{op:BinOp}{k k':IntKind}{x y:Int}{v:V}(h:KP op k x y=some v)(w:aP) :
  ∃cv,(Op.shift op k x k' y).run P w=.ok cv w/\aR g v cv/\v.top=0/\∀m l,cM g m w l v cv:=by
 simp only[KP] at h;split at h
 ·cases h
 ·rename_i hy;cases op<;>simp only[br,reduceCtorEq] at h
  all_goals
   subst h;refine⟨.int _ _,?_,.int _ _,rfl,λ_ _=>trivial⟩;simp[Op.shift,hy]
theorem o5:∀(x y:bN),(∀b:Nat,b∈x->b<256)->(∀b:Nat,b∈y->b<256)->(x.map UInt8.ofNat == y.map UInt8.ofNat)=nQ x y
 | [],[],_,_=>rfl
 | [],_::_,_,_=>rfl
 | _::_,[],_,_=>rfl
 | a::x,b::y,hx,hy=>by
  have ih:=o5 x y (λc hc=>hx c (dR _ hc)) (λc hc=>hy c (dR _ hc));have ha:=hx a (eH ..);have hb:=hy b (eH ..);have e:(UInt8.ofNat a == UInt8.ofNat b)=Nat.beq a b:=by
   rw[ET,beq_iff_eq,Nat.beq_eq];constructor
   ·intro h;have:=congrArg UInt8.toNat h;simpa[UInt8.toNat_ofNat',ES ha,ES hb] using this
   ·rintro rfl;rfl
  simp only[aY,nQ];rw[<- ih,<- e];rfl
theorem C7:∀(x y:bN),(∀b:Nat,b∈x->b<256)->(∀b:Nat,b∈y->b<256)->Op.bytesLess (x.map UInt8.ofNat) (y.map UInt8.ofNat)=KN x y
 | [],[],_,_=>rfl
 | [],_::_,_,_=>rfl
 | _::_,[],_,_=>rfl
 | a::x,b::y,hx,hy=>by
  have ih:=C7 x y (λc hc=>hx c (dR _ hc)) (λc hc=>hy c (dR _ hc));have ha:=hx a (eH ..);have hb:=hy b (eH ..);have e:(UInt8.ofNat a == UInt8.ofNat b)=Nat.beq a b:=by
   rw[ET,beq_iff_eq,Nat.beq_eq];constructor
   ·intro h;have:=congrArg UInt8.toNat h;simpa[UInt8.toNat_ofNat',ES ha,ES hb] using this
   ·rintro rfl;rfl
  have e2:decide (UInt8.ofNat a<UInt8.ofNat b)=Nat.blt a b:=by
   rw[ET,decide_eq_true_iff,UInt8.lt_iff_toNat_lt,UInt8.toNat_ofNat',UInt8.toNat_ofNat',ES ha,ES hb];simp only[Nat.blt,Nat.ble_eq];exact Nat.lt_iff_add_one_le
  simp only[aY,Op.bytesLess,KN,ih,e,e2]
theorem vm(x:bN):(bytes x).toList=x.map UInt8.ofNat:=by
 rw[ByteArray.toList_eq];simp[bytes]
theorem kH(x:bN):(bytes x).size=x.length:=by simp[bytes,ByteArray.size]
theorem zfh(x y:bN):bytes x++bytes y=bytes (x++y):=by
 apply ByteArray.ext;simp[bytes,ByteArray.data_append]
theorem zk1{op:BinOp}{x y:bN}{v:V}(t:aB)(hx:∀b:Nat,b∈x->b<256)(hy:∀b:Nat,b∈y->b<256)(h:OH op x y=some v)(w:aP) :
  ∃cv,(binOp op t (.string (bytes x)) (.string (bytes y))).run P w=.ok cv w/\aR g v cv/\v.top=0/\∀m l,cM g m w l v cv:=by
 have e1:=o5 x y hx hy;have e2:=C7 x y hx hy;have e0:(binOp op t (.string (bytes x)) (.string (bytes y)))=Op.stringOp op (bytes x) (bytes y):=by
  cases op<;>rfl
 rw[e0];cases op<;>simp only[OH,br,reduceCtorEq] at h
 case add =>
  split at h<;>simp only[br,reduceCtorEq] at h;rename_i hl;subst h;have hm:IntKind.i64.max=9223372036854775807:=by decide
  refine⟨.string (bytes (x++y)),?_,.str λb hb=>?_,rfl,λ_ _=>trivial⟩
  ·have:¬(((bytes x).size+(bytes y).size:Nat):Int) > IntKind.i64.max:=by rw[hm,kH,kH];omega
   simp only[Op.stringOp,if_neg this,zfh];rfl
  ·rcases rK.1 hb with hb|hb
   ·exact hx b hb
   ·exact hy b hb
 all_goals
  subst h;refine⟨.bool _,?_,.bool _,rfl,λ_ _=>trivial⟩;simp only[Op.stringOp,vm,e1,e2,Sem.run_pure]
def Np(P:aQ)(d:Nat)(e:aB)(n:Nat)(xs ys:dN):bN->Sem Bool
 | []=>pure true
 | i::is=>do
  let a <- part e xs (i * n)
  let b <- part e ys (i * n)
  let r <- Op.equalIn d e a b
  if (!r)=true then pure false else Np P d e n xs ys is
theorem zbq(d:Nat)(t e:aB)(len n:Nat)(xs ys:dN)(ht:P.underlying t=some (.array len e))(hn:z4 P e=some n)(w:aP) :
  (Op.equalIn (d+1) t (.agg xs) (.agg ys)).run P w=(Np P d e n xs ys (List.range' 0 len)).run P w:=by
 simp only[Op.equalIn,Sem.run_bind,run_underlying ht,ju hn,Result.andThen_ok];rw[Std.Legacy.Range.forIn_eq_forIn_range'];simp only[Std.Legacy.Range.size,Nat.sub_zero,Nat.add_sub_cancel,Nat.div_one];generalize List.range' 0 len=is
 induction is generalizing w with
 | nil=>simp[Np]
 | cons f fs ih =>
  simp only[List.forIn_cons,Np,Sem.run_bind,Sem.run_ite];generalize (part e xs (f * n)).run P w=r1;cases r1 with
  | ok a w1 =>
   simp only[Result.andThen_ok];generalize (part e ys (f * n)).run P w1=r2;cases r2 with
   | ok b w2 =>
    simp only[Result.andThen_ok];generalize (Op.equalIn d e a b).run P w2=r3;cases r3 with
    | ok r w3 =>
     cases r
     ·simp only[Result.andThen_ok,oo,aF,Sem.run_pure]
     ·simp only[Result.andThen_ok,mh,fP,bw,Sem.run_pure];exact ih w3
    | halt x w3=>simp[Result.andThen]
   | halt x w2=>simp[Result.andThen]
  | halt x w1=>simp[Result.andThen]
theorem ziV{eq:aB->V->V->Option Bool}{d:Nat}(heq:∀t x y b cx cy,eq t x y=some b->aR g x cx->aR g y cy->(Op.equalIn d t cx cy).run P w=.ok b w){xs ys:aD}{ax ay:dN}
  (hx:bK g xs ax.toList) (hy:bK g ys ay.toList):∀(fs:List Field)(b:Bool),OG P eq fs xs ys=some b->(Op.eqFields d ax ay fs).run P w=.ok b w
 | [],b,h=>by simp only[OG,br] at h;subst h;rfl
 | f::fs,b,h=>by
  simp only[OG] at h;split at h
  ·cases h
  ·rename_i hf;simp only[Option.bind_eq_bind,eG] at h;obtain⟨u,hu,v,hv,r,hr,h⟩:=h;obtain⟨cu,EX,Nq,_⟩:=No hx hu w;obtain⟨cv,EY,Gu,_⟩:=No hy hv w;simp only[Op.eqFields,ne_eq,hf,ue,aF,Sem.run_bind,EX,EY,heq _ _ _ _ _ _ hr Nq Gu,Result.andThen_ok];cases r with
   | true=>simp only[aF] at h;simpa using ziV heq hx hy fs b h
   | false=>simp only[fP,bw,br] at h;subst h;simp
theorem ziW{eq:aB->V->V->Option Bool}{d:Nat}(heq:∀t x y b cx cy,eq t x y=some b->aR g x cx->aR g y cy->(Op.equalIn d t cx cy).run P w=.ok b w){xs ys:aD}{ax ay:dN}
  (hx:bK g xs ax.toList) (hy:bK g ys ay.toList) (e n:Nat):∀(k i:Nat)(b:Bool),Nj P eq e n xs ys i k=some b->(Np P d e n ax ay (List.range' i k)).run P w=.ok b w
 | 0,i,b,h=>by simp only[Nj,br] at h;subst h;rfl
 | k+1,i,b,h=>by
  simp only[Nj,Option.bind_eq_bind,eG] at h;obtain⟨u,hu,v,hv,r,hr,h⟩:=h;obtain⟨cu,EX,Nq,_⟩:=No hx hu w;obtain⟨cv,EY,Gu,_⟩:=No hy hv w;simp only[List.range'_succ,Np,Sem.run_bind,EX,EY,heq _ _ _ _ _ _ hr Nq Gu,Result.andThen_ok];cases r with
  | true=>simp only[aF] at h;simpa using ziW heq hx hy e n k (i+1) b h
  | false=>simp only[fP,bw,br] at h;subst h;simp
theorem zo8{D:Nat}{t:aB}{ds:TypeDesc}(hd:P.underlying t=some ds){x y:V}{b:Bool}{cx cy:bt}(h:KO ds x y=some b)(hx:aR g x cx)(hy:aR g y cy):(Op.equalIn (D+1) t cx cy).run P w=.ok b w:=by
 have hu:=run_underlying hd w;unfold KO at h;split at h
 ·split at h<;>simp only[br,reduceCtorEq] at h;subst h;cases hx;cases hy;exact run_equalIn_bool' w D t _ _ hd
 ·split at h<;>try (simp only[reduceCtorEq] at h;done)
  split at h<;>simp only[br,reduceCtorEq] at h;rename_i e;subst h;subst e;cases hx;cases hy;exact run_equalIn_int w D t _ _ _ _ hd
 ·split at h<;>simp only[br,reduceCtorEq] at h;subst h;cases hx with
  | str h1=>cases hy with
   | str h2 =>
    rw[run_equalIn_string w D t _ _ hd,vm,vm,o5 _ _ h1 h2]
 ·split at h<;>simp only[br,reduceCtorEq] at h
  all_goals (subst h;cases hx;cases hy;simp[Op.equalIn,hu];done)
 ·split at h<;>try (simp only[reduceCtorEq] at h;done)
  ·simp only[br] at h;subst h;cases hx;cases hy;simp[Op.equalIn,hu]
  ·simp only[br] at h;subst h;cases hx;cases hy;simp[Op.equalIn,hu]
  ·simp only[br] at h;subst h;cases hx;cases hy;simp[Op.equalIn,hu]
  ·split at h<;>simp only[br,reduceCtorEq] at h;rename_i e;subst h;cases hx;cases hy;simp[Op.equalIn,hu,e]
 ·split at h<;>simp only[br,reduceCtorEq] at h
  ·subst h;cases hx;cases hy;simp[Op.equalIn,hu]
  ·subst h;cases hx;cases hy with
   | sl f h1 h2 h3=>rw[h3 (by simp)];simp[Op.equalIn,hu]
  ·subst h;cases hy;cases hx with
   | sl f h1 h2 h3=>rw[h3 (by simp)];simp[Op.equalIn,hu]
  ·subst h;cases hx;cases hy;simp[Op.equalIn,hu]
  ·subst h;cases hx;cases hy;simp[Op.equalIn,hu]
 ·split at h<;>simp only[br,reduceCtorEq] at h
  all_goals (subst h;cases hx;cases hy;simp[Op.equalIn,hu];done)
 ·split at h<;>simp only[br,reduceCtorEq] at h
  all_goals (subst h;cases hx;cases hy;simp[Op.equalIn,hu];done)
 ·cases h
theorem Cg:∀(d D:Nat)(t:aB)(x y:V)(b:Bool)(cx cy:bt),d<=D->AQ P d t x y=some b->aR g x cx->aR g y cy->(Op.equalIn D t cx cy).run P w=.ok b w
 | 0,D,t,x,y,b,cx,cy,_,h,_,_=>by simp[AQ] at h
 | d+1,0,t,x,y,b,cx,cy,hD,h,_,_=>by omega
 | d+1,D+1,t,x,y,b,cx,cy,hD,h,hx,hy=>by
  have ih:=λt x y b cx cy=>Cg d D t x y b cx cy (by omega)
  simp only[AQ] at h;split at h
  ·cases h
  ·rename_i ds hd;split at h
   ·obtain⟨ax,rfl,h1⟩:=vl hx;obtain⟨ay,rfl,h2⟩:=vl hy;split at h
    ·rename_i fs;split at h
     ·cases h
     ·rename_i hp;have hf:P.fieldsOf t=fs:=by simp[Program.fieldsOf,hd]
      rw[run_equalIn_struct w D t ax ay (by rw[hf];exact hd) (by simpa using hp),hf]
      exact ziV ih h1 h2 _ _ h
    ·split at h
     next n hn=>rw[zbq D t _ _ n ax ay hd hn];exact ziW ih h1 h2 _ _ _ _ _ h
     ·cases h
    ·cases h
   ·exact zo8 hd h hx hy
theorem zk2{op:BinOp}{t:aB}{x y:V}{cx cy:bt}{ox oy:aX}(hg:jt P op t ox oy x y=true)(hx:aR g x cx)(hy:aR g y cy)(w:aP):(eqGuard op t ox oy cx cy).run P w=.ok () w:=by
 have key:(op=.eql\/op=.neq)->(eqGuard op t ox oy cx cy).run P w=.ok () w:=by
  intro ho;have Nr:v6 P t ox oy x y=true:=by rcases ho with rfl|rfl<;>exact hg
  by_cases ha:∃xs ys,cx=.agg xs/\cy=.agg ys
  ·obtain⟨xs,ys,rfl,rfl⟩:=ha;refine run_eqGuard_agg w op t ox oy xs ys ?_;cases hx<;>cases hy<;>first|(simp[v6] at Nr;done)|(simpa[v6] using Nr)
  ·by_cases hn:cx=.nilIface/\cy=.nilIface
   ·obtain⟨rfl,rfl⟩:=hn;have hc:isConst ox=true\/isConst oy=true:=by
     cases hx<;>cases hy<;>first|(simp[v6] at Nr;done)|(simpa[v6] using Nr)
    rcases ho with rfl|rfl<;>rcases hc with hc|hc<;>(cases ox<;>cases oy<;>simp[isConst] at hc<;>simp[eqGuard])
   ·rcases ho with rfl|rfl
    all_goals
     cases cx<;>cases cy<;>first
      |rfl
      |exact absurd ⟨rfl,rfl⟩ hn
      |exact absurd ⟨_,_,rfl,rfl⟩ ha
 cases op<;>first
  |exact key (.inl rfl)
  |exact key (.inr rfl)
  |simp[eqGuard]
theorem ziX{d:Nat}{t:aB}{k:IntKind}{n:Int}{y:V}{b:Bool}(h:AQ P d t (.int k n) y=some b):∃k' m,y=.int k' m:=by
 cases d with
 | zero=>simp[AQ] at h
 | succ d =>
  simp only[AQ] at h;split at h
  ·cases h
  next ds _=>cases ds<;>cases y<;>simp[KO] at h;exact⟨_,_,rfl⟩
theorem ziY{d:Nat}{t:aB}{s:bN}{y:V}{b:Bool}(h:AQ P d t (.str s) y=some b):∃s',y=.str s':=by
 cases d with
 | zero=>simp[AQ] at h
 | succ d =>
  simp only[AQ] at h;split at h
  ·cases h
  next ds _=>cases ds<;>cases y<;>simp[KO] at h;exact⟨_,rfl⟩
theorem zgv{d:Nat}{t:aB}{y:V}{b:Bool}(h:AQ P d t .dW y=some b):False:=by
 cases d with
 | zero=>simp[AQ] at h
 | succ d =>
  simp only[AQ] at h;split at h
  ·cases h
  next ds _=>cases ds<;>simp[KO] at h
theorem znm{op:BinOp}{t:aB}{x y:V}{v:V}{cx cy:bt}(h:w7 P op t x y=some v)(hx:aR g x cx)(hy:aR g y cy)(w:aP) :
  ∃cv,(binOp op t cx cy).run P w=.ok cv w/\aR g v cv/\v.top=0/\∀m l,cM g m w l v cv:=by
 unfold w7 at h;split at h
 next k1 a1 k2 b1=>cases hx;cases hy;exact zgu (k':=k2) h w
 next k1 a1 k2 b1=>cases hx;cases hy;exact zgu (k':=k2) h w
 ·split at h
  next e=>subst e;cases hx;cases hy;exact zk0 t h w
  ·cases h
 ·cases hx with
  | str h1=>cases hy with
   | str h2=>exact zk1 t h1 h2 h w
 ·rename_i n1 n2;simp only[m9] at h;obtain⟨b,hb,rfl⟩:=h;have e:binOp .eql t cx cy=(do pure (.bool (<- Op.equal t cx cy))):=by
   cases hx<;>first
    |rfl
    |(obtain⟨k',m,rfl⟩:=ziX hb;exact absurd rfl (n1 _ _ _ _ rfl))
    |(obtain⟨s',rfl⟩:=ziY hb;exact absurd rfl (n2 _ _ rfl))
    |exact(zgv hb).elim
  rw[e];refine⟨.bool b,?_,.bool b,rfl,λ_ _=>trivial⟩;simp only[Sem.run_bind,Op.equal,Cg 100 Op.maxDepth t _ _ b cx cy (by decide) hb hx hy,Result.andThen_ok,Sem.run_pure]
 ·rename_i n1 n2;simp only[m9] at h;obtain⟨b,hb,rfl⟩:=h;have e:binOp .neq t cx cy=(do pure (.bool (!(<- Op.equal t cx cy)))):=by
   cases hx<;>first
    |rfl
    |(obtain⟨k',m,rfl⟩:=ziX hb;exact absurd rfl (n1 _ _ _ _ rfl))
    |(obtain⟨s',rfl⟩:=ziY hb;exact absurd rfl (n2 _ _ rfl))
    |exact(zgv hb).elim
  rw[e];refine⟨.bool (!b),?_,.bool _,rfl,λ_ _=>trivial⟩;simp only[Sem.run_bind,Op.equal,Cg 100 Op.maxDepth t _ _ b cx cy (by decide) hb hx hy,Result.andThen_ok,Sem.run_pure]
 ·cases h
end
section
variable{P:aQ}{B:dS}{g:Gh}{s:St}{a:Act}{w:aP}
def K2(P:aQ)(g:Gh)(n:Nat)(w:aP)(m:Sem bt)(v:V):Prop:=∃cv,m.run P w=.ok cv w/\aR g v cv/\v.top<=n/\∀k l,cM g k w l v cv
theorem ziZ{n:Nat}{l:Loc}{v:V}{cv:bt}(h:∀sz xs e,v≠.sl sz xs (.yes e)):cM g n w l v cv:=by
 cases v with
 | sl sz xs o=>cases o with
  | yes e=>exact absurd rfl (h sz xs e)
  | _=>trivial
 | _=>trivial
def Gv(g:Gh):bX->Option bt->Prop
 | none,none=>True
 | some x,some v=>aR g x v
 | _,_=>False
theorem Vl{isSlice:Bool}{len cap:Nat}{lo hi:bX}{sq Ek:Option bt}{l h:Nat}(iA:Gv g lo sq)(Av:Gv g hi Ek)(h1:j8 hi len=some h)(h2:j8 lo 0=some l)
  (hl:l<=h) (hh:h<=cap) (w:aP):(Instr.sliceBounds isSlice len cap sq Ek none).run P w=.ok (l,h,cap) w:=by
 have e1:∀code,(match Ek with|some v=>Instr.sliceBound v cap code|none=>pure len:Sem Nat).run P w=.ok h w:=by
  intro code;cases Ek with
  | none=>cases hi with
   | none=>simp only[j8,br] at h1;simp[h1]
   | some _=>exact Av.elim
  | some cv=>cases hi with
   | none=>exact Av.elim
   | some x =>
    simp only[j8] at h1;split at h1<;>first|(rename_i e;simp at e;done)|skip
    ·rename_i k m e;simp only[br] at e;subst e;split at h1<;>simp only[br,reduceCtorEq] at h1;rename_i hm;have hr:aR g (.int k m) cv:=Av;cases hr;have:0<=m/\m<=(cap:Int):=⟨hm,by omega⟩
     simp[Instr.sliceBound,asIntOf,this,h1]
    ·cases h1
 have e2:∀code,(match sq with|some v=>Instr.sliceBound v h code|none=>pure 0:Sem Nat).run P w=.ok l w:=by
  intro code;cases sq with
  | none=>cases lo with
   | none=>simp only[j8,br] at h2;simp[h2]
   | some _=>exact iA.elim
  | some cv=>cases lo with
   | none=>exact iA.elim
   | some x =>
    simp only[j8] at h2;split at h2<;>first|(rename_i e;simp at e;done)|skip
    ·rename_i k m e;simp only[br] at e;subst e;split at h2<;>simp only[br,reduceCtorEq] at h2;rename_i hm;have hr:aR g (.int k m) cv:=iA;cases hr;have:0<=m/\m<=(h:Int):=⟨hm,by omega⟩
     simp[Instr.sliceBound,asIntOf,this,h2]
    ·cases h2
 unfold Instr.sliceBounds;cases Ek with
 | none =>
  have Hy:=e1 .sliceAcap;simp only[Sem.run_pure,Result.ok.injEq,At] at Hy;cases sq with
  | none=>have EZ:=e2 .sliceB;simp only[Sem.run_pure,Result.ok.injEq,At] at EZ;simp[Hy,EZ]
  | some cv=>have EZ:=e2 .sliceB;simp only at EZ;simp[Hy,EZ]
 | some cu =>
  have Hy:=e1 (if isSlice then .sliceAcap else .sliceAlen)
  simp only at Hy;cases sq with
  | none=>have EZ:=e2 .sliceB;simp only[Sem.run_pure,Result.ok.injEq,At] at EZ;simp[Hy,EZ]
  | some cv=>have EZ:=e2 .sliceB;simp only at EZ;simp[Hy,EZ]
theorem xf{isSlice:Bool}{len cap:Nat}{lo hi:bX}{sq Ek:Option bt}{l h:Nat}(iA:Gv g lo sq)(Av:Gv g hi Ek)(h1:j8 hi len=some h)(h2:j8 lo 0=some l)
  (hl:l<=h) (hh:h<=len) (hc:len<=cap) (w:aP):(Instr.sliceBounds isSlice len cap sq Ek none).run P w=.ok (l,h,cap) w:=Vl iA Av h1 h2 hl (cP hh hc) w
theorem zo9{lo:bX}{sq:Option bt}{l h:Nat}(iA:Gv g lo sq)(h2:j8 lo 0=some l)(hl:l<=h)(w:aP)(code:BoundsCode):(match sq with|some v=>Instr.sliceBound v h code|none=>pure 0:Sem Nat).run P w=.ok l w:=by
 cases sq with
 | none=>cases lo with
  | none=>simp only[j8,br] at h2;simp[h2]
  | some _=>exact iA.elim
 | some cv=>cases lo with
  | none=>exact iA.elim
  | some x =>
   simp only[j8] at h2;split at h2<;>first|(rename_i e;simp at e;done)|skip
   ·rename_i k m e;simp only[br] at e;subst e;split at h2<;>simp only[br,reduceCtorEq] at h2;rename_i hm;have hr:aR g (.int k m) cv:=iA;cases hr;have:0<=m/\m<=(h:Int):=⟨hm,by omega⟩
    simp[Instr.sliceBound,asIntOf,this,h2]
   ·cases h2
theorem zhV{isSlice:Bool}{len cap:Nat}{lo:bX}{sq:Option bt}{k k':IntKind}{l:Nat}{h m:Int}(iA:Gv g lo sq)(h2:j8 lo 0=some l)(h0:0<=h)(hl:l<=h.toNat)(hm:h<=m)(hc:m<=cap)(w:aP) :
  (Instr.sliceBounds isSlice len cap sq (some (.int k h)) (some (.int k' m))).run P w=.ok (l,h.toNat,m.toNat) w:=by
 have a1:0<=m/\m<=(cap:Int):=⟨by omega,hc⟩
 have a2:0<=h/\h<=(m.toNat:Int):=⟨h0,by omega⟩
 have e2:=zo9 (P:=P) iA h2 hl w .slice3C;have r:∀(kk:IntKind)(i:Int)(y:Nat)(code:BoundsCode),0<=i->i<=(y:Int)->(Instr.sliceBound (.int kk i) y code).run P w=.ok i.toNat w:=λkk i y code h1 h2=>by
  have:0<=i/\i<=(y:Int):=⟨h1,h2⟩;simp[Instr.sliceBound,asIntOf,this]
 unfold Instr.sliceBounds;cases sq with
 | none=>simp only[Sem.run_pure,Result.ok.injEq,At] at e2;simp[r _ _ _ _ a1.1 a1.2,r _ _ _ _ a2.1 a2.2,e2]
 | some cv=>simp only at e2;simp[r _ _ _ _ a1.1 a1.2,r _ _ _ _ a2.1 a2.2,e2]
theorem zeo(x:bN)(l h:Nat):(bytes x).extract l h=bytes ((x.take h).drop l):=by
 apply ByteArray.ext;simp[bytes,ByteArray.data_extract,List.extract,<- List.map_take,<- List.map_drop,List.drop_take]
theorem zpa{op:UnOp}{x v:V}{cx:bt}(h:iz op x=some v)(hx:aR g x cx)(n:Nat)(w:aP):K2 P g n w (Op.unary op cx) v:=by
 unfold iz at h;split at h
 ·simp only[br] at h;subst h;cases hx;exact⟨.int _ _,by simp[Op.unary,Op.intArith],.int _ _,eg _,λ_ _=>trivial⟩
 ·simp only[j3,br] at h;subst h;cases hx;exact⟨.int _ _,by simp[Op.unary,Op.intBits],.int _ _,eg _,λ_ _=>trivial⟩
 ·simp only[br] at h;subst h;cases hx;exact⟨.bool _,by simp[Op.unary],.bool _,eg _,λ_ _=>trivial⟩
 ·cases h
theorem vK{t:aB}{f:Nat}{fs:Array Field}{fd:Field}{sz:Nat}(ht:P.underlying t=some (.struct fs))(hf:fs[f]?=some fd)(hs:z4 P fd.type=some sz)(h0:Nat.beq sz 0=false)(c o:Nat)(w:aP) :
  (Instr.fieldAt t (.pointer (some ⟨c,o,none⟩)) f).run P w=.ok (.pointer (some ⟨c,o+fd.offset,none⟩)) w:=by
 have:sz≠0:=by intro e;subst e;simp at h0
 unfold Instr.fieldAt;simp[run_underlying ht,hf,Instr.sureAddr,fieldPlace,ju hs,this,Addr.add_lit]
theorem aR.C8{cs:aD}{c o:Nat}(h:aR g (.vp cs) (.pointer (some ⟨c,o,none⟩)))(k:Nat):aR g (.vp (cs.drop k)) (.pointer (some ⟨c,o+k,none⟩)):=by
 cases h with
 | vp f h1 h2 h3 =>
  refine .vp (λj=>f (k+j)) (λj x hx=>h1 (k+j) x (by simpa using hx)) (λj x hx=>?_) (λj x hx=>h3 (k+j) x (by simpa using hx))
  rw[pL];exact h2 (k+j) x (by simpa using hx)
theorem zeA(cs:aD)(k:Nat):aI (cs.drop k)<=aI cs:=qL λ_ hx=>zn (B8 hx)
theorem SJ{sz:Nat}:∀{xs:aD}{i:Nat}{x:V},(∀y:V,y∈xs->y.cells.length=sz)->xs[i]?=some x->∀j y,x.cells[j]?=some y->(zI xs)[i * sz+j]?=some y
 | [],i,x,_,h,_,_,_=>by simp at h
 | z::xs,0,x,hs,h,j,y,hy=>by
  simp at h;subst h;simp only[zI,DE,Nat.zero_mul,nO];rw[gb (c_.1 hy).1];exact hy
 | z::xs,i+1,x,hs,h,j,y,hy=>by
  have hz:=hs z (eH ..);simp only[zI,DE];rw[fE (by rw[hz,tq];omega),hz]
  have:=SJ (xs:=xs) (i:=i) (λy hy=>hs y (dR _ hy)) (by simpa using h) j y hy
  have e:(i+1) * sz+j - sz=i * sz+j:=by rw[tq];omega
  rw[e];exact this
theorem aR.elem{sz:Nat}{xs:aD}{ow:ug}{c o len cap:Nat}(h:aR g (.sl sz xs ow) (.slice (some ⟨c,o,none⟩) len cap)){i:Nat}{x:V}(hx:xs[i]?=some x) :
  aR g (.vp x.cells) (.pointer (some ⟨c,o+i * sz,none⟩)):=by
 cases h with
 | sl f h1 h2 h3 h4 h5 h6 =>
  have cI:xs≠[]:=by rintro rfl;simp at hx
  have he:=h3 cI;cases he;refine .vp (λj=>f (i * sz+j)) (λj y hy=>h4 _ _ (SJ h1 hx j y hy)) (λj y hy=>?_) (λj y hy=>h6 _ _ (SJ h1 hx j y hy));rw[pL];exact h5 _ _ (SJ h1 hx j y hy)
theorem aR.C9{sz:Nat}{xs:aD}{ow:ug}{cv:bt}(h:aR g (.sl sz xs ow) cv):∃ad cap,cv=.slice ad xs.length cap/\xs.length<=cap/\(xs≠[]->∃c o,ad=some ⟨c,o,none⟩):=by
 cases h with
 | sl f h1 h2 h3=>exact⟨_,_,rfl,h2,λcI=>⟨_,_,h3 cI⟩⟩
theorem yX{t e:aB}{c o len cap sz:Nat}{k:IntKind}{i:Int}(ht:P.underlying t=some (.slice e))(hs:z4 P e=some sz)(h0:0<=i)(hi:i<len)(w:aP) :
  (Instr.indexAt t (.slice (some ⟨c,o,none⟩) len cap) (.int k i)).run P w=.ok (.pointer (some ⟨c,o+i.toNat * sz,none⟩)) w:=by
 unfold Instr.indexAt;simp[asIntOf,run_underlying ht,h0,hi,ju hs,Addr.add_lit]
theorem yb{t e:aB}{c o n sz:Nat}{k:IntKind}{i:Int}(ht:P.underlying t=some (.array n e))(hs:z4 P e=some sz)(h0:0<=i)(hi:i<n)(w:aP) :
  (Instr.indexAt t (.pointer (some ⟨c,o,none⟩)) (.int k i)).run P w=.ok (.pointer (some ⟨c,o+i.toNat * sz,none⟩)) w:=by
 unfold Instr.indexAt;simp[asIntOf,run_underlying ht,h0,hi,ju hs,Addr.add_lit,Instr.sureAddr]
theorem qJ{sz:Nat}:∀{xs:aD},(∀y:V,y∈xs->y.cells.length=sz)->(zI xs).length=xs.length * sz
 | [],_=>by simp[zI]
 | z::xs,hs=>by
  have:=qJ (xs:=xs) λy hy=>hs y (dR _ hy);simp only[zI,DE,aU,aZ,hs z (eH ..)] at *;rw[this,tq];omega
theorem xY(xs ys:aD):zI (xs++ys)=zI xs++zI ys:=by simp[zI]
theorem yu{sz:Nat}{xs:aD}(hs:∀y:V,y∈xs->y.cells.length=sz){b c j:Nat}{y:V}(h:(zI ((xs.take b).drop c))[j]?=some y):(zI xs)[c * sz+j]?=some y:=by
 have h1:(zI (xs.take b))[c * sz+j]?=some y:=by
  have hc:c<=(xs.take b).length:=by
   rcases eX (xs.take b).length c with bR|Au
   ·rw[List.drop_eq_nil_of_le (by omega)] at h;simp[zI] at h
   ·exact Au
  have e:zI (xs.take b)=zI ((xs.take b).take c)++zI ((xs.take b).drop c):=by rw[<- xY,BH]
  have hl:(zI ((xs.take b).take c)).length=c * sz:=by
   rw[qJ λy hy=>hs y (B9 (B9 hy)),uf,Nat.min_eq_left hc]
  rw[e,fE (by omega),hl,Ng]
  exact h
 have e:zI xs=zI (xs.take b)++zI (xs.drop b):=by rw[<- xY,BH]
 rw[e,gb (c_.1 h1).1];exact h1
theorem zeB{t:aB}{x v:V}{lo hi:bX}{cx:bt}{sq Ek:Option bt}{n:Nat}(h:yW P t x lo hi=some v)(hx:aR g x cx)(iA:Gv g lo sq)(Av:Gv g hi Ek)(ht:x.top<=n)(w:aP) :
  K2 P g n w (Instr.sliceAt t cx sq Ek none) v:=by
 simp only[yW,Option.bind_eq_bind,eG] at h;obtain⟨ds,hd,h⟩:=h;have hu:=run_underlying hd w;split at h
 ·rename_i l;simp only[eG] at h;obtain⟨b,hb,c,hc,h⟩:=h;split at h<;>simp only[br,reduceCtorEq] at h;rename_i hle;subst h;cases hx with
  | str h1 =>
   refine⟨.string (bytes ((l.take b).drop c)),?_,.str λy hy=>h1 y (B9 (B8 hy)),eg _,λ_ _=>trivial⟩;have cZ:=xf (P:=P) (isSlice:=false) iA Av hb hc hle.1 hle.2 (dI _) w;rw[<- kH l] at cZ;simp[Instr.sliceAt,hu,Instr.slice,cZ,zeo]
 ·rename_i e sz xs ow;simp only[eG] at h;obtain⟨b,hb,c,hc,m,hm,h⟩:=h;split at h<;>simp only[br,reduceCtorEq] at h;rename_i hle;obtain⟨HE,K3,rfl⟩:=hle;subst h;cases hx with
  | sl f h1 h2 h3 h4 h5 h6 =>
   rename_i ad cap cb o;have cZ:=xf (P:=P) (isSlice:=true) iA Av hb hc HE K3 h2 w;have hlen:((xs.take b).drop c).length=b - c:=by simp;omega
   have cI:(xs.take b).drop c≠[]->xs≠[]:=by rintro h rfl;simp at h
   refine⟨.slice (if cap=c then ad else ad.map (·.add (c * m))) (b - c) (cap - c),?_,?_,?_,λ_ _=>trivial⟩
   ·simp[Instr.sliceAt,hu,Instr.slice,cZ,ju hm]
   ·rw[<- hlen];refine .sl (c:=cb) (o:=o+c * m) (λj=>f (c * m+j)) (λy hy=>h1 y (B9 (B8 hy))) (by rw[hlen];omega) (λhn=>?_) (λj x hx=>h4 _ x (yu h1 hx)) (λj x hx=>?_) (λj x hx=>h6 _ x (yu h1 hx))
    ·have:0<b - c:=by rw[<- hlen];exact KK.2 hn
     rw[if_neg (by omega),h3 (cI hn)]
     simp[Addr.add_lit]
    ·rw[pL];exact h5 _ x (yu h1 hx)
   ·exact cP (qL λy hy=>zn (B9 (B8 hy))) ht
 next e=>simp only[eG] at h;obtain⟨b,hb,c,hc,m,hm,h⟩:=h;split at h<;>simp only[br,reduceCtorEq] at h;rename_i hle;obtain⟨rfl,rfl⟩:=hle;subst h;cases hx;have cZ:=xf (P:=P) (isSlice:=true) iA Av hb hc (dI _) (dI _) (dI _) w;exact⟨.slice none 0 0,by simp[Instr.sliceAt,hu,Instr.slice,cZ,ju hm],.aG,eg _,λ_ _=>trivial⟩
 ·rename_i e bb off len cap;simp only[eG] at h;obtain⟨b,hb,c,hc,m,hm,h⟩:=h;cases hx with
  | sr nS =>
   split at h
   ·rename_i hle;simp only[br] at h;subst h;have cZ:=Vl (P:=P) (isSlice:=true) iA Av hb hc hle.1 hle.2.1 w;refine⟨.slice (some ⟨g.bP bb,off+c * m,none⟩) (b - c) (cap - c),?_,.sr (by omega),ht,λ_ _=>trivial⟩
    have:¬cap=c:=by omega
    simp[Instr.sliceAt,hu,Instr.slice,cZ,ju hm,this,Addr.add_lit]
   ·split at h<;>simp only[br,reduceCtorEq] at h;rename_i hle;obtain⟨rfl,hle⟩:=hle;subst h;have cZ:=Vl (P:=P) (isSlice:=true) iA Av hb hc (dI _) hle w;refine⟨_,by simp only[Instr.sliceAt,hu,Instr.slice,cZ,ju hm,Sem.run_bind,Result.andThen_ok,Sem.run_pure];rfl,?_,eg _,λ_ _=>trivial⟩
    rw[Cb];exact .sl (c:=0) (o:=0) (λ_=>.nilFunc) (λy hy=>by simp at hy) (eg _) (λhn=>absurd rfl hn) (λj x hx=>by simp[zI] at hx) (λj x hx=>by simp[zI] at hx) (λj x hx=>by simp[zI] at hx)
 ·cases h
theorem zj1{t:aB}{sz:Nat}{xs:aD}{ow:ug}{v:V}{lo:bX}{cx:bt}{sq:Option bt}{kh km:IntKind}{hh m:Int}{n:Nat}(h:yW P t (.sl sz xs ow) lo (some (.int kh hh))=some v)(hx:aR g (.sl sz xs ow) cx)(iA:Gv g lo sq)(hm:hh<=m)(gG:m<=xs.length)
  (ht:(V.sl sz xs ow).top<=n) (w:aP):K2 P g n w (Instr.sliceAt t cx sq (some (.int kh hh)) (some (.int km m))) v:=by
 simp only[yW,Option.bind_eq_bind,eG] at h;obtain⟨ds,hd,h⟩:=h;have hu:=run_underlying hd w;cases ds<;>simp only[reduceCtorEq] at h;simp only[eG] at h;obtain⟨b,hb,c,hc,m',ON,h⟩:=h;split at h<;>simp only[br,reduceCtorEq] at h;rename_i hle;obtain⟨HE,K3,rfl⟩:=hle;subst h;simp only[j8] at hb;split at hb<;>simp only[br,reduceCtorEq] at hb;rename_i h0;subst hb;cases hx with
 | sl f h1 h2 h3 h4 h5 h6 =>
  rename_i ad cap cb o;have cZ:=zhV (P:=P) (isSlice:=true) (len:=xs.length) (cap:=cap) (k:=kh) (k':=km) iA hc h0 HE hm (by omega) w
  have hlen:((xs.take hh.toNat).drop c).length=hh.toNat - c:=by simp;omega
  have cI:(xs.take hh.toNat).drop c≠[]->xs≠[]:=by rintro h rfl;simp at h
  refine⟨.slice (if m.toNat=c then ad else ad.map (·.add (c * m'))) (hh.toNat - c) (m.toNat - c),?_,?_,?_,λ_ _=>trivial⟩
  ·simp[Instr.sliceAt,hu,Instr.slice,cZ,ju ON]
  ·rw[<- hlen];refine .sl (c:=cb) (o:=o+c * m') (λj=>f (c * m'+j)) (λy hy=>h1 y (B9 (B8 hy))) (by rw[hlen];omega) (λhn=>?_) (λj x hx=>h4 _ x (yu h1 hx)) (λj x hx=>?_) (λj x hx=>h6 _ x (yu h1 hx))
   ·have:0<hh.toNat - c:=by rw[<- hlen];exact KK.2 hn
    rw[if_neg (by omega),h3 (cI hn)]
    simp[Addr.add_lit]
   ·rw[pL];exact h5 _ x (yu h1 hx)
  ·exact cP (qL λy hy=>zn (B9 (B8 hy))) ht
end
section
variable{P:aQ}{B:dS}{g:Gh}{s:St}{a:Act}{w:aP}
def iu(_P:aQ)(gl:Nat->Nat->bX)(g:Gh):Prop:=(∀k off v,gl k off=some v->∃cv,g.M k off=some cv/\aR g v cv/\v.top=0) /\
 ∀k U j,gl k 0=some (.ec U (.obj j))->g.obj.lo (g.obj j).block/\∀k' U' j',gl k' 0=some (.ec U' (.obj j'))->g.obj j=g.obj j'->j=j'
theorem iu.le{gl:Nat->Nat->bX}{n:Nat}{g g':Gh}(hg:Gh.Le n g g')(h:iu P gl g):iu P gl g':=by
 refine⟨λk off v hv=>?_,λk U j hv=>?_⟩
 ·obtain⟨cv,h1,h2,h3⟩:=h.1 k off v hv;exact⟨cv,hg.M _ _ _ h1,h2.le hg (by omega),h3⟩
 ·rw[hg.obj];exact h.2 k U j hv
theorem vQ(v:V):∀sz xs e,aW v≠.sl sz xs (.yes e):=by
 intro sz xs e;cases v<;>simp[aW]
theorem xg(h:Rel B g s a w){b:Nat}{cs:aD}{t:aB}(hb:s.H.get b=some (.cells cs t)) :
  ∃arr,w.heap[g.bP b]?=some (.cells arr t (0,0))/\bK g cs arr.toList/\aI cs<=s.H.az.length/\(∀(j:Nat)(x:V)(v:bt),cs[j]?=some x->arr[j]?=some v->cM g s.H.az.length w (.cell b j) x v/\OK g b j x v):=by
 simp only[Hp.get,zg] at hb;obtain⟨arr,h1,h2,h3⟩:=h.cY.ok b _ hb;have ht:=h.cY.aI b _ hb;refine⟨arr,h1,⟨by simpa using h2,λj x hx=>?_,λj x v hx hv=>(h3 j x v hx (by simpa using hv)).2.1⟩,ht,λj x v hx hv=>(h3 j x v hx hv).2.2⟩
 have hj:j<arr.size:=by rw[<- h2];exact(c_.1 hx).1
 exact(h3 j x arr[j] hx (Eh hj)).1
theorem zk3{w:aP}{e:aB}{sz c len cap:Nat}{vs:dx}(h:w.ownsRow 0 e sz (.slice (some ⟨c,0,none⟩) len cap) len vs){j:Nat}{v:bt}(hj:vs[j]?=some v):w.cell? ⟨c,j,none⟩=some v:=by
 obtain⟨_,h|⟨c',ou,cur,hv,_,hb,_,_,_,hx⟩⟩:=h
 ·cases h.1
 ·cases hv;refine(cell_of_row w c j cur e (0,0) hb).trans ?_;rw[<- hx,Ao] at hj;split at hj
  ·simpa using hj
  ·cases hj
theorem SK(h:Rel B g s a w){b eI sz:Nat}{cs:aD}{e:aB}(hb:s.H.get b=some (.ul eI sz cs e)) :
  ∃c len cap vs,Hv g s.H.az.length w b eI sz cs e c len cap vs/\bK g cs vs/\aI cs<=s.H.az.length:=by
 simp only[Hp.get,zg] at hb;obtain⟨c,len,cap,vs,hu⟩:=h.cY.ok b _ hb;have ht:=h.cY.aI b _ hb;refine⟨c,len,cap,vs,hu,⟨hu.len,λj x hx=>?_,λj x v hx hv=>(hu.cells j x v hx hv).2⟩,ht⟩;have hj:j<vs.length:=by rw[<- hu.len];exact(c_.1 hx).1
 exact(hu.cells j x vs[j] hx (gh hj)).1
theorem zgw(h:Rel B g s a w){gl:Nat->Nat->bX}(rj:iu P gl g){t:aB}{p v:V}{cp:bt}(hp:aR g p cp)(hpt:p.top<=s.H.az.length)(hv:zk P s.H gl t p=some v) :
  ∃cv,(Instr.loadAt t cp).run P w=.ok cv w/\aR g v cv/\v.top<=s.H.az.length:=by
 simp only[zk] at hv;split at hv
 ·rename_i b off;simp only[Option.bind_eq_bind,eG] at hv;obtain⟨x,hx,hv⟩:=hv;split at hv<;>try (cases hv;done)
  rename_i cs ty;obtain⟨arr,h1,h2,h3,_⟩:=xg h hx;cases hp;obtain⟨cv,c1,c2,c3⟩:=Vk (P:=P) (w:=w) h2 (c:=g.bP b) (o:=0) (λj v hj=>by rw[nO,cell_of_row w _ j arr ty (0,0) h1];simpa using hj) hv
  rw[nO] at c1;exact⟨cv,by simpa[Instr.loadAt,Instr.sureAddr] using c1,c2,cP c3 h3⟩
 ·rename_i cs;cases hp with
  | vp f h1 h2 h3 =>
   rename_i c o
   have dZ:bK g cs ((List.range cs.length).map f):=⟨by simp,h1,λj x v hx hv=>by
    have hj:=(c_.1 hx).1;simp[hj] at hv;subst hv
    exact h3 j x hx⟩
   obtain⟨cv,c1,c2,c3⟩:=Vk (P:=P) (w:=w) dZ (c:=c) (o:=o) (λj v hj=>by
    have su:j<cs.length:=by have:=(c_.1 hj).1;simpa using this
    have hx:cs[j]?=some cs[j]:=gh su;have e:f j=v:=by simpa[su] using hj
    rw[<- e]
    exact h.cY.mem _ _ _ (h2 j _ hx)) hv
   rw[nP] at c1;exact⟨cv,by simpa[Instr.loadAt,Instr.sureAddr] using c1,c2,cP c3 (by simpa[V.top] using hpt)⟩
 ·rename_i b u k;simp only[Option.bind_eq_bind,eG] at hv;obtain⟨x,hx,hv⟩:=hv;split at hv<;>try (cases hv;done)
  rename_i eI sz cs e;split at hv
  ·rename_i Vn;have:=eU Vn;subst this;obtain⟨c,len,cap,vs,hu,h2,h3⟩:=SK h hx;cases hp with
   | gj k hh =>
    rw[hu.eZ] at hh;cases hh;obtain⟨cv,c1,c2,c3⟩:=Vk (P:=P) (w:=w) h2 (c:=c) (o:=0) (λj v hj=>by rw[nO];exact zk3 hu.row hj) hv
    exact⟨cv,by simpa[Instr.loadAt,Instr.sureAddr] using c1,c2,cP c3 h3⟩
  ·cases hv
 ·rename_i k off;simp only[Option.bind_eq_bind,eG] at hv;obtain⟨b,hb,hv⟩:=hv;split at hv
  ·cases hv
  ·rename_i cZ;obtain⟨cv,c1,c2,c3⟩:=rj.1 k off v hv;cases hp;refine⟨cv,?_,c2,by omega⟩
   have hbf:b=false:=by simpa using cZ
   subst hbf;simp[Instr.loadAt,Instr.sureAddr,loadVar,SI hb,h.cY.mem _ _ _ c1]
 ·cases hv
theorem zj2(l:bN)(i:Nat):(bytes l)[i]?=(l[i]?).map UInt8.ofNat:=by
 by_cases hi:i<l.length
 ·have h1:i<(bytes l).size:=by rw[kH];exact hi
  rw[getElem?_pos (bytes l) i h1,gh hi];simp only[aS,br];show(bytes l).data[i]=_;simp[bytes]
 ·rw[getElem?_neg (bytes l) i (by rw[kH];exact hi),uc (by omega)]
  rfl
theorem zfi{t:aB}{l:bN}{k:IntKind}{i:Int}{b:Nat}(ht:P.underlying t=some .string)(hl:∀c:Nat,c∈l->c<256)(h0:¬i<0)(hb:l[i.toNat]?=some b)(w:aP) :
  (Instr.index t (.string (bytes l)) (.int k i)).run P w=.ok (.int .u8 b) w:=by
 have cZ:b<256:=hl b (zv hb);have hi:0<=i:=by omega
 unfold Instr.index;simp[asIntOf,run_underlying ht,hi,zj2,hb,UInt8.toNat_ofNat',ES cZ]
theorem zep{t e:aB}{cs:aD}{arr:dN}{len n:Nat}{k:IntKind}{i:Int}{v:V}(ht:P.underlying t=some (.array len e))(hn:z4 P e=some n)(hr:bK g cs arr.toList)(h0:0<=i)(hi:i<len)
  (hv:wd P e cs (i.toNat * n)=some v) (w:aP):∃cv,(Instr.index t (.agg arr) (.int k i)).run P w=.ok cv w/\aR g v cv/\v.top<=aI cs:=by
 obtain⟨cv,c1,c2,c3,_⟩:=No (P:=P) hr hv w;refine⟨cv,?_,c2,c3⟩;unfold Instr.index;simp[asIntOf,run_underlying ht,h0,hi,ju hn,c1]
theorem nu:∀{xs:aD}{l:bN},nj xs=some l->∃ns:List Int,xs=ns.map (V.int .u8)/\l=ns.map λn=>n.toNat % 256
 | [],l,h=>by simp only[nj,br] at h;subst h;exact⟨[],rfl,rfl⟩
 | x::xs,l,h=>by
  unfold nj at h;split at h
  next e=>cases e
  next n r e=>cases e;simp only[m9] at h;obtain⟨l',hl,rfl⟩:=h;obtain⟨ns,rfl,rfl⟩:=nu hl;exact⟨n::ns,rfl,rfl⟩
  ·cases h
theorem rm:∀(ns:List Int)(l:bN),ns.foldl (λr n=>r.push (UInt8.ofNat n.toNat)) (bytes l)=bytes (l++ns.map λn=>n.toNat % 256)
 | [],l=>by simp
 | n::ns,l=>by
  have e:(bytes l).push (UInt8.ofNat n.toNat)=bytes (l++[n.toNat % 256]):=by
   apply ByteArray.ext;have:UInt8.ofNat (n.toNat % 256)=UInt8.ofNat n.toNat:=by
    apply UInt8.toNat_inj.1;simp[UInt8.toNat_ofNat']
   simp[bytes,ByteArray.push,this]
  simp only[List.foldl_cons,e,rm ns,aY,bh,List.singleton_append]
theorem zdk{xs:aD}{ow:ug}{cx:bt}{l:bN}(h:nj xs=some l)(hx:aR g (.sl 1 xs ow) cx)(dJ:∀c o u,g.M c o=some u->w.cell? ⟨c,o,none⟩=some u) :
  (Conv.bytesToString cx).run P w=.ok (.string (bytes l)) w/\∀b:Nat,b∈l->b<256:=by
 obtain⟨ns,rfl,rfl⟩:=nu h;refine⟨?_,λb hb=>?_⟩
 ·cases hx with
  | sl f h1 h2 h3 h4 h5 h6 =>
   rename_i ad cap c o;cases ad with
   | none =>
    have:ns=[]:=by
     cases ns with
     | nil=>rfl
     | cons n ns=>have:=h3 (by simp);cases this
    subst this;rfl
   | some ad =>
    have m5:zI (ns.map (V.int .u8))=ns.map (V.int .u8):=by
     clear h h1 h2 h3 h4 h5 h6
     induction ns with
     | nil=>rfl
     | cons n ns ih=>simp only[zI,aY,DE,V.cells] at *;rw[ih];rfl
    have hl:(loadCells ad (ns.map (V.int .u8)).length).run P w=.ok (ns.map (Value.int .u8)).toArray w:=by
     have:=run_loadCells_list (P:=P) w ad (ns.map (Value.int .u8)) (λj v hj=>by
      simp only[iY,m9] at hj;obtain⟨n,hn,rfl⟩:=hj;have o6:(zI (ns.map (V.int .u8)))[j]?=some (.int .u8 n):=by rw[m5];simp[hn]
      have cI:ns.map (V.int .u8)≠[]:=by rintro e;simp at e;subst e;simp at hn
      have e:=h3 cI;cases e;rw[Addr.add_lit];have h7:=h6 j _ o6;have h8:=dJ _ _ _ (h5 j _ o6);generalize f j=u at h7 h8;cases h7
      exact h8)
     simpa using this
    rw[run_bytesToString w ad _ cap ns hl];have:=rm ns [];have e0:bytes []=ByteArray.empty:=rfl;rw[e0] at this;rw[this];rfl
 ·obtain⟨n,_,rfl⟩:=mj.1 hb;omega
theorem zk4{src dst:aB}{x v:V}{cx:bt}{n:Nat}(h:vz P src dst x=some v)(hx:aR g x cx)(ov:∀s,x≠.str s\/P.underlying dst=some .string)(dJ:∀c o u,g.M c o=some u->w.cell? ⟨c,o,none⟩=some u):K2 P g n w (convert src dst cx) v:=by
 simp only[vz,Option.bind_eq_bind,eG] at h;obtain⟨ds,hs,dd,hd,h⟩:=h;have Ch:=run_underlying hs w;have Vo:=run_underlying hd w;split at h
 ·simp only[br] at h;subst h;cases hx;exact⟨.int _ _,by simp[convert,Ch,Vo,Conv.intToInt],.int _ _,eg _,λ_ _=>trivial⟩
 ·rename_i k m;simp only[br] at h;subst h;cases hx;have e:Utf8.encode m=bytes ((Utf8.encode m).data.toList.map UInt8.toNat):=by
   apply ByteArray.ext;simp[bytes,Function.comp_def]
  refine⟨.string (bytes ((Utf8.encode m).data.toList.map UInt8.toNat)),by rw[<- e];simp[convert,Ch,Vo,Conv.intToString],.str λb hb=>?_,eg _,λ_ _=>trivial⟩
  obtain⟨c,_,rfl⟩:=mj.1 hb;exact c.toNat_lt
 ·simp only[br] at h;subst h;cases hx with
  | str h1=>exact⟨_,by simp[convert,Ch,Vo],.str h1,eg _,λ_ _=>trivial⟩
 ·rename_i e;simp only[eG] at h;obtain⟨d8,h8,h⟩:=h;split at h<;>simp only[br,reduceCtorEq] at h;subst h;cases hx;refine⟨.string (bytes []),?_,.str (by simp),eg _,λ_ _=>trivial⟩
  rw[run_convert_bytes_string w src dst e _ _ _ hs h8 hd];rfl
 ·rename_i e xs ow;simp only[eG] at h;obtain⟨d8,h8,h⟩:=h;split at h<;>try (cases h;done)
  simp only[m9] at h;obtain⟨l,hl,rfl⟩:=h;obtain⟨ad,cap,rfl,_,_⟩:=hx.C9;obtain⟨c1,c2⟩:=zdk (P:=P) hl hx dJ;refine⟨.string (bytes l),?_,.str c2,eg _,λ_ _=>trivial⟩;rw[run_convert_bytes_string w src dst e _ _ _ hs h8 hd];exact c1
 ·rename_i l _ _;rcases ov _ with hn|hn
  ·exact absurd rfl hn
  ·rw[hd] at hn;cases hn
 ·cases h
theorem yw{t:aB}{v:V}(h:qQ P t=some v)(w:aP):∃cv,(zeroValue t).run P w=.ok cv w/\aR g v cv/\v.top=0/\(∀k l,cM g k w l v cv)/\(P.info? t).bind (·.zero)=some cv:=by
 simp only[qQ,eG] at h;obtain⟨i,hi,z,hz,hv⟩:=h;obtain⟨h1,h2⟩:=Vj g z v hv;refine⟨z,?_,h1,h2,λk l=>zez hv,by simp[hi,hz]⟩
 simp[zeroValue,typeInfo,hi,hz]
end
section
variable{P:aQ}{B:dS}{g:Gh}{s:St}{a:Act}{w:aP}
def K5(P:aQ)(B:dS)(s:St)(a:Act)(w:aP)(_g:Gh)(o:Oper)(v:V):Prop :=
 ∃g' cv w',(execOp a.eval o).run P w=.ok (.value cv) w'/\DQ B g' s a w' o.dst v cv
theorem vR(h:Rel B g s a w){o:Oper}{m:Sem bt}{v:V}(hm:K2 P g s.H.az.length w m v)(he:execOp a.eval o=(do pure (.value (<- m)))):K5 P B s a w g o v:=by
 obtain⟨cv,h1,h2,h3,h4⟩:=hm;exact⟨g,cv,w,by rw[he];simp[h1],⟨h,h2,λ_ _=>h4 _ _,h3⟩⟩
theorem SL(h:Rel B g s a w):∀{xs:List aX}{vs:aD},av s.env xs=some vs ->
  vs.length=xs.length/\(∀(j:Nat)(x:V)(v:bt),vs[j]?=some x->(xs.map a.eval)[j]?=some v->aR g x v)/\aI vs<=s.H.az.length/\∀x∈vs,∀sz ys e,x≠.sl sz ys (.yes e)
 | [],vs,hp=>by simp only[av,br] at hp;subst hp;exact⟨rfl,λj x v hx=>by simp at hx,eg _,λx hx=>by simp at hx⟩
 | x::xs,vs,hp=>by
  simp only[av,qp] at hp;split at hp
  ·cases hp
  ·rename_i v hv;split at hp<;>simp only[br,reduceCtorEq] at hp;rename_i ys s6;subst hp;obtain⟨h1,h2,h3⟩:=zJ h hv;obtain⟨i1,i2,i3,i4⟩:=SL h s6;refine⟨by simp[i1],λj y u hy hu=>?_,by simp only[aI];exact tu.2 ⟨h2,i3⟩,λy hy=>?_⟩
   ·cases j with
    | zero=>simp at hy hu;subst hy;subst hu;exact h1
    | succ j=>simp at hy;exact i2 j y u hy (by simpa using hu)
   ·rcases dH.1 hy with rfl|hy
    ·intro sz ys e he;subst he;cases x with
     | tmp t =>
      simp only[ak] at hv;split at hv<;>simp only[br,reduceCtorEq] at hv;exact vQ _ _ _ _ hv
     | const c =>
      simp only[ak] at hv;unfold aj at hv;split at hv<;>try (simp at hv;done)
      all_goals (simp only[eG] at hv;obtain⟨l,_,hv⟩:=hv;split at hv<;>simp at hv)
     | global k=>simp[ak] at hv
     | func f=>simp[ak] at hv
    ·exact i4 y hy
structure nw(g:Gh)(es:List (V×V))(en:List MapEntry):Prop where
 len:es.length=en.length
 rel:∀(j:Nat)(x:V×V)(e:MapEntry),es[j]?=some x->en[j]?=some e->aR g x.1 e.key/\aR g x.2 e.val
theorem nw.tail{x:V×V}{es:List (V×V)}{e:MapEntry}{en:List MapEntry}(h:nw g (x::es) (e::en)):nw g es en/\aR g x.1 e.key/\aR g x.2 e.val :=
 ⟨⟨by have:=h.len;simpa using this,λj y f hy hf=>h.rel (j+1) y f (by simpa using hy) (by simpa using hf)⟩,h.rel 0 x e (by simp) (by simp)⟩
theorem yx{kd:TypeDesc}{k x:V}{ck cx:bt}{b:Bool}(hk:v8 kd k=true)(h:Jr k x=some b)(h1:aR g k ck)(h2:aR g x cx):Instr.sameNow kd ck cx=some b:=by
 unfold Jr at h;split at h
 ·split at h<;>simp only[br,reduceCtorEq] at h;rename_i e;subst h;subst e;cases h1;cases h2;cases kd<;>simp[v8] at hk;simp[Instr.sameNow]
 ·simp only[br] at h;subst h;cases h1 with
  | str b1=>cases h2 with
   | str b2 =>
    cases kd<;>simp[v8] at hk;simp only[Instr.sameNow,beq_toListBytes,vm,o5 _ _ b1 b2]
 ·simp only[br] at h;subst h;cases h1;cases h2;cases kd<;>simp[v8] at hk;simp[Instr.sameNow]
 ·cases h
theorem zgx{kd:TypeDesc}{k:V}{ck:bt}(hk:v8 kd k=true)(h1:aR g k ck):∀{es:List (V×V)}{en:List MapEntry}(i:Nat){r:bX},nw g es en->Js k es=some r ->
  ∃r',Instr.findNow kd ck en i=some r'/\match r,r' with
   | none,none=>True
   | some v,some (_,cv)=>aR g v cv/\∃x∈es,x.2=v
   | _,_=>False
 | [],[],i,r,_,h=>by simp only[Js,br] at h;subst h;exact⟨none,rfl,trivial⟩
 | [],_::_,i,r,hr,h=>by have:=hr.len;simp at this
 | _::_,[],i,r,hr,h=>by have:=hr.len;simp at this
 | (x,v)::es,e::en,i,r,hr,h=>by
  obtain⟨ht,hx,hv⟩:=hr.tail;simp only[Js] at h;split at h
  next o7=>simp only[br] at h;subst h;refine⟨some (i,e.val),?_,hv,_,eH ..,rfl⟩;simp[Instr.findNow,yx hk o7 h1 hx]
  ·rename_i o7;obtain⟨r',h3,h4⟩:=zgx hk h1 (i+1) ht h;refine⟨r',by simp[Instr.findNow,yx hk o7 h1 hx,h3],?_⟩
   cases r<;>cases r'
   ·trivial
   ·exact h4
   ·exact h4
   ·obtain⟨h5,y,hy,Vp⟩:=h4;exact⟨h5,y,dR _ hy,Vp⟩
  ·cases h
theorem zfj(n:Nat){kt:aB}{kd:TypeDesc}(s8:P.underlying kt=some kd){k:V}{ck:bt}(hk:v8 kd k=true)(h1:aR g k ck)(e:Bool)(w:aP):(Instr.checkKey e (n+1) kt ck).run P w=.ok () w:=by
 have hu:=run_underlying s8 w;cases kd<;>cases k<;>simp[v8] at hk
 all_goals (cases h1;simp[Instr.checkKey,hu])
theorem zcA{kt:aB}{kd:TypeDesc}(s8:P.underlying kt=some kd){k:V}{ck:bt}(hk:v8 kd k=true)(h1:aR g k ck)(e:Bool)(w:aP):(Instr.checkKey e 10000 kt ck).run P w=.ok () w :=
 zfj 9999 s8 hk h1 e w
theorem xZ(h:Rel B g s a w){b:Nat}{es:List (V×V)}(hb:s.H.get b=some (.map es)) :
  ∃en ck,w.heap[g.bP b]?=some (.map en ck)/\nw g es en.toList/\aI (es.map (·.1))<=s.H.az.length/\aI (es.map (·.2))<=s.H.az.length:=by
 simp only[Hp.get,zg] at hb;obtain⟨en,ck,h1,h2,h3⟩:=h.cY.ok b _ hb;have ht:=tu.1 (show max (aI (es.map (·.1))) (aI (es.map (·.2)))<=_ from h.cY.aI b _ hb);exact⟨en,ck,h1,⟨by simpa using h2,λj x e hx he=>h3 j x e hx (by simpa using he)⟩,ht.1,ht.2⟩
theorem zj3(h:Rel B g s a w){t kt e:aB}{kd:TypeDesc}{m k v:V}{cm ck:bt}{es:List (V×V)}{b ok:Bool}(ht:P.underlying t=some (.map kt e))(s8:P.underlying kt=some kd)(hk:v8 kd k=true)
  (hm:aR g m cm) (K6:aR g k ck) (Aw:xe s.H m=some es) (hf:Nl P e k es=some (v,b)) :
  K2 P g s.H.az.length w (Instr.lookup t cm ck ok) (if ok then .bq [aW v,.bool b] else aW v):=by
 have main:∃en:List MapEntry,nw g es en/\aI (es.map (·.2))<=s.H.az.length/\∀(K:Array MapEntry->Sem bt),(do
   let es <- match cm with
    | .map none=>pure #[]
    | .map (some r)=>do
     let .map es _ <- getObj r|stuck "Lookup: map expected"
     pure es
    | _=>stuck "Lookup: map expected"
   K es:Sem bt).run P w=(K en.toArray).run P w:=by
  unfold xe at Aw;split at Aw
  ·simp only[br] at Aw;subst Aw;cases hm;exact⟨[],⟨rfl,λj x e hx=>by simp at hx⟩,eg _,λK=>by simp⟩
  next bb=>split at Aw<;>simp only[br,reduceCtorEq] at Aw;rename_i iD hb;subst Aw;cases hm;obtain⟨en,clock,h1,h2,_,h3⟩:=xZ h hb;exact⟨en.toList,h2,h3,λK=>by simp[getObj,Sem.run,h1]⟩
  ·cases Aw
 obtain⟨en,Vq,uh,cq⟩:=main
 have Gw:∃cv,∀(K:bt×Bool->Sem bt),(do
   Instr.checkKey en.toArray.isEmpty 10000 kt ck
   let x <- match <- Instr.findKey kt ck en.toArray.toList with
    | some (_,v)=>pure (v,true)
    | none=>pure (<- zeroValue e,false)
   K x:Sem bt).run P w=(K (cv,b)).run P w/\aR g v cv/\v.top<=s.H.az.length:=by
  unfold Nl at hf;cases SM:Js k es with
  | none=>rw[SM] at hf;cases hf
  | some r =>
   obtain⟨r',h1,h2⟩:=zgx hk K6 0 Vq SM;have DS:=λb=>zcA (P:=P) s8 hk K6 b w;cases r with
   | some v' =>
    rw[SM] at hf;simp only[br,cg] at hf;obtain⟨rfl,rfl⟩:=hf;cases r' with
    | none=>exact h2.elim
    | some ic =>
     obtain⟨i,cv⟩:=ic;obtain⟨h3,y,hy,Vp⟩:=h2;refine⟨cv,λK=>⟨?_,h3,?_⟩⟩
     ·simp[DS,Instr.findKey,run_underlying s8,h1]
     ·rw[<- Vp];exact cP (zn (Hg (f:=(·.2)) hy)) uh
   | none =>
    rw[SM] at hf;simp only[m9,cg] at hf;obtain⟨z,hz,rfl,rfl⟩:=hf;cases r' with
    | some ic=>obtain⟨i,cv⟩:=ic;exact h2.elim
    | none =>
     obtain⟨cz,z1,z2,z3,_⟩:=yw (g:=g) hz w;refine⟨cz,λK=>⟨?_,z2,by omega⟩⟩
     simp[DS,Instr.findKey,run_underlying s8,h1,z1]
 obtain⟨cv,Gw⟩:=Gw;have hrel:=(Gw (λ_=>pure .nilFunc)).2;refine⟨if ok then .tuple #[cv,.bool b] else cv,?_,?_,?_,λk l=>ziZ ?_⟩
 ·unfold Instr.lookup;simp only[Sem.run_bind,run_underlying ht,Result.andThen_ok]
  have e1:=cq (λes=>do
   Instr.checkKey es.isEmpty 10000 kt ck
   let (v,ok') <- match <- Instr.findKey kt ck es.toList with
    | some (_,v)=>pure (v,true)
    | none=>pure (<- zeroValue e,false)
   pure (if ok then .tuple #[v,.bool ok'] else v))
  have e2:=(Gw (λx=>pure (if ok then .tuple #[x.1,.bool x.2] else x.1))).1
  simp only[Sem.run_bind] at e1;refine Eq.trans e1 ?_;refine Eq.trans ?_ e2;simp only[Sem.run_bind]
 ·cases ok with
  | true =>
   refine .bq rfl λj x u hx hu=>?_;rcases j with _|_|j
   ·simp at hx hu;subst hx;subst hu;exact hrel.1.aW
   ·simp at hx hu;subst hx;subst hu;exact .bool b
   ·simp at hx
  | false=>exact hrel.1.aW
 ·cases ok with
  | true=>simp only[aF,V.top,aI,jm];have:=hrel.2;omega
  | false=>simp only[fP,bw,jm];exact hrel.2
 ·cases ok with
  | true=>intro sz xs e he;simp at he
  | false=>intro sz xs e he;exact vQ v sz xs e (by simpa using he)
end
section
variable{P:aQ}{B:dS}{g:Gh}{s:St}{a:Act}{w:aP}
theorem yy{w w':aP}{c:Nat}(hh:w'.heap[c]?=w.heap[c]?)(o:Nat):w'.cell? ⟨c,o,none⟩=w.cell? ⟨c,o,none⟩:=by
 simp[World.cell?,hh]
theorem vn{c o:Nat}{v:bt}(h:w.cell? ⟨c,o,none⟩=some v):c<w.heap.size:=by
 rcases eX c w.heap.size with h1|h1
 ·exact h1
 ·simp[World.cell?,Array.getElem?_eq_none h1] at h
def Gh.row(g:Gh)(N:Nat)(vs:dx)(l:Option Loc):Gh :=
 {g with M:=λc o=>if c=N then vs[o]? else g.M c o,own:=λc=>if c=N then l else g.own c }
theorem Rel.settle(h:Rel B g s a w)(vs:dx)(l:Option Loc){w':aP}(fu:w.heap.size<w'.heap.size)(hold:∀c,c<w.heap.size->w'.heap[c]?=w.heap[c]?)
  (dg:∀o v,vs[o]?=some v->w'.cell? ⟨w.heap.size,o,none⟩=some v) (o8:w'.os=w.os) (ht:w'.tape=w.tape) (ny:w'.output=w.output) :
  Rel B (g.row w.heap.size vs l) s a w':=by
 have hM:∀c o v,g.M c o=some v->c<w.heap.size:=λc o v hv=>vn (h.cY.mem c o v hv);refine h.j_ (b0:=none) (l0:=none) ?_ (dI _) (λ_ _ _=>rfl) (λb x hb hx=>?_) (λb h1 h2=>?_) (λb b' h1 h2=>?_) (λc o v hv=>?_) (λc l' hc=>?_) (λb j e=>by cases e) rfl rfl
  (λt x hx=>⟨x,hx,.inl ⟨rfl,λe=>by cases e⟩⟩) h.bG h.lV h.n8 (λ_ e=>by cases e)
 ·refine⟨⟨λc o v hv=>?_,λ_ _=>rfl,rfl,λ_ _ _ _ e=>e⟩,λc hc _ _=>hold c hc,λc hc _=>?_,λc hc _ o=>?_,Nat.le_of_lt fu,λ_ _ _=>rfl,λl' mK=>(by cases mK),λb hb=>(by cases hb),λ_ _ _ _=>rfl,o8,ht,ny⟩
  ·have:=hM c o v hv;simp only[Gh.row];rw[if_neg (by omega)]
   exact hv
  ·simp only[Gh.row];rw[if_neg (by omega)]
  ·simp only[Gh.row];rw[if_neg (by omega)]
 ·rcases hb with hb|hb
  ·cases hb
  ·have:=(c_.1 hx).1;omega
 ·omega
 ·omega
 ·simp only[Gh.row] at hv;split at hv
  next e=>subst e;exact dg o v hv
  ·rw[yy (hold c (hM c o v hv))];exact h.cY.mem c o v hv
 ·simp only[Gh.row] at hc;split at hc
  next e=>omega
  ·exact Nat.lt_trans (h.cY.eV c l' hc) fu
theorem aR.settled{n sz cap:Nat}{xs:aD}{vs:dx}{ow:ug}{N:Nat}{l:Option Loc}(hx:∀y:V,y∈xs->y.cells.length=sz)(nS:xs.length<=cap)(dZ:bK g (zI xs) vs)(ht:aI (zI xs)<=n)
  (hle:Gh.Le n g (g.row N vs l)):aR (g.row N vs l) (.sl sz xs ow) (.slice (some ⟨N,0,none⟩) xs.length cap):=by
 refine .sl (c:=N) (o:=0) (λj=>vs.getD j .nilFunc) hx nS (λ_=>rfl) dZ.one (λj x hj=>?_) (λj x hj=>?_)
 ·obtain⟨v,hv,_⟩:=dZ.get hj;simp[Gh.row,hv,List.getD]
 ·obtain⟨v,hv,hr⟩:=dZ.get hj;have:=hr.le hle (cP (zn (zv hj)) ht);simpa[List.getD,hv] using this
end
section
variable{P:aQ}{B:dS}{g:Gh}{s:St}{a:Act}{w:aP}
theorem HF(h:Rel B g s a w){x:Option aX}{v:bX}(hv:cU s.env x=some v):Gv g v (x.map a.eval):=by
 cases x with
 | none=>simp only[cU,br] at hv;subst hv;trivial
 | some x =>
  simp only[cU] at hv;split at hv<;>simp only[br,reduceCtorEq] at hv;rename_i u hu;subst hv;exact(zJ h hu).1
theorem zgy(h:Rel B g s a w){x:aX}{u v:V}(hu:ak s.env x=some u)
  (hv:aa u=some v) :
  ∃cv,aR g v cv/\v.top<=s.H.az.length/\(∀m l,cM g m w l v cv)/\cv=a.eval x/\((∃p,cv=.pointer (some p))\/(∃f fa fc,cv=.func (.func f) fa fc)\/∃t u,cv=.iface t u):=by
 obtain⟨h1,h2,h3⟩:=zJ h hu;generalize a.eval x=cv at h1 h3;unfold aa at hv;split at hv<;>simp only[br,reduceCtorEq] at hv
 all_goals
  subst hv;refine⟨cv,h1,h2,h3,rfl,?_⟩;cases h1
  first
   |exact .inl ⟨_,rfl⟩
   |exact .inr (.inl ⟨_,_,_,rfl⟩)
   |exact .inr (.inr ⟨_,_,rfl⟩)
theorem bK.set{cs:aD}{vs:dx}(h:bK g cs vs){x:V}{v:bt}(h1:x.one=true)(hr:aR g x v)(i:Nat):bK g (cs.set i x) (vs.set i v):=by
 refine⟨by simp[h.len],λj y hy=>?_,λj y u hy hu=>?_⟩
 ·rw[s4] at hy;split at hy
  ·split at hy<;>simp only[br,reduceCtorEq] at hy;subst hy;exact h1
  ·exact h.one j y hy
 ·rw[s4] at hy hu;split at hy
  ·rename_i e;split at hy<;>simp only[br,reduceCtorEq] at hy;rename_i hi;rw[if_pos e,if_pos (by rw[<- h.len];exact hi)] at hu
   simp only[br] at hu;subst hy;subst hu;exact hr
  next e=>rw[if_neg e] at hu;exact h.rel j y u hy hu
theorem bK.tail{x:V}{xs:aD}{u:bt}{us:dx}(h:bK g (x::xs) (u::us)):x.one=true/\aR g x u/\bK g xs us :=
 ⟨h.one 0 x rfl,h.rel 0 x u rfl rfl,⟨by have:=h.len;simpa using this,λj y hy=>h.one (j+1) y (by simpa using hy),λj y v hy hv=>h.rel (j+1) y v (by simpa using hy) (by simpa using hv)⟩⟩
theorem bK.store:∀{xs:aD}{us:dx}{cs:aD}{vs:dx}(off:Nat),bK g cs vs->bK g xs us->bK g (storeCells cs off xs) (storeCells vs off us)
 | [],[],_,_,_,h,_=>h
 | [],_::_,_,_,_,_,hx=>by have:=hx.len;simp at this
 | _::_,[],_,_,_,_,hx=>by have:=hx.len;simp at this
 | x::xs,u::us,cs,vs,off,h,hx=>by
  obtain⟨h1,h2,h3⟩:=hx.tail;exact bK.store (off+1) (h.set h1 h2 off) h3
theorem vo{v:V}{cv:bt}(hr:aR g v cv)(hc:dz v=true):bK g v.cells cv.cells.toList:=by
 by_cases ha:∃cs,v=.agg cs
 ·obtain⟨cs,rfl⟩:=ha;obtain⟨arr,rfl,h⟩:=vl hr;exact h
 ·have h1:v.one=true:=by
   cases v<;>first
    |rfl
    |(simp[dz] at hc;done)
    |exact absurd ⟨_,rfl⟩ ha
  have e1:v.cells=[v]:=by
   cases v<;>first
    |rfl
    |exact absurd ⟨_,rfl⟩ ha
  have e2:cv.cells.toList=[cv]:=by
   have:=hr.nJ h1;cases cv<;>first
    |rfl
    |(simp[Value.oneCell'] at this)
  rw[e1,e2];refine⟨rfl,λj x hx=>?_,λj x u hx hu=>?_⟩
  ·cases j with
   | zero=>simp at hx;subst hx;exact h1
   | succ j=>simp at hx
  ·cases j with
   | zero=>simp at hx hu;subst hx;subst hu;exact hr
   | succ j=>simp at hx
theorem Vr(off:Nat):∀(l:dx)(k:Nat)(arr:dN),((l.zipIdx k).foldl (λcs (p:bt×Nat)=>cs.setIfInBounds (off+p.2) p.1) arr).toList=storeCells arr.toList (off+k) l
 | [],_,_=>rfl
 | x::l,k,arr=>by
  simp only[List.zipIdx_cons,List.foldl_cons];rw[Vr off l (k+1) _];simp[storeCells,pL]
theorem kB{α:Type}:∀(vs:List α)(cs:List α)(off:Nat),(storeCells cs off vs).length=cs.length
 | [],_,_=>rfl
 | v::vs,cs,off=>by simp only[storeCells];rw[kB vs];simp
theorem Vs{cs:aD}{i:Nat}{x:V}{n:Nat}(h:aI cs<=n)(hx:x.top<=n):aI (cs.set i x)<=n :=
 qL λy hy=>by
  rcases List.mem_or_eq_of_mem_set hy with hy|rfl
  ·exact cP (zn hy) h
  ·exact hx
theorem vB{n:Nat}:∀{vs cs:aD}{off:Nat},aI cs<=n->aI vs<=n->aI (storeCells cs off vs)<=n
 | [],_,_,h,_=>h
 | v::vs,cs,off,h,hv=>by
  simp only[aI] at hv;have:=tu.1 hv;show aI (storeCells (cs.set off v) (off+1) vs)<=n;exact vB (cs:=cs.set off v) (Vs h this.1) this.2
theorem yz(v:V):aI v.cells<=v.top:=qL λ_ hx=>SH hx
theorem Vt(h:Rel B g s a w){pA pC:Nat->Option (Nat×Nat)}(hp:∀i x,pA i=some x->pC i=some x):∀{parts:List (Nat×aX)}{cs cs':aD}{arr:dN},bK g cs arr.toList->aI cs<=s.H.az.length ->
  xO cs pA s.env parts=some cs'->∃iw,Instr.fill pC arr (parts.map λ(i,x)=>(i,a.eval x))=some iw/\bK g cs' iw.toList/\aI cs'<=s.H.az.length
 | [],cs,cs',arr,hr,ht,hf=>by simp only[xO,br] at hf;subst hf;exact⟨arr,rfl,hr,ht⟩
 | (i,x)::parts,cs,cs',arr,hr,ht,hf=>by
  simp only[xO,Option.bind_eq_bind,eG] at hf;obtain⟨v,hv,⟨off,n⟩,HG,hf⟩:=hf;split at hf
  ·rename_i hc;simp only[eo,Nat.beq_eq,Nat.ble_eq] at hc;obtain⟨⟨ng,rX⟩,BJ⟩:=hc;obtain⟨h1,h2,h3⟩:=zJ h hv;have dZ:=vo h1 ng;have fu:(a.eval x).cells.size=n:=by rw[<- rX,dZ.len];simp
   have nT:arr.size=cs.length:=by have:=hr.len;simp at this;exact this.symm
   have E0:((a.eval x).cells.zipIdx.foldl (λcs (p:bt×Nat)=>cs.setIfInBounds (off+p.2) p.1) arr).toList=storeCells arr.toList off (a.eval x).cells.toList:=by
    rw[<- Array.foldl_toList,Array.toList_zipIdx];have:=Vr off (a.eval x).cells.toList 0 arr;simpa using this
   have e_:=hr.store off dZ;rw[<- E0] at e_;obtain⟨iw,f1,f2,f3⟩:=Vt h hp e_ (vB ht (cP (yz v) h2)) hf;refine⟨iw,?_,f2,f3⟩;simp only[aY,Instr.fill,hp i _ HG];have:¬(((a.eval x).cells.size≠n || off+(a.eval x).cells.size > arr.size)=true):=by
    rw[fu,nT];simp;exact BJ
   simp only[this];exact f1
  ·cases hf
theorem zj4(h:Rel B g s a w){t:aB}{parts:Array (Nat×aX)}{v:V}(hb:ky P t parts s.env=some v) :
  K2 P g s.H.az.length w (Instr.build t (parts.map λ(i,x)=>(i,a.eval x))) v:=by
 unfold ky at hb;split at hb
 ·cases hb
 ·rename_i z hz;split at hb
  ·cases hb
  ·rename_i ek;obtain⟨cz,z1,z2,z3,_,Ns⟩:=yw (g:=g) hz w;have dZ:=vo z2 (by simpa using ek)
   have Gx:aI z.cells<=s.H.az.length:=cP (yz z) (by omega)
   simp only[eG] at Ns;obtain⟨it,hit,hiz⟩:=Ns;have uV:(parts.map λ(i,x)=>(i,a.eval x)).toList=parts.toList.map λ(i,x)=>(i,a.eval x):=by simp
   split at hb
   ·rename_i fs hd;split at hb
    ·rename_i ps hps;simp only[m9] at hb;obtain⟨cs',hf,rfl⟩:=hb;obtain⟨iw,f1,f2,f3⟩:=Vt h (pC:=λi=>ps.toArray[i]?) (λi x hx=>by rw[zg] at hx;simpa using hx) dZ Gx hf
     refine⟨.agg iw,run_build w t _ iw ?_,f2.agg,f3,λ_ _=>trivial⟩;unfold SB at hps;rw[uV];simp only[Program.built,hit,hd,hiz,hps];exact f1
    ·cases hb
   ·rename_i n e hd;split at hb
    next ie hie=>simp only[m9] at hb;obtain⟨cs',hf,rfl⟩:=hb;obtain⟨iw,f1,f2,f3⟩:=Vt h (pC:=λi=>some (i * ie.size,ie.size)) (λi x hx=>hx) dZ Gx hf;refine⟨.agg iw,run_build w t _ iw ?_,f2.agg,f3,λ_ _=>trivial⟩;rw[uV];simp only[Program.built,hit,hd,hiz,hie];exact f1
    ·cases hb
   ·cases hb
theorem kQ{α:Type}:∀(new old pre post:List α),old.length=new.length->storeCells (pre++old++post) pre.length new=pre++new++post
 | [],old,pre,post,h=>by
  have:old=[]:=He h;subst this;rfl
 | v::new,[],pre,post,h=>by simp at h
 | v::new,x::old,pre,post,h=>by
  simp only[storeCells];have e:(pre++(x::old)++post).set pre.length v=(pre++[v])++old++post:=by
   simp
  rw[e];have:=kQ new old (pre++[v]) post (by simpa using h)
  simp only[aU,aZ,List.length_nil,nO] at this;rw[this];simp
theorem zgz{n:Nat}{v:V}(hv:v.cells.length=n):∀{xs:aD}{i:Nat},(∀y:V,y∈xs->y.cells.length=n)->i<xs.length->zI (xs.set i v)=storeCells (zI xs) (i * n) v.cells
 | [],i,_,hi=>by simp at hi
 | x::xs,0,hs,_=>by
  have:=kQ v.cells x.cells [] (zI xs) (by rw[hs x (eH ..),hv])
  simp only[bg,List.length_nil] at this;simp only[zI,bS,DE,Nat.zero_mul] at *;exact this.symm
 | x::xs,i+1,hs,hi=>by
  have ih:=zgz hv (xs:=xs) (i:=i) (λy hy=>hs y (dR _ hy)) (by simpa using hi)
  have hx:=hs x (eH ..);simp only[zI,bT,DE] at *;rw[ih];have shift:∀(l:aD)(r:aD)(k:Nat),x.cells++storeCells l k r=storeCells (x.cells++l) (n+k) r:=by
   intro l r
   induction r generalizing l with
   | nil=>intro k;rfl
   | cons y r ihr =>
    intro k;simp only[storeCells];rw[ihr (l.set k y) (k+1)];have e:(x.cells++l).set (n+k) y=x.cells++l.set k y:=by
     rw[uM _ _ (by omega),hx,Ng]
    rw[e];rfl
  rw[shift]
  congr 1
  rw[tq];omega
theorem wy{z:V}{n:Nat}(hz:z.cells.length=n):∀(len j:Nat),j<len * n->(zI (List.replicate len z))[j]?=z.cells[j % n]?
 | 0,j,h=>by simp at h
 | k+1,j,h=>by
  have hn:0<n:=by
   rcases Jl n with h0|h0
   ·subst h0;simp at h
   ·exact h0
  simp only[Hh,zI,DE];rcases eX j n with h1|h1
  ·rw[gb (by omega),ES h1]
  ·rw[fE (by omega),hz]
   have:=wy hz k (j - n) (by rw[tq] at h;omega)
   simp only[zI] at this;rw[this,Nat.mod_eq_sub_mod h1]
theorem zi0(h:Rel B g s a w){n len:Nat}:∀{parts:List (Nat×aX)}{xs Ci:aD}{arr:dN},xs.length=len->(∀y:V,y∈xs->y.cells.length=n)->bK g (zI xs) arr.toList->aI xs<=s.H.az.length ->
  Ei n len s.env xs parts=some Ci->∃iw,Instr.fill (λi=>some (i * n,n)) arr (parts.map λ(i,x)=>(i,a.eval x))=some iw/\bK g (zI Ci) iw.toList/\Ci.length=len/\(∀y:V,y∈Ci->y.cells.length=n)/\aI Ci<=s.H.az.length
 | [],xs,Ci,arr,hl,hs,hr,ht,hf=>by simp only[Ei,br] at hf;subst hf;exact⟨arr,rfl,hr,hl,hs,ht⟩
 | (i,x)::parts,xs,Ci,arr,hl,hs,hr,ht,hf=>by
  simp only[Ei,Option.bind_eq_bind,eG,qp,fm] at hf;obtain⟨v,hv,hf⟩:=hf;split at hf
  ·rename_i hc;simp only[eo,Nat.beq_eq,Nat.blt_eq] at hc;obtain⟨⟨ng,rX⟩,BJ⟩:=hc;obtain⟨h1,h2,h3⟩:=zJ h hv;have dZ:=vo h1 ng;have fu:(a.eval x).cells.size=n:=by rw[<- rX,dZ.len];simp
   have nT:arr.size=len * n:=by
    have:=hr.len;rw[qJ hs,hl] at this;simpa using this.symm
   have E0:((a.eval x).cells.zipIdx.foldl (λcs (p:bt×Nat)=>cs.setIfInBounds (i * n+p.2) p.1) arr).toList=storeCells arr.toList (i * n) (a.eval x).cells.toList:=by
    rw[<- Array.foldl_toList,Array.toList_zipIdx];have:=Vr (i * n) (a.eval x).cells.toList 0 arr;simpa using this
   have e_:=hr.store (i * n) dZ;rw[<- E0,<- zgz rX hs (by rw[hl];exact BJ)] at e_
   obtain⟨iw,f1,f2⟩:=zi0 h (xs:=xs.set i v) (by simpa using hl) (λy hy=>by
    rcases List.mem_or_eq_of_mem_set hy with hy|rfl
    ·exact hs y hy
    ·exact rX) e_ (Vs ht h2) hf
   refine⟨iw,?_,f2⟩;simp only[aY,Instr.fill];have hle:i * n+n<=len * n:=by
    have:=KI n (Nat.succ_le_of_lt BJ);rw[Hr] at this;exact this
   have:¬(((a.eval x).cells.size≠n || i * n+(a.eval x).cells.size > arr.size)=true):=by
    rw[fu,nT];simp;exact hle
   simp only[this];exact f1
  ·cases hf
theorem yk{xs:aD}:aI (zI xs)<=aI xs:=qL λ_ hx=>xX hx
theorem zeq(h:Rel B g s a w){t e:aB}{len n:Nat}{parts:Array (Nat×aX)}{z:V}{xs:aD}(hd:P.underlying t=some (.slice e))(hn:z4 P e=some n)(hz:qQ P e=some z)
  (hc:(Nat.beq n 0 || Nat.blt 16777216 (len * n) || !Nat.beq z.cells.length n || !dz z)=false) (hx:Ei n len s.env (List.replicate len z) parts.toList=some xs) {o:Oper} (ho:o.op=.buildSlice t len parts) :
  K5 P B s a w g o (.sl n xs (.yes e)):=by
 simp only[KJ,Bool.not_eq_false'] at hc;obtain⟨⟨⟨c1,c2⟩,c3⟩,c4⟩:=hc;have lM:n≠0:=by intro e;subst e;simp at c1
 have Vu:¬len * n > 16777216:=by
  intro bR;have:Nat.blt 16777216 (len * n)=true:=by rw[Nat.blt_eq];exact bR
  rw[this] at c2;cases c2
 have K7:z.cells.length=n:=eU c3;obtain⟨cz,z1,z2,z3,_,_⟩:=yw (g:=g) hz w;have BK:=vo z2 c4;have E1:cz.cells.size=n:=by rw[<- K7,BK.len];simp
 have m6:bK g (zI (List.replicate len z)) ((Array.range (len * n)).map (λj=>(cz.cells)[j % cz.cells.size]!)).toList:=by
  have m5:(zI (List.replicate len z)).length=len * n:=by rw[qJ (sz:=n) λy hy=>by rw[(List.mem_replicate.1 hy).2];exact K7];simp
  refine⟨by rw[m5];simp,λj x hx=>?_,λj x v hx hv=>?_⟩
  ·have hj:j<len * n:=by rw[<- m5];exact(c_.1 hx).1
   rw[wy K7 len j hj] at hx;exact BK.one _ x hx
  ·have hj:j<len * n:=by rw[<- m5];exact(c_.1 hx).1
   rw[wy K7 len j hj] at hx;have hm:j % n<cz.cells.size:=by rw[E1];exact Nat.mod_lt _ (by omega)
   simp only[Array.toList_map,Array.toList_range,iY,Hj,hj,aS,br,E1] at hv;rw[getElem!_pos cz.cells (j % n) hm] at hv;refine BK.rel _ x v hx ?_;rw[EO,Eh hm,hv]
 obtain⟨iw,f1,f2,f3,f4,f5⟩:=zi0 h (xs:=List.replicate len z) (len:=len) (n:=n) (by simp) (λy hy=>by rw[(List.mem_replicate.1 hy).2];exact K7) m6
  (qL λy hy=>by rw[(List.mem_replicate.1 hy).2];omega) hx
 have uV:(parts.map λ(i,x)=>(i,a.eval x)).toList=parts.toList.map λ(i,x)=>(i,a.eval x):=by simp
 have oc:iw.size=len * n:=by
  have:=f2.len;rw[qJ f4,f3] at this;simpa using this.symm
 have cq:(Instr.buildSlice t len (parts.map λ(i,x)=>(i,a.eval x))).run P w=.ok (.slice (some ⟨w.heap.size,0,none⟩) len len) (w.alloc (.cells iw e)):=by
  unfold Instr.buildSlice;rcases Jl len with h0|h0
  ·subst h0;simp only[Nat.zero_mul] at f1 oc;have r0:Array.range 0=#[]:=rfl;have f1':Instr.fill (λi=>some (i * n,n)) #[] (parts.toList.map λ(i,x)=>(i,a.eval x))=some iw:=by simpa[r0] using f1
   simp only[Sem.run_bind,run_underlying hd,ju hn,Result.andThen_ok,Nat.zero_mul,r0,uV];simp[f1',newRow]
   try rfl
  ·have:¬len * n=0:=by
    intro e0;rcases Nat.mul_eq_zero.1 e0 with e0|e0<;>omega
   simp[run_underlying hd,ju hn,Vu,this,z1,f1,newRow]
   try rfl
 refine⟨g.row w.heap.size iw.toList (o.dst.map (Loc.slot B.d)),.slice (some ⟨w.heap.size,0,none⟩) len len,w.alloc (.cells iw e),by simp only[execOp,ho,Sem.run_bind,cq,Result.andThen_ok,Sem.run_pure],?_⟩
 have hrel:=h.settle iw.toList (o.dst.map (Loc.slot B.d)) (w':=w.alloc (.cells iw e)) (by simp) (λc hc=>heap_alloc_old w _ hc) (λo v hv=>by rw[World.cell?_alloc_new];simpa using hv) rfl rfl rfl
 have bR:∀b,b<s.H.az.length->g.bP b<w.heap.size:=h.cY.lt;have hle:Gh.Le s.H.az.length g (g.row w.heap.size iw.toList (o.dst.map (Loc.slot B.d))):=by
  refine⟨λc o v hv=>?_,λ_ _=>rfl,rfl,λ_ _ _ _ e=>e⟩;have:=vn (h.cY.mem c o v hv);simp only[Gh.row];rw[if_neg (by omega)];exact hv
 refine⟨hrel,?_,λt ht=>?_,f5⟩
 ·have:=aR.settled (g:=g) (ow:=.yes e) (N:=w.heap.size) (l:=o.dst.map (Loc.slot B.d)) (cap:=len) f4 (by omega) f2 (cP yk f5) hle
  rw[f3] at this;exact this
 ·refine⟨iw.toList,zgr ⟨by simp[oc,f3],.inr ⟨w.heap.size,len,iw,by rw[f3],eg _,heap_alloc_new w _,by omega,?_,oc,?_⟩⟩,λc hc=>?_⟩
  ·have:len<=len * n:=Nat.le_mul_of_pos_right _ (by omega)
   simp only[maxLen];omega
  ·rw[p9 (by simp[oc,f3])]
  ·simp only[Value.ownBlock,br] at hc;subst hc;refine⟨by simp[Gh.row,ht],λo ho _=>?_,λb hb e=>?_⟩
   ·simp only[Gh.row,aF];simp only at ho;exact uc (by simp[oc];rw[f3] at ho;omega)
   ·have:=bR b hb;have e':g.bP b=w.heap.size:=e;omega
theorem zgA{isAgg:Bool}{sz:Nat}(h1:isAgg=false->sz=1):∀{n:Nat}{cs:aD},n * sz<=cs.length->(∀x∈cs,x.one=true)->zI (xV isAgg sz n cs)=cs.take (n * sz)/\(∀y∈xV isAgg sz n cs,y.cells.length=sz)/\(xV isAgg sz n cs).length=n
 | 0,cs,_,_=>by simp[xV,zI]
 | n+1,cs,hl,ho=>by
  have mK:n * sz<=(cs.drop sz).length:=by rw[tq] at hl;simp;omega
  obtain⟨i1,i2,i3⟩:=zgA h1 (n:=n) (cs:=cs.drop sz) mK (λx hx=>ho x (B8 hx));have fu:sz<=cs.length:=by rw[tq] at hl;omega
  have e:cs.take ((n+1) * sz)=cs.take sz++(cs.drop sz).take (n * sz):=by
   rw[show(n+1) * sz=sz+n * sz by rw[tq];omega,List.take_add]
  cases isAgg with
  | true =>
   simp only[xV,aF,zI,DE,V.cells] at *;refine⟨by rw[i1,e],λy hy=>?_,by simp[i3]⟩
   rcases dH.1 hy with rfl|hy
   ·simp;omega
   ·exact i2 y hy
  | false =>
   have HH:=h1 rfl;subst HH;cases cs with
   | nil=>simp at fu
   | cons x cs =>
    have hx:=ho x (eH ..);have El:x.cells=[x]:=by cases x<;>first|rfl|(simp[V.one,Cc] at hx)
    simp only[xV,fP,bw,List.headD_cons,zI,DE] at *;refine⟨by rw[i1,e,El];simp,λy hy=>?_,by rw[aZ,i3]⟩
    rcases dH.1 hy with rfl|hy
    ·rw[El];rfl
    ·exact i2 y hy
structure Src(g:Gh)(n:Nat)(w:aP)(sz:Nat)(ys:aD)(cy:bt):Prop where
 form:∃ad cap,cy=.slice ad ys.length cap/\(ys≠[]->∃a0 news,ad=some a0/\bK g (zI ys) news/\∀j v,news[j]?=some v->w.cell? (a0.add j)=some v)
 sized:∀y:V,y∈ys->y.cells.length=sz
 aI:aI ys<=n
theorem yl(h:Rel B g s a w){e:aB}{sz:Nat}{y:V}{ys:aD}{cy:bt}(fu:z4 P e=some sz)(hy:ww P s.H e y=some ys)(hr:aR g y cy)(ht:y.top<=s.H.az.length):Src g s.H.az.length w sz ys cy:=by
 unfold ww at hy;split at hy
 ·simp only[br] at hy;subst hy;cases hr;exact⟨⟨none,0,rfl,λhn=>absurd rfl hn⟩,λy hy=>by simp at hy,eg _⟩
 ·rename_i OO xs ow;simp only[Option.bind_eq_bind,eG] at hy;obtain⟨n,hn,hy⟩:=hy;rw[fu] at hn;cases hn;split at hy<;>simp only[br,reduceCtorEq] at hy;rename_i e';subst e';subst hy;cases hr with
  | sl f h1 h2 h3 h4 h5 h6 =>
   rename_i ad cap c o;refine⟨⟨ad,cap,rfl,λhn=>⟨⟨c,o,none⟩,(List.range (zI xs).length).map f,h3 hn,⟨by simp,h4,λj x v hx hv=>?_⟩,λj v hv=>?_⟩⟩,h1,ht⟩
   ·have hj:=(c_.1 hx).1;simp[hj] at hv;subst hv;exact h6 j x hx
   ·have hj:j<(zI xs).length:=by have:=(c_.1 hv).1;simpa using this
    have e':f j=v:=by simpa[hj] using hv
    rw[Addr.add_lit,<- e'];exact h.cY.mem _ _ _ (h5 j _ (gh hj))
 ·rename_i b off len Vv;simp only[Option.bind_eq_bind,eG] at hy;obtain⟨x,hx,hy⟩:=hy;split at hy<;>try (cases hy;done)
  rename_i cs ty;simp only[eG] at hy;obtain⟨n,hn,ag,E2,hy⟩:=hy;rw[fu] at hn;cases hn;split at hy<;>simp only[br,reduceCtorEq] at hy;rename_i hc;simp only[eo,tn] at hc;obtain⟨hle,Vw⟩:=hc;have aid:off+len * sz<=cs.length:=rJ hle;obtain⟨arr,a1,a2,a3,_⟩:=xg h hx;have s9:((cs.drop off).map aW).length=cs.length - off:=by simp
  obtain⟨f1,f2,f3⟩:=zgA (isAgg:=ag) (sz:=sz) (n:=len) (cs:=(cs.drop off).map aW) (λe=>Vw.elim (λh1=>by rw[e] at h1;cases h1) eU) (by rw[s9];omega) (λx hx=>by
   simp only[mj] at hx;obtain⟨y,hy,rfl⟩:=hx;rw[Vh];obtain⟨j,hj⟩:=List.getElem?_of_mem (B8 hy)
   exact a2.one j y hj)
  subst hy;cases hr with
  | sr AT =>
   refine⟨⟨some ⟨g.bP b,off,none⟩,Vv,by rw[f3],λ_=>⟨_,(arr.toList.drop off).take (len * sz),rfl,?_,λj v hv=>?_⟩⟩,f2,?_⟩
   ·rw[f1];refine⟨?_,λj x hx=>?_,λj x v hx hv=>?_⟩
    ·have:=a2.len;simp at this ⊢;omega
    ·simp only[Ao] at hx;split at hx<;>try (cases hx;done)
     simp only[iY,Hl,m9] at hx;obtain⟨y,hy,rfl⟩:=hx;rw[Vh];exact a2.one _ _ hy
    ·simp only[Ao] at hx hv;split at hx<;>try (cases hx;done)
     rename_i hj;rw[if_pos hj] at hv;simp only[iY,Hl,m9] at hx hv;obtain⟨y,hy,rfl⟩:=hx;exact(a2.rel _ _ _ hy hv).aW
   ·simp only[Ao] at hv;split at hv<;>try (cases hv;done)
    simp only[Hl] at hv;rw[Addr.add_lit,cell_of_row w _ _ arr _ _ a1];simpa using hv
   ·refine qL λy hy=>?_;have m5:∀z∈zI (xV ag sz len ((cs.drop off).map aW)),z.top<=s.H.az.length:=λz hz=>by
     rw[f1] at hz;have:=B9 hz;simp only[mj] at this;obtain⟨u,hu,rfl⟩:=this;rw[jm];exact cP (zn (B8 hu)) a3
    cases y with
    | agg us=>exact qL λz hz=>m5 z (List.mem_flatMap.2 ⟨_,hy,hz⟩)
    | _=>exact m5 _ (List.mem_flatMap.2 ⟨_,hy,oX.2 rfl⟩)
 ·cases hy
theorem zk5(h:Rel B g s a w){src dst:aB}{b off len cap:Nat}{u v:V}{x:aX}{o:Oper}(hu:KQ P s.H src (.sr b off len cap)=some u)(hr:vz P src dst u=some v)(hx:aR g (.sr b off len cap) (a.eval x))(ht:(V.sr b off len cap).top<=s.H.az.length)(ho:o.op=.convert src dst x) :
  K5 P B s a w g o v:=by
 simp only[vz,Option.bind_eq_bind,eG] at hr;obtain⟨ds,hs,dd,hd,hr⟩:=hr;unfold KQ at hu;split at hu
 ·rename_i e _ _ _ _ OP heq;rw[hs] at OP;cases OP;cases heq;split at hu<;>simp only[br,reduceCtorEq] at hu;rename_i xs oU;subst hu;cases dd<;>simp only[reduceCtorEq] at hr;simp only[eG] at hr;obtain⟨d8,h8,hr⟩:=hr;split at hr<;>try (cases hr;done)
  simp only[m9] at hr;obtain⟨l,hl,rfl⟩:=hr;obtain⟨n,hn⟩:∃n,z4 P e=some n:=by
   have h1:=oU;simp only[ww,Option.bind_eq_bind,eG] at h1;obtain⟨_,_,h1⟩:=h1;split at h1<;>try (cases h1;done)
   simp only[eG] at h1;obtain⟨n,hn,_⟩:=h1;exact⟨n,hn⟩
  have gp:=yl h hn oU hx ht;obtain⟨ad,ou,nK,k_⟩:=gp.form;obtain⟨ns,ov,_⟩:=nu hl;have OQ:∀y∈zI xs,∃k:Int,y=.int .u8 k:=λy hy=>by
   subst ov;obtain⟨z,hz,hy⟩:=List.mem_flatMap.1 hy;obtain⟨k,_,rfl⟩:=mj.1 hz;simp only[V.cells,oX] at hy;exact⟨_,hy⟩
  obtain⟨f,hf⟩:∃f:Nat->bt,f=λ_=>.nilFunc:=⟨_,rfl⟩;have hrel:aR { g with M:=λc o=>w.cell? ⟨c,o,none⟩ } (.sl 1 xs .no) (a.eval x):=by
   generalize a.eval x=cx at hx nK;cases hx with
   | sr nS =>
    cases nK;have o9:∀(j:Nat)(y:V),(zI xs)[j]?=some y->y.one=true:=λj y hy=>by obtain⟨k,rfl⟩:=OQ y (zv hy);rfl
    have ng:∀y:V,y∈xs->y.cells.length=1:=λy hy=>by
     subst ov;obtain⟨k,_,rfl⟩:=mj.1 hy;rfl
    by_cases cI:xs=[]
    ·subst cI;exact .sl (c:=0) (o:=0) (λ_=>.nilFunc) (λy hy=>by simp at hy) (eg _) (λhn=>absurd rfl hn) (λj y hy=>by simp[zI] at hy) (λj y hy=>by simp[zI] at hy) (λj y hy=>by simp[zI] at hy)
    ·obtain⟨a0,news,h0,dZ,dg⟩:=k_ cI;cases h0;refine .sl (c:=g.bP b) (o:=off) (λj=>news.getD j .nilFunc) ng nS (λ_=>rfl) o9 (λj y hy=>?_) (λj y hy=>?_)
     ·obtain⟨v,hv,_⟩:=dZ.get hy;have:=dg j v hv;rw[Addr.add_lit] at this;simpa[List.getD,hv] using this
     ·obtain⟨v,hv,Vx⟩:=dZ.get hy;obtain⟨k,rfl⟩:=OQ y (zv hy);cases Vx;simp only[List.getD,hv,fQ];exact .int _ _
  obtain⟨c1,c2⟩:=zdk (P:=P) (w:=w) hl hrel (λc o u h=>h);rw[nK] at c1;refine⟨g,.string (bytes l),w,?_,⟨h,.str c2,λ_ _=>trivial,eg _⟩⟩;simp only[execOp,ho,nK,Sem.run_bind,run_convert_bytes_string w src dst e _ _ _ hs h8 hd,c1,Result.andThen_ok,Sem.run_pure]
 ·simp only[br] at hu;subst hu;cases ds<;>cases dd<;>simp only[reduceCtorEq] at hr
theorem zgB(h:Rel B g s a w){src dst:aB}{l:bN}{v:V}{x:aX}{o:Oper}(hr:vz P src dst (.str l)=some v)(hx:aR g (.str l) (a.eval x))(rY:P.underlying dst≠some .string)(ho:o.op=.convert src dst x) :
  K5 P B s a w g o v:=by
 simp only[vz,Option.bind_eq_bind,eG] at hr;obtain⟨ds,hs,dd,hd,hr⟩:=hr;generalize he:a.eval x=cx at hx;cases hx with
 | str hl =>
  split at hr<;>try (cases hr;done)
  next e=>cases e
  next e=>cases e
  ·exact absurd hd rY
  next e=>cases e
  next e=>cases e
  ·rename_i e l' mK;cases mK;simp only[eG] at hr;obtain⟨d8,h8,hr⟩:=hr;split at hr<;>simp only[br,reduceCtorEq] at hr;subst hr;have fu:(bytes l).size=l.length:=kH l;have nS:=grownCap_ge w (bytes l).size 0 e;generalize hC:grownCap w (bytes l).size 0 e=cap at nS;have cq:=run_bytes_of_string (P:=P) w src dst e (bytes l) hs hd h8;rw[hC] at cq
   have b_:∀(j:Nat)(b:Nat),l[j]?=some b->(bytesRow (bytes l) cap)[j]?=some (.int .u8 b):=λj b hb=>by
    have hj:=(c_.1 hb).1;have nA:=hl b (zv hb);unfold bytesRow;rw[Array.getElem?_append_left (by simp[bytes];exact hj)]
    simp[bytes,hb,UInt8.toNat_ofNat',ES nA]
   have m5:zI (l.map λ(b:Nat)=>V.int .u8 b)=l.map λ(b:Nat)=>V.int .u8 b:=by
    clear b_ hl fu nS hC cq he
    induction l with
    | nil=>rfl
    | cons n ns ih=>simp only[zI,aY,DE,V.cells] at *;rw[ih];rfl
   have hrel:=h.settle (l.map λ(b:Nat)=>Value.int .u8 b) none (w':=w.drew.alloc (.cells (bytesRow (bytes l) cap) e ((bytesRow (bytes l) cap).size,(bytesRow (bytes l) cap).size+1)))
    (by show _<(w.heap.push _).size;simp) (λc hc=>heap_alloc_old w.drew _ hc) (λo v hv=>by
     simp only[iY,m9] at hv;obtain⟨b,hb,rfl⟩:=hv;rw[<- b_ o b hb]
     exact World.cell?_alloc_mark w.drew _ _ _ o) rfl rfl rfl
   have hle:Gh.Le s.H.az.length g (g.row w.heap.size (l.map λ(b:Nat)=>Value.int .u8 b) none):=by
    refine⟨λc o v hv=>?_,λ_ _=>rfl,rfl,λ_ _ _ _ e=>e⟩;have:=vn (h.cY.mem c o v hv);simp only[Gh.row];rw[if_neg (by omega)];exact hv
   refine⟨_,_,_,by simp only[execOp,ho,he,Sem.run_bind,cq,Result.andThen_ok,Sem.run_pure];rfl,hrel,?_,λ_ _=>trivial,?_⟩
   ·have:=aR.settled (g:=g) (n:=s.H.az.length) (ow:=.no) (N:=w.heap.size) (l:=none) (sz:=1) (xs:=l.map λ(b:Nat)=>V.int .u8 b) (vs:=l.map λ(b:Nat)=>Value.int .u8 b) (cap:=cap)
     (λy hy=>by obtain⟨b,_,rfl⟩:=mj.1 hy;rfl) (by simp;omega) ?_ ?_ hle
    ·rw[fu];simpa using this
    ·rw[m5];refine⟨by simp,λj x hx=>?_,λj x v hx hv=>?_⟩
     ·simp only[iY,m9] at hx;obtain⟨b,hb,rfl⟩:=hx;rfl
     ·simp only[iY,m9] at hx hv;obtain⟨b,hb,rfl⟩:=hx;obtain⟨b',cZ,rfl⟩:=hv;rw[hb] at cZ;cases cZ;exact .int _ _
    ·rw[m5];exact qL λy hy=>by obtain⟨b,_,rfl⟩:=mj.1 hy;exact eg _
   ·simp only[V.top];exact qL λy hy=>by obtain⟨b,_,rfl⟩:=mj.1 hy;exact eg _
theorem Vy(h:Rel B g s a w){gl:Nat->Nat->bX}(rj:iu P gl g){o:Oper}{v:V}(hr:jf P gl o s.env s.H=some v):K5 P B s a w g o v:=by
 obtain⟨dst,op,type,pos,after,guard⟩:=o;cases op<;>simp only[jf,Option.bind_eq_bind,eG,reduceCtorEq] at hr
 case move x =>
  obtain⟨h1,h2,h3⟩:=zJ h hr;exact⟨g,a.eval x,w,by simp[execOp],⟨h,h1,λ_ _=>h3 _ _,h2⟩⟩
 case pick c x y =>
  obtain⟨vc,hc,hr⟩:=hr;split at hr<;>try (cases hr;done)
  rename_i t;obtain⟨c1,_,_⟩:=zJ h hc;generalize uW:a.eval c=cc at c1;cases c1;cases t with
  | true =>
   simp only at hr;obtain⟨h1,h2,h3⟩:=zJ h hr;exact⟨g,a.eval x,w,by simp[execOp,uW,asBool],⟨h,h1,λ_ _=>h3 _ _,h2⟩⟩
  | false =>
   simp only at hr;obtain⟨h1,h2,h3⟩:=zJ h hr;exact⟨g,a.eval y,w,by simp[execOp,uW,asBool],⟨h,h1,λ_ _=>h3 _ _,h2⟩⟩
 case build t parts=>exact vR h (zj4 (P:=P) h hr) rfl
 case load t x =>
  obtain⟨p,hp,u,hu,hr⟩:=hr;simp only[br] at hr;subst hr;obtain⟨h1,h2,h3⟩:=zJ h hp;obtain⟨cv,c1,c2,c3⟩:=zgw h rj h1 h2 hu;exact vR h ⟨cv,c1,c2.aW,by rw[jm];exact c3,λ_ _=>vk _ _ _ _ _ _⟩ rfl
 case nilCheck x =>
  obtain⟨u,hu,hr⟩:=hr;obtain⟨cv,h1,h2,h3,h4,h5⟩:=zgy h hu hr;refine⟨g,cv,w,?_,⟨h,h1,λ_ _=>h3 _ _,h2⟩⟩;rcases h5 with⟨p,h5⟩|⟨f,fa,fc,h5⟩|⟨t,u,h5⟩
  ·simp[execOp,<- h4,h5]
  ·simp[execOp,<- h4,h5]
  ·simp[execOp,<- h4,h5]
 case binOp op t x y yt =>
  obtain⟨u,hu,v',lf,hr⟩:=hr;split at hr
  next hg=>obtain⟨u1,u2,_⟩:=zJ h hu;obtain⟨v1,v2,_⟩:=zJ h lf;have e1:=zk2 hg u1 v1 w;obtain⟨cv,c1,c2,c3,c4⟩:=znm hr u1 v1 w;exact⟨g,cv,w,by simp[execOp,e1,c1],⟨h,c2,λ_ _=>c4 _ _,by omega⟩⟩
  ·cases hr
 case unOp op t x =>
  obtain⟨u,hu,hr⟩:=hr;exact vR h (zpa hr (zJ h hu).1 _ w) rfl
 case makeInterface t x =>
  obtain⟨u,hu,hr⟩:=hr;split at hr<;>simp only[br,reduceCtorEq] at hr;rename_i hi;subst hr;obtain⟨u1,u2,_⟩:=zJ h hu;refine⟨g,.iface t (a.eval x),w,?_,⟨h,.ec u1,λ_ _=>trivial,u2⟩⟩;unfold SC at hi;cases hd:P.underlying t with
  | none=>simp[hd] at hi
  | some d =>
   rw[hd] at hi;cases d<;>first|(simp at hi;done)|simp[execOp,Instr.makeInterface,run_underlying hd]
 case convert src dst x =>
  obtain⟨u,hu,hr⟩:=hr;obtain⟨u1,u2,_⟩:=zJ h hu
  by_cases ov:∀s,u≠.str s\/P.underlying dst=some .string
  ·exact vR h (zk4 hr u1 ov h.cY.mem) rfl
  ·obtain⟨l,hl⟩:∃l,u=.str l:=by
    apply Classical.byContradiction;intro eT;exact ov λs=>.inl λe=>eT ⟨s,e⟩
   subst hl;have rY:P.underlying dst≠some .string:=λe=>ov λs=>.inr e;exact zgB h hr u1 rY rfl
 case makeFunc fn first cap =>
  obtain⟨as,has,cs,dZ,hr⟩:=hr;simp only[br] at hr;subst hr;obtain⟨a1,a2,a3,_⟩:=SL h has;obtain⟨c1,c2,c3,_⟩:=SL h dZ;refine⟨g,.func fn (first.map a.eval) (cap.map a.eval),w,by simp[execOp,Instr.makeFunc],⟨h,.fn (by simpa using a1) (by simpa using c1) (λj x v hx hv=>a2 j x v hx (by simpa using hv)) (λj x v hx hv=>c2 j x v hx (by simpa using hv)),λ_ _=>trivial,?_⟩⟩
  simp only[V.top];exact tu.2 ⟨a3,c3⟩
 case slice t x lo hi mx =>
  obtain⟨SD,iA,tv,Av,u,hu,hr⟩:=hr;obtain⟨u1,u2,_⟩:=zJ h hu;cases mx with
  | none=>exact vR h (zeB hr u1 (HF h iA) (HF h Av) u2 w) rfl
  | some m =>
   simp only[eG] at hr;obtain⟨mv,hmv,hr⟩:=hr;obtain⟨m1,_,_⟩:=zJ h hmv;split at hr<;>try (cases hr;done)
   rename_i km k sz xs o kh hh _ _ _;split at hr<;>try (cases hr;done)
   rename_i hle;have h1:=HF h Av;cases hi with
   | none=>exact h1.elim
   | some aC =>
    have HH:aR g (.int kh hh) (a.eval aC):=h1;have h2:=zj1 (P:=P) (km:=km) hr u1 (HF h iA) hle.1 hle.2 u2 w;have e1:a.eval aC=.int kh hh:=by generalize a.eval aC=ch at HH;cases HH;rfl
    have e2:a.eval m=.int km k:=by generalize a.eval m=cm at m1;cases m1;rfl
    rw[<- e1,<- e2] at h2;exact vR h h2 rfl
 case fieldAddr t x f =>
  obtain⟨ds,hd,hr⟩:=hr;split at hr<;>try (cases hr;done)
  rename_i fs;simp only[eG] at hr;obtain⟨fd,hf,sz,fu,hr⟩:=hr;split at hr
  ·cases hr
  ·rename_i h0;simp only[eG] at hr;obtain⟨u,hu,hr⟩:=hr;obtain⟨u1,u2,_⟩:=zJ h hu;have SN:Nat.beq sz 0=false:=by revert h0;cases Nat.beq sz 0<;>simp
   generalize he:a.eval x=cx at u1;split at hr<;>simp only[br,reduceCtorEq] at hr
   ·subst hr;cases u1;exact⟨g,_,w,by simp only[execOp,he,Sem.run_bind,vK hd hf fu SN,Result.andThen_ok,Sem.run_pure],⟨h,.ptr _ _,λ_ _=>trivial,u2⟩⟩
   ·subst hr;cases u1;exact⟨g,_,w,by simp only[execOp,he,Sem.run_bind,vK hd hf fu SN,Result.andThen_ok,Sem.run_pure],⟨h,.fq _ _,λ_ _=>trivial,u2⟩⟩
   ·rename_i b9 u9 k9 _;subst hr;cases u1 with
    | gj _ hh =>
     have e0:=aR.gj (k9+fd.offset) hh;rw[<- pL] at e0;exact⟨g,_,w,by simp only[execOp,he,Sem.run_bind,vK hd hf fu SN,Result.andThen_ok,Sem.run_pure],⟨h,e0,λ_ _=>trivial,u2⟩⟩
   ·subst hr;obtain⟨c,o,rfl⟩:∃c o,cx=.pointer (some ⟨c,o,none⟩):=by cases u1;exact⟨_,_,rfl⟩
    exact⟨g,_,w,by simp only[execOp,he,Sem.run_bind,vK hd hf fu SN,Result.andThen_ok,Sem.run_pure],⟨h,u1.C8 _,λ_ _=>trivial,cP (zeA _ _) u2⟩⟩
 case field t x f =>
  obtain⟨ds,hd,hr⟩:=hr;split at hr<;>try (cases hr;done)
  rename_i fs;simp only[eG] at hr;obtain⟨fd,hf,u,hu,hr⟩:=hr;split at hr<;>try (cases hr;done)
  rename_i cs;simp only[m9] at hr;obtain⟨v',hr,rfl⟩:=hr;obtain⟨u1,u2,_⟩:=zJ h hu;obtain⟨arr,he,dZ⟩:=vl u1;obtain⟨cv,c1,c2,c3,_⟩:=No (P:=P) dZ hr w;refine vR h ⟨cv,?_,c2.aW,by rw[jm];exact cP c3 u2,λ_ _=>vk _ _ _ _ _ _⟩ rfl
  rw[he];unfold Instr.field;simp[run_underlying hd,hf,asAgg,c1]
 case indexAddr t x ix =>
  obtain⟨iv,hi,hr⟩:=hr;split at hr<;>try (cases hr;done)
  rename_i k i;simp only[eG] at hr;obtain⟨u,hu,hr⟩:=hr;obtain⟨u1,u2,_⟩:=zJ h hu;have i1:=(zJ h hi).1;generalize Gy:a.eval ix=ci at i1;cases i1;generalize he:a.eval x=cx at u1;unfold zt at hr;split at hr
  ·rename_i len e hd;split at hr
   ·cases hr
   ·rename_i n hn;split at hr
    ·split at hr<;>simp only[br,reduceCtorEq] at hr;rename_i hb;subst hr;cases u1;exact⟨g,_,w,by simp only[execOp,he,Gy,Sem.run_bind,yb hd hn hb.1 hb.2,Result.andThen_ok,Sem.run_pure],⟨h,.ptr _ _,λ_ _=>trivial,u2⟩⟩
    ·split at hr<;>simp only[br,reduceCtorEq] at hr;rename_i hb;subst hr;cases u1;exact⟨g,_,w,by simp only[execOp,he,Gy,Sem.run_bind,yb hd hn hb.1 hb.2,Result.andThen_ok,Sem.run_pure],⟨h,.fq _ _,λ_ _=>trivial,u2⟩⟩
    ·split at hr<;>simp only[br,reduceCtorEq] at hr;rename_i hb;rename_i b9 u9 k9 _;subst hr;cases u1 with
     | gj _ hh =>
      have e0:=aR.gj (k9+i.toNat * n) hh;rw[<- pL] at e0;exact⟨g,_,w,by simp only[execOp,he,Gy,Sem.run_bind,yb hd hn hb.1 hb.2,Result.andThen_ok,Sem.run_pure],⟨h,e0,λ_ _=>trivial,u2⟩⟩
    ·split at hr<;>simp only[br,reduceCtorEq] at hr;rename_i hb;subst hr;obtain⟨c,o,rfl⟩:∃c o,cx=.pointer (some ⟨c,o,none⟩):=by cases u1;exact⟨_,_,rfl⟩
     exact⟨g,_,w,by simp only[execOp,he,Gy,Sem.run_bind,yb hd hn hb.1 hb.2,Result.andThen_ok,Sem.run_pure],⟨h,u1.C8 _,λ_ _=>trivial,cP (zeA _ _) u2⟩⟩
    ·cases hr
  ·rename_i e hd;split at hr
   ·cases hr
   ·rename_i n hn;split at hr
    ·rename_i sz xs ow _;split at hr
     ·rename_i fu;have Cj:n=sz:=eU fu;subst Cj;split at hr
      ·cases hr
      ·rename_i hi0;split at hr<;>simp only[br,reduceCtorEq] at hr;rename_i y hy;rw[zg] at hy;subst hr;obtain⟨ad,cap,rfl,nS,Nt⟩:=u1.C9;obtain⟨c,o,rfl⟩:=Nt (by rintro rfl;simp at hy)
       have bR:=(c_.1 hy).1
       exact⟨g,_,w,by simp only[execOp,he,Gy,Sem.run_bind,yX hd hn (show 0<=i by omega) (show i<(xs.length:Int) by omega),Result.andThen_ok,Sem.run_pure],
        ⟨h,u1.elem hy,λ_ _=>trivial,cP (yz y) (cP (zn (zv hy)) u2)⟩⟩
     ·cases hr
    ·split at hr<;>simp only[br,reduceCtorEq] at hr;rename_i hb;subst hr;cases u1;exact⟨g,_,w,by simp only[execOp,he,Gy,Sem.run_bind,yX hd hn hb.1 hb.2,Result.andThen_ok,Sem.run_pure],⟨h,.ptr _ _,λ_ _=>trivial,u2⟩⟩
    ·split at hr<;>simp only[br,reduceCtorEq] at hr;rename_i hb;subst hr;cases u1 with
     | dD hh =>
      exact⟨g,_,w,by simp only[execOp,he,Gy,Sem.run_bind,yX hd hn hb.1 hb.2,Result.andThen_ok,Sem.run_pure],⟨h,.gj _ hh,λ_ _=>trivial,u2⟩⟩
    ·cases hr
  ·cases hr
 case index t x ix =>
  obtain⟨iv,hi,hr⟩:=hr;split at hr<;>try (cases hr;done)
  rename_i k i;simp only[eG] at hr;obtain⟨u,hu,hr⟩:=hr;obtain⟨u1,u2,_⟩:=zJ h hu;have i1:=(zJ h hi).1;generalize Gy:a.eval ix=ci at i1;cases i1;generalize he:a.eval x=cx at u1;unfold OI at hr;split at hr
  ·rename_i len e hd;split at hr
   ·cases hr
   ·rename_i n hn;split at hr
    ·split at hr<;>simp only[m9,reduceCtorEq] at hr;rename_i hb;obtain⟨v',hr,rfl⟩:=hr;obtain⟨arr,rfl,dZ⟩:=vl u1;obtain⟨cv,c1,c2,c3⟩:=zep (k:=k) hd hn dZ hb.1 hb.2 hr w;exact⟨g,cv,w,by simp only[execOp,he,Gy,Sem.run_bind,c1,Result.andThen_ok,Sem.run_pure],⟨h,c2.aW,λ_ _=>vk _ _ _ _ _ _,by rw[jm];exact cP c3 u2⟩⟩
    ·cases hr
  ·rename_i hd;split at hr
   ·split at hr
    ·cases hr
    ·rename_i hi0;split at hr<;>simp only[br,reduceCtorEq] at hr;rename_i b hb;rw[zg] at hb;subst hr;cases u1 with
     | str hl =>
      exact⟨g,_,w,by simp only[execOp,he,Gy,Sem.run_bind,zfi hd hl hi0 hb,Result.andThen_ok,Sem.run_pure],⟨h,.int _ _,λ_ _=>trivial,eg _⟩⟩
   ·cases hr
  ·cases hr
 case lookup t m k ok =>
  obtain⟨ds,hd,hr⟩:=hr;split at hr<;>try (cases hr;done)
  rename_i kt e;simp only[eG] at hr;obtain⟨kd,Gz,kv,hk,hr⟩:=hr;split at hr
  ·cases hr
  next ek=>simp only[eG,br] at hr;obtain⟨mv,hm,es,Aw,⟨v',b⟩,hf,rfl⟩:=hr;exact vR h (zj3 h hd Gz (by simpa using ek) (zJ h hm).1 (zJ h hk).1 Aw hf) rfl
 case typeAssert x xt t ok =>
  split at hr
  ·cases hr
  ·rename_i hi;simp only[eG] at hr;obtain⟨u,hu,hr⟩:=hr;obtain⟨u1,u2,_⟩:=zJ h hu;generalize he:a.eval x=cx at u1;obtain⟨d,hd,Vz⟩:∃d,P.underlying t=some d/\∀ms,d≠.interface ms:=by
    unfold SC at hi;cases hd:P.underlying t with
    | none=>simp[hd] at hi
    | some d =>
     rw[hd] at hi;exact⟨d,rfl,λms e=>by subst e;simp at hi⟩
   have cq:∀cv,(Instr.typeAssert cx xt t ok).run P w=.ok cv w->aR g v cv->v.top<=s.H.az.length->(∀sz xs e,v≠.sl sz xs (.yes e))->K5 P B s a w g { dst,op:=.typeAssert x xt t ok,type,pos,after,guard } v :=
    λcv h1 h2 h3 h4=>⟨g,cv,w,by simp[execOp,he,h1],⟨h,h2,λ_ _=>ziZ h4,h3⟩⟩
   have Jt:∀z,qQ P t=some z->ok=true->v=.bq [z,.bool false]->(∀cz,(zeroValue t).run P w=.ok cz w->(Instr.typeAssert cx xt t true).run P w=.ok (.tuple #[cz,.bool false]) w)->K5 P B s a w g { dst,op:=.typeAssert x xt t ok,type,pos,after,guard } v:=by
    intro z hz ek hv SO;subst ek;subst hv;obtain⟨cz,z1,z2,z3,_⟩:=yw (g:=g) hz w;refine cq _ (SO cz z1) (.bq rfl λj x u hx hu=>?_) (by simp only[V.top,aI];omega) (λ_ _ _ e=>by cases e)
    rcases j with _|_|j
    ·simp at hx hu;subst hx;subst hu;exact z2
    ·simp at hx hu;subst hx;subst hu;exact .bool false
    ·simp at hx
   split at hr
   ·split at hr<;>simp only[eG,br,reduceCtorEq] at hr;rename_i ek;obtain⟨z,hz,rfl⟩:=hr;cases u1;refine Jt z hz ek rfl λcz BK=>?_;unfold Instr.typeAssert;cases d<;>first|exact absurd rfl (Vz _)|simp[run_underlying hd,BK]
   ·rename_i ut uv _;obtain⟨cu,rfl⟩:∃cu,cx=.iface ut cu:=by cases u1;exact⟨_,rfl⟩
    have u3:aR g uv cu:=by cases u1;assumption
    split at hr
    ·rename_i VB;simp only[br] at hr;have VC:ut=t:=eU VB;subst VC;subst hr;refine cq (if ok then .tuple #[cu,.bool true] else cu) ?_ ?_ ?_ ?_
     ·unfold Instr.typeAssert;cases d<;>first|exact absurd rfl (Vz _)|(simp[run_underlying hd])
     ·cases ok with
      | true =>
       refine .bq rfl λj x u hx hu=>?_;rcases j with _|_|j
       ·simp at hx hu;subst hx;subst hu;exact u3.aW
       ·simp at hx hu;subst hx;subst hu;exact .bool true
       ·simp at hx
      | false=>exact u3.aW
     ·have u2':uv.top<=s.H.az.length:=u2;cases ok with
      | true=>simp only[aF,V.top,aI,jm];omega
      | false=>simp only[fP,bw,jm];exact u2'
     ·cases ok with
      | true=>intro sz xs e he;simp at he
      | false=>intro sz xs e he;exact vQ uv sz xs e (by simpa using he)
    ·rename_i VB;split at hr<;>simp only[eG,br,reduceCtorEq] at hr;rename_i ek;obtain⟨z,hz,rfl⟩:=hr;have cI:ut≠t:=λe=>VB (by subst e;exact iN _)
     refine Jt z hz ek rfl λcz BK=>?_;unfold Instr.typeAssert;cases d<;>first|exact absurd rfl (Vz _)|simp[run_underlying hd,cI,BK]
   ·cases hr
 case extract x i =>
  obtain⟨u,hu,hr⟩:=hr;split at hr<;>try (cases hr;done)
  rename_i vs;split at hr<;>simp only[br,reduceCtorEq] at hr;rename_i v' lf;subst hr;rw[zg] at lf;obtain⟨u1,u2,_⟩:=zJ h hu;generalize he:a.eval x=cx at u1;cases u1 with
  | bq t1 t2 =>
   rename_i arr;have bR:i<arr.size:=by rw[<- t1];exact(c_.1 lf).1
   have dy:arr[i]?=some arr[i]:=Eh bR;refine⟨g,arr[i],w,by simp[execOp,he,Instr.extract,dy],⟨h,(t2 i v' _ lf dy).aW,λ_ _=>vk _ _ _ _ _ _,?_⟩⟩
   rw[jm];exact cP (zn (zv lf)) u2
 case buildSlice t len parts =>
  obtain⟨ds,hd,hr⟩:=hr;split at hr<;>try (cases hr;done)
  rename_i e;simp only[eG] at hr;obtain⟨n,hn,z,hz,hr⟩:=hr;split at hr
  ·cases hr
  next hc=>simp only[eG,br] at hr;obtain⟨xs,hx,rfl⟩:=hr;exact zeq h hd hn hz (Bool.eq_false_iff.2 hc) hx rfl
end
section
variable{P:aQ}{B:dS}{g:Gh}{s:St}{a:Act}{w:aP}
def Gh.var(g:Gh)(n N:Nat):Gh:={ g with bP:=λb=>if b=n then N else g.bP b }
theorem Gh.E3(g:Gh)(n N:Nat):Gh.Le n g (g.var n N):=⟨λ_ _ _ h=>h,λb hb=>by simp only[Gh.var];rw[if_neg (by omega)],rfl,λ_ _ _ _ h=>h⟩
theorem SP{w w':aP}{obj:Obj}(hw:w'.heap=w.heap.push obj){c:Nat}(hc:c<w.heap.size):w'.heap[c]?=w.heap[c]?:=by
 rw[hw,Array.getElem?_push,if_neg (by omega)]
theorem VD{w w':aP}{obj:Obj}(hw:w'.heap=w.heap.push obj):w'.heap[w.heap.size]?=some obj:=by
 rw[hw];simp
theorem ir.push(d n:Nat)(g:Gh){w w':aP}{obj:Obj}(hw:w'.heap=w.heap.push obj)(o8:w'.os=w.os)(ht:w'.tape=w.tape)(ny:w'.output=w.output):ir d none none n g w (g.var n w.heap.size) w' :=
 ⟨g.E3 n _,λc hc _ _=>SP hw hc,λ_ _ _=>rfl,λ_ _ _ _=>rfl,by rw[hw];simp,λ_ _ _=>rfl,λl hl=>(by cases hl),λb hb=>(by cases hb),λ_ _ _ _=>rfl,o8,ht,ny⟩
theorem yY{bs Ax:List aV}(h:∀b,b<bs.length->Ax[b]?=bs[b]?){b off:Nat}(hl:jp bs b off):jp Ax b off:=by
 obtain⟨cs,t,sz,xs,h1,h2⟩:=hl;exact⟨cs,t,sz,xs,by rw[h b (c_.1 h1).1];exact h1,h2⟩
theorem Rel.push(h:Rel B g s a w)(bP:aV){obj:Obj}{w':aP}(hw:w'.heap=w.heap.push obj)(o8:w'.os=w.os)(ht:w'.tape=w.tape)(ny:w'.output=w.output)
  (ek:fY (g.var s.H.az.length w.heap.size) (s.H.az.length+1) w' s.H.az.length bP) (dr:bP.top<=s.H.az.length+1):Rel B (g.var s.H.az.length w.heap.size) { s with H:=s.H.push bP } a w':=by
 have hl:(s.H.push bP).az.length=s.H.az.length+1:=by simp[Hp.push]
 have dy:∀b,b<s.H.az.length->(s.H.push bP).az[b]?=s.H.az[b]?:=λb hb=>by simp only[Hp.push];rw[gb hb]
 have rq:(s.H.push bP).az[s.H.az.length]?=some bP:=by simp[Hp.push]
 have hv:(g.var s.H.az.length w.heap.size).bP s.H.az.length=w.heap.size:=by simp[Gh.var]
 have fu:w'.heap.size=w.heap.size+1:=by rw[hw];simp
 refine h.j_ (s':={ s with H:=s.H.push bP }) (ir.push B.d s.H.az.length g hw o8 ht ny) (by rw[hl];omega) (λb hb _=>dy b hb) (λb x hb hx=>?_) (λb h1 h2=>?_) (λb b' h1 h2 h3 h4 _=>?_) (λc o v hv=>?_) (λc l hc=>?_)
  (λb j e=>by cases e) rfl rfl (λt x hx=>⟨x,hx,.inl ⟨rfl,λe=>by cases e⟩⟩) ?_ (λb off pO=>yY dy (h.lV b off pO)) h.n8 (λ_ e=>by cases e)
 ·have cZ:b=s.H.az.length:=by
   rcases hb with hb|hb
   ·cases hb
   ·have:=(c_.1 hx).1;rw[hl] at this;omega
  subst cZ;rw[rq] at hx;cases hx;rw[hl];exact⟨ek,dr⟩
 ·have:b=s.H.az.length:=by rw[hl] at h2;omega
  subst this;rw[hv];refine⟨dI _,by omega,?_,λo=>?_⟩
  ·show g.own w.heap.size=none;cases ho:g.own w.heap.size with
   | none=>rfl
   | some l=>have:=h.cY.eV _ _ ho;omega
  ·show g.M w.heap.size o=none;cases hm:g.M w.heap.size o with
   | none=>rfl
   | some v=>have:=vn (h.cY.mem _ _ _ hm);omega
 ·rw[hl] at h2 h4;omega
 ·rw[yy (SP hw (vn (h.cY.mem c o v hv)))];exact h.cY.mem c o v hv
 ·have:=h.cY.eV c l hc;omega
 ·intro b x hx;rcases eX b s.H.az.length with h1|h1
  ·rw[show({ s with H:=s.H.push bP }:St).H.az[b]?=s.H.az[b]? from dy b h1] at hx;exact h.bG b x hx
  ·have cZ:b=s.H.az.length:=by
    have:=(c_.1 hx).1;have mK:({ s with H:=s.H.push bP }:St).H.az.length=s.H.az.length+1:=hl;omega
   subst cZ;rw[show({ s with H:=s.H.push bP }:St).H.az[s.H.az.length]?=some bP from rq] at hx;cases hx;exact .inl dr
theorem Rel.pP(h:Rel B g s a w){cs:aD}{arr:dN}{t:aB}(dZ:bK g cs arr.toList)(dr:aI cs<=s.H.az.length)
  (iC:∀(j:Nat)(x:V)(v:bt),cs[j]?=some x->arr[j]?=some v->cM g s.H.az.length w (.cell s.H.az.length j) x v/\∀sz xs,x≠.sl sz xs .lock) :
  Rel B (g.var s.H.az.length w.heap.size) { s with H:=s.H.push (.cells cs t) } a (w.alloc (.cells arr t)):=by
 have hw:(w.alloc (.cells arr t)).heap=w.heap.push (.cells arr t):=rfl;refine h.push (.cells cs t) hw rfl rfl rfl ⟨arr,?_,by simpa using dZ.len,λj x v hx hv=>⟨dZ.one j x hx,?_,?_,?_⟩⟩ (KM dr)
 ·rw[show(g.var s.H.az.length w.heap.size).bP s.H.az.length=w.heap.size by simp[Gh.var]]
  exact VD hw
 ·exact(dZ.rel j x v hx (by simpa using hv)).le (g.E3 _ _) (cP (zn (zv hx)) dr)
 ·refine cM.same (ir.push B.d s.H.az.length g hw rfl rfl rfl) (λe=>by cases e) (λb h1 h2=>?_) (iC j x v hx hv).1
  have:b=s.H.az.length:=by omega
  subst this;simp[Gh.var]
 ·have:=(iC j x v hx hv).2;cases x with
  | sl sz xs o=>cases o with
   | lock=>exact absurd rfl (this sz xs)
   | _=>trivial
  | _=>trivial
theorem VE{v:bt}{z:V}(h:aj v=some z):∀x∈z.cells,∀sz xs o,x≠.sl sz xs o:=by
 have key:∀(v:bt)(x:V),aj v=some x->∀sz xs o,x≠.sl sz xs o:=by
  intro v x h sz xs o e;subst e;unfold aj at h;split at h<;>try (simp at h;done)
  all_goals (simp only[eG] at h;obtain⟨l,_,h⟩:=h;split at h<;>simp at h)
 have keys:∀(vs:dx)(xs:aD),ni vs=some xs->∀x∈xs,∀sz ys o,x≠.sl sz ys o:=by
  intro vs
  induction vs with
  | nil=>intro xs h x hx;simp only[ni,br] at h;subst h;simp at hx
  | cons v vs ih =>
   intro xs h x hx;simp only[ni] at h;split at h<;>simp only[br,reduceCtorEq] at h;rename_i y ys hy s6;subst h;rcases dH.1 hx with rfl|hx
   ·exact key v _ hy
   ·exact ih ys s6 x hx
 intro x hx
 by_cases ha:∃cs,z=.agg cs
 ·obtain⟨cs,rfl⟩:=ha;unfold aj at h;split at h<;>try (simp at h;done)
  simp only[eG] at h;obtain⟨l,hl,h⟩:=h;split at h<;>simp only[br,reduceCtorEq,V.agg.injEq] at h;subst h;exact keys _ _ hl x hx
 ·have:z.cells=[z]:=by cases z<;>first|rfl|exact absurd ⟨_,rfl⟩ ha
  rw[this] at hx;simp at hx;subst hx;exact key v _ h
theorem yZ{env cX:aD}{x:aX}{v:V}(h:take env x=some (v,cX)):∀sz xs,v≠.sl sz xs .lock:=by
 intro sz xs e;subst e;cases x with
 | tmp t =>
  simp only[take,fm] at h;split at h<;>simp only[br,cg,reduceCtorEq] at h
  ·obtain⟨h,_⟩:=h;simp at h
  ·obtain⟨h,_⟩:=h;rename_i y _ _ _;cases y<;>simp[aW] at h
 | const c =>
  simp only[take,ak,m9,cg] at h;obtain⟨u,hu,rfl,_⟩:=h;exact VE hu (.sl sz xs .lock) (by simp[V.cells]) sz xs .lock rfl
 | global k=>simp[take,ak] at h
 | func f=>simp[take,ak] at h
theorem zi1{v:V}(h:dz v=true):(∃cs,v=.agg cs/\v.laid=cs.map aW)\/(v.one=true/\v.laid=[v]/\v.cells=[v]):=by
 cases v<;>first
  |exact .inl ⟨_,rfl,rfl⟩
  |exact .inr ⟨rfl,rfl,rfl⟩
  |(simp[dz] at h)
theorem VF{n b off:Nat}{v:V}{cv:bt}(hr:aR g v cv)(hc:dz v=true)(ho:cM g n w (.cell b off) v cv)(lg:∀sz xs,v≠.sl sz xs .lock)(dr:v.top<=n) :
  bK g v.laid cv.cells.toList/\aI v.laid<=n/\∀(j:Nat)(x:V)(u:bt),v.laid[j]?=some x->cv.cells[j]?=some u->cM g n w (.cell b (off+j)) x u/\∀sz xs,x≠.sl sz xs .lock:=by
 have dZ:=vo hr hc;rcases zi1 hc with⟨cs,rfl,hl⟩|⟨h1,hl,GA⟩
 ·rw[hl];refine⟨dZ.uU,by rw[eO];exact dr,λj x u hx hu=>?_⟩
  simp only[iY,m9] at hx;obtain⟨y,_,rfl⟩:=hx;exact⟨vk _ _ _ _ _ _,λsz xs e=>by cases y<;>simp[aW] at e⟩
 ·rw[hl];rw[GA] at dZ;refine⟨dZ,by simp only[aI];omega,λj x u hx hu=>?_⟩
  cases j with
  | zero =>
   simp at hx;subst hx;have e:cv.cells=#[cv]:=by
    have:=hr.nJ h1;cases cv<;>first
     |rfl
     |(simp[Value.oneCell'] at this)
   rw[e] at hu;simp at hu;subst hu;exact⟨ho,lg⟩
  | succ j=>simp at hx
end
section
variable{P:aQ}{B:dS}{g:Gh}{s:St}{a:Act}{w:aP}
theorem qE{α:Type}:∀(vs cs:List α)(off j:Nat),off+vs.length<=cs.length->(storeCells cs off vs)[j]?=if off<=j/\j<off+vs.length then vs[j - off]? else cs[j]?
 | [],cs,off,j,_=>by
  have:¬(off<=j/\j<off+0):=by omega
  simp[storeCells];intro h1 h2;omega
 | v::vs,cs,off,j,h=>by
  simp only[storeCells];rw[qE vs (cs.set off v) (off+1) j (by simp at h ⊢;omega)]
  simp only[aZ] at h ⊢
  by_cases h1:j=off
  ·subst h1;have:¬(j+1<=j/\j<j+1+vs.length):=by omega
   have h2:j<=j/\j<j+(vs.length+1):=by omega
   simp only[if_neg this,if_pos h2,Cb];rw[B7 (by omega)]
   rfl
  ·by_cases h2:off+1<=j/\j<off+1+vs.length
   ·have h3:off<=j/\j<off+(vs.length+1):=by omega
    rw[if_pos h2,if_pos h3];have:j - off=(j - (off+1))+1:=by omega
    rw[this];rfl
   ·have h3:¬(off<=j/\j<off+(vs.length+1)):=by omega
    rw[if_neg h2,if_neg h3,rW (by omega)]
theorem VG{lk:aN}{b:Nat}:∀{n off:Nat}{cs:aD},wv lk b off n cs=true->∀j x,j<n->cs[j]?=some x->locked x=true->(b,off+j)∈lk
 | 0,_,_,_,j,x,hj,_,_=>by omega
 | n+1,off,[],h,j,x,_,hx,_=>by simp at hx
 | n+1,off,c::cs,h,j,x,hj,hx,pO=>by
  simp only[wv,eo,tn,Gq] at h;cases j with
  | zero =>
   simp at hx;subst hx;rcases h.1 with h1|h1
   ·rw[pO] at h1;cases h1
   ·obtain⟨p,hp,h2⟩:=List.any_eq_true.1 h1;simp only[eo,Nat.beq_eq] at h2;obtain⟨h3,h4⟩:=h2;cases p;simp only at h3 h4;subst h3;subst h4;simpa using hp
  | succ j =>
   have:=VG h.2 j x (by omega) (by simpa using hx) pO
   rw[show off+(j+1)=off+1+j by omega]
   exact this
theorem Rel.write(h:Rel B g s a w){b:Nat}{x0 x:aV}{v:V}{l:aN}{w':aP}{N:Nat}(hN:N=g.bP b)(hb:s.H.get b=some x0)(n_:∀c,c≠N->w'.heap[c]?=w.heap[c]?)(fu:w'.heap.size=w.heap.size)(o8:w'.os=w.os)(ht:w'.tape=w.tape)(ny:w'.output=w.output)
  (ek:fY g s.H.az.length w' b x) (dr:x.top<=s.H.az.length) (gH:x.top<=b+1\/x.top<=v.top\/x.top<=x0.top\/x.top<=max x0.top v.top)
  (pO:∀off,DK B b off->∃cs t sz xs,x=.cells cs t/\cs[off]?=some (.sl sz xs .lock)) (hl:∀p∈l,¬DK B p.1 p.2) :
  Rel B g { s with H:=(s.H.set b x).bQ b v,lk:=l } a w':=by
 subst hN;simp only[Hp.get,zg] at hb;have lO:b<s.H.az.length:=(c_.1 hb).1;have mW:((s.H.set b x).bQ b v).az=s.H.az.set b x:=by
  simp only[Hp.bQ,Hp.set];split<;>rfl
 have hlen:((s.H.set b x).bQ b v).az.length=s.H.az.length:=by rw[mW];simp
 have iJ:ir B.d (some b) none s.H.az.length g w g w' :=
  ⟨.refl _ _,λc _ hc _=>n_ c (λe=>hc b rfl e.symm),λ_ _ _=>rfl,λ_ _ _ _=>rfl,by omega,λ_ _ _=>rfl,λl hl=>(by cases hl),λb' cZ=>(by cases cZ;exact lO),λ_ _ _ _=>rfl,o8,ht,ny⟩
 refine h.j_ (s':={ s with H:=(s.H.set b x).bQ b v,lk:=l }) iJ (by rw[hlen];exact dI _) (λb' cZ cI=>?_) (λb' y HI hy=>?_) (λb' h1 h2=>?_) (λb1 b2 h1 h2=>?_) (λc o u hu=>?_) (λc l hc=>?_)
  (λb j e=>by cases e) rfl rfl (λt y hy=>⟨y,hy,.inl ⟨rfl,λe=>by cases e⟩⟩) (λb' y hy=>?_) (λb' off HJ=>?_) hl (λ_ e=>by cases e)
 ·rw[mW,rW (λe=>cI (by rw[e]))]
 ·have cZ:b'=b:=by
   rcases HI with HI|HI
   ·cases HI;rfl
   ·have:=(c_.1 hy).1;rw[hlen] at this;omega
  subst cZ;rw[mW,B7 lO] at hy;cases hy;rw[hlen];exact⟨ek,dr⟩
 ·rw[hlen] at h2;omega
 ·rw[hlen] at h2;omega
 ·have hc:c≠g.bP b:=by rintro rfl;rw[h.cY.apart b lO o] at hu;cases hu
  rw[yy (n_ c hc)];exact h.cY.mem c o u hu
 ·have:=h.cY.eV c l hc;omega
 ·rw[show({ s with H:=(s.H.set b x).bQ b v,lk:=l }:St).H.az=s.H.az.set b x from mW] at hy;have dJ:∀p∈s.H.bG,p∈((s.H.set b x).bQ b v).bG:=by
   intro p hp;simp only[Hp.bQ,Hp.set];split
   ·exact hp
   ·exact dR _ hp
  by_cases e:b'=b
  ·subst e;rw[B7 lO] at hy;cases hy;have GB:=h.bG b' x0 hb;have hv:v.top<=b'+1\/(b',v.top)∈((s.H.set b' x).bQ b' v).bG:=by
    simp only[Hp.bQ,Hp.set];split
    next h1=>exact .inl h1
    ·exact .inr (eH ..)
   have old:∀k,k<=x0.top->k<=b'+1\/(∃m,(b',m)∈((s.H.set b' x).bQ b' v).bG/\k<=m)\/∃y:aV,B.bs[b']?=some y/\k<=y.top:=by
    intro k hk;rcases GB with h1|⟨m,h1,h2⟩|⟨y,h1,h2⟩
    ·exact .inl (cP hk h1)
    ·exact .inr (.inl ⟨m,dJ _ h1,cP hk h2⟩)
    ·exact .inr (.inr ⟨y,h1,cP hk h2⟩)
   have new:∀k,k<=v.top->k<=b'+1\/(∃m,(b',m)∈((s.H.set b' x).bQ b' v).bG/\k<=m)\/∃y:aV,B.bs[b']?=some y/\k<=y.top:=by
    intro k hk;rcases hv with h1|h1
    ·exact .inl (cP hk h1)
    ·exact .inr (.inl ⟨_,h1,hk⟩)
   rcases gH with h1|h1|h1|h1
   ·exact .inl h1
   ·exact new _ h1
   ·exact old _ h1
   ·rcases Nat.le_total x0.top v.top with h2|h2
    ·rw[Nat.max_eq_right h2] at h1;exact new _ h1
    ·rw[Nat.max_eq_left h2] at h1;exact old _ h1
  ·rw[rW (λe'=>e e'.symm)] at hy;rcases h.bG b' y hy with h1|⟨m,h1,h2⟩|h1
   ·exact .inl h1
   ·exact .inr (.inl ⟨m,dJ _ h1,h2⟩)
   ·exact .inr (.inr h1)
 ·rw[show({ s with H:=(s.H.set b x).bQ b v,lk:=l }:St).H.az=s.H.az.set b x from mW]
  by_cases e:b'=b
  ·subst e;obtain⟨cs,t,sz,xs,h1,h2⟩:=pO off HJ;exact⟨cs,t,sz,xs,by rw[B7 lO,h1],h2⟩
  ·obtain⟨cs,t,sz,xs,h1,h2⟩:=h.lV b' off HJ;exact⟨cs,t,sz,xs,by rw[rW (λe'=>e e'.symm)];exact h1,h2⟩
theorem y0{vs cs:aD}{off:Nat}:aI (storeCells cs off vs)<=max (aI cs) (aI vs):=vB (DG _ _) (Ho _ _)
theorem zk6(h:Rel B g s a w){t:aB}{p x:aX}{b off n:Nat}{v:V}{cX:aD}{cs:aD}{ty:aB}(hp:ak s.env p=some (.ptr b off))(ht:take s.env x=some (v,cX))(hn:z4 P t=some n)
  (hb:s.H.get b=some (.cells cs ty)) (ek:dz v=true) (hl:v.laid.length=n) (hle:off+n<=cs.length) (oz:wv s.lk b off n (cs.drop off)=true) :
  ∃g' w',(Instr.storeAt t (a.eval p) (a.eval x)).run P w=.ok () w'/\Rel B g' { s with env:=cX,H:=(s.H.set b (.cells (storeCells cs off v.laid) ty)).bQ b v } a w':=by
 obtain⟨p1,p2,_⟩:=zJ h hp;generalize OS:a.eval p=cp at p1;cases p1;obtain⟨g',h1,v1,v2,v3,rN⟩:=vJ h ht (.cell b off);have cZ:({ s with env:=cX }:St).H.get b=some (.cells cs ty):=hb;obtain⟨arr,a1,a2,a3,a4⟩:=xg h1 cZ;obtain⟨l1,l2,l3⟩:=VF v1 ek v2 (yZ ht) v3;have nT:cs.length=arr.size:=by have:=a2.len;simpa using this
 have nB:(a.eval x).cells.size=n:=by rw[<- hl,l1.len];simp
 have nR:g'.bP b=g.bP b:=by rw[rN.bP]
 have lO:b<s.H.az.length:=by simp only[Hp.get,zg] at hb;exact(c_.1 hb).1
 have m6:arr.toList.take off++(a.eval x).cells.toList++arr.toList.drop (off+(a.eval x).cells.toList.length)=storeCells arr.toList off (a.eval x).cells.toList:=by
  have oA:arr.toList=arr.toList.take off++(arr.toList.drop off).take n++arr.toList.drop (off+n):=by
   rw[bh,<- List.drop_drop,BH,BH]
  have hlen:(arr.toList.take off).length=off:=by simp;omega
  have:=kQ (a.eval x).cells.toList ((arr.toList.drop off).take n) (arr.toList.take off) (arr.toList.drop (off+n)) (by simp;omega)
  rw[hlen,<- oA] at this;rw[this];simp[nB]
 have cq:(Instr.storeAt t (.pointer (some ⟨g.bP b,off,none⟩)) (a.eval x)).run P w=.ok () (w.setRow (g.bP b) (storeCells arr.toList off (a.eval x).cells.toList).toArray):=by
  have e_:=run_storeCells_at P (g.bP b) off ty (a.eval x).cells.toList 0 arr w (by rw[<- nR];exact a1) (by simp;omega) (λu hu=>by
   obtain⟨j,hj⟩:=List.getElem?_of_mem hu;have su:j<v.laid.length:=by rw[l1.len];exact(c_.1 hj).1
   have hx:=gh su
   exact(l1.rel j _ u hx hj).nJ (l1.one j _ hx))
  simp only[nP] at e_;rw[m6] at e_;unfold Instr.storeAt storeVar;simp[Instr.sureAddr,ju hn,nB,e_]
 refine⟨g',_,cq,?_⟩;have Ck:(w.setRow (g.bP b) (storeCells arr.toList off (a.eval x).cells.toList).toArray).heap[g'.bP b]?=some (.cells (storeCells arr.toList off (a.eval x).cells.toList).toArray ty (0,0)):=by
  rw[nR];exact setRow_heap w _ _ _ ty _ (by rw[<- nR];exact a1)
 have iJ:ir B.d (some b) none s.H.az.length g' w g' (w.setRow (g.bP b) (storeCells arr.toList off (a.eval x).cells.toList).toArray) :=
  ⟨.refl _ _,λc _ hc _=>setRow_other w _ c _ (λe=>hc b rfl (by rw[nR,e])),λ_ _ _=>rfl,λ_ _ _ _=>rfl,by simp[World.setRow],λ_ _ _=>rfl,λl hl=>(by cases hl),λb' cZ=>(by cases cZ;exact lO),λ_ _ _ _=>rfl,rfl,rfl,rfl⟩
 have key:=Rel.write (l:=s.lk) (v:=v) h1 (b:=b) (x0:=.cells cs ty) (x:=.cells (storeCells cs off v.laid) ty) (N:=g.bP b) nR.symm cZ (λc hc=>setRow_other w _ c _ hc) (by simp[World.setRow]) rfl rfl rfl
  ⟨_,Ck,by simp[kB,nT],λj y u hy hu=>?_⟩ (vB a3 l2) (.inr (.inr (.inr (cP y0 (tu.2 ⟨DG _ _,?_⟩))))) (λo iA=>?_) h.n8
 ·exact key
 ·have e_:=a2.store off l1;have hr:=e_.rel j y u hy (by simpa using hu)
  refine⟨e_.one j y hy,hr,?_,?_⟩
  ·rw[qE _ _ _ _ (by omega)] at hy
   have nh:(storeCells arr.toList off (a.eval x).cells.toList)[j]?=some u:=by simpa using hu
   rw[qE _ _ _ _ (by rw[An,An,nB,<- nT];exact hle)] at nh
   by_cases hj:off<=j/\j<off+v.laid.length
   ·rw[if_pos hj] at hy;rw[if_pos (by simp[nB];omega)] at nh
    have:=(l3 (j - off) y u hy (by simpa using nh)).1
    rw[show off+(j - off)=j by omega] at this
    exact cM.same iJ (λe=>by cases e) (λb1 h2 h3=>absurd (show b1<s.H.az.length from h3) (Nat.not_lt.2 h2)) this
   ·rw[if_neg hj] at hy;rw[if_neg (by simp[nB];omega)] at nh
    exact cM.same iJ (λe=>by cases e) (λb1 h2 h3=>absurd (show b1<s.H.az.length from h3) (Nat.not_lt.2 h2)) (a4 j y u hy (by simpa using nh)).1
  ·rw[qE _ _ _ _ (by omega)] at hy
   have nh:(storeCells arr.toList off (a.eval x).cells.toList)[j]?=some u:=by simpa using hu
   rw[qE _ _ _ _ (by rw[An,An,nB,<- nT];exact hle)] at nh
   by_cases hj:off<=j/\j<off+v.laid.length
   ·rw[if_pos hj] at hy;rw[if_pos (by simp[nB];omega)] at nh
    have:=(l3 (j - off) y u hy (by simpa using nh)).2
    cases y with
    | sl sz xs o=>cases o with
     | lock=>exact absurd rfl (this sz xs)
     | _=>trivial
    | _=>trivial
   ·rw[if_neg hj] at hy;rw[if_neg (by simp[nB];omega)] at nh
    exact(a4 j y u hy (by simpa using nh)).2
 ·have:aI v.laid<=v.top:=by
   rcases zi1 ek with⟨cs',rfl,e⟩|⟨_,e,_⟩
   ·rw[e,eO];exact dI _
   ·rw[e];simp[aI]
  exact cP this (Ho _ _)
 ·obtain⟨VH,t2,sz,xs,c1,c2⟩:=h.lV b o iA;have nA:s.H.az[b]?=some (.cells cs ty):=by simpa[Hp.get,zg] using hb
  rw[nA] at c1;cases c1;refine⟨_,_,sz,xs,rfl,?_⟩;rw[qE _ _ _ _ (by omega)]
  by_cases hj:off<=o/\o<off+v.laid.length
  ·have:=VG oz (o - off) (.sl sz xs .lock) (by omega) (by rw[Hl,show off+(o - off)=o by omega];exact c2) rfl
   rw[show off+(o - off)=o by omega] at this
   exact absurd iA (h.n8 _ this)
  ·rw[if_neg hj];exact c2
end
end Go.Vm
