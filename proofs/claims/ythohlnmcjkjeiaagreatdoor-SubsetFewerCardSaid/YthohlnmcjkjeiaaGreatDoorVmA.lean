/- The abstract machine Vm: Go data by value, a small heap for variables and maps, an interpreter over the model's own Code. Conditions: none but those named. -/
import GoSem.Step
import Derived.Calls
import Derived.Laws.AppendOwn
import Derived.Laws.OwnMore
import Derived.Laws.MakeOwn
import Derived.Laws.NewBlocks
import Derived.Laws.Rows
import Derived.Deep.Draws
import Derived.Tactics
import Derived.Laws.Cells
import Derived.Laws.Entries
import Derived.Laws.CopyRow
import Derived.Laws.StructEq
import Derived.Laws.Cover3
import Derived.WalkKit
import Derived.Laws.BytesString
import Derived.Laws.RangeString
import Derived.Laws.IdiomStrings
namespace Go
theorem aU:∀{α:Type _}{as bs:List α},List.length (as++bs)=List.length as+List.length bs:=@List.length_append
theorem aT:∀{α:Type _}{β:Type _}(a:α)(f:α->Option β),Option.bind (some a) f=f a:=@Option.bind_some
theorem a_:∀{α:Type _}(as bs cs:List α),as++bs++cs=as++(bs++cs):=@List.append_assoc
theorem aS:∀{α:Type _}{β:Type _}(a:α)(f:α->β),Option.map f (some a)=some (f a):=@Option.map_some
theorem aX:∀{α:Type _}{a:α}{as:List α},List.length (a::as)=List.length as+1:=@List.length_cons
theorem bh:∀{α:Type _}{a:α}{as bs:List α},a::as++bs=a::(as++bs):=@List.cons_append
theorem bq:∀{α:Type _}(val A6:α),(some val=some A6)=(val=A6):=@Option.some.injEq
theorem aZ:∀{α:Type _}(as:List α),[]++as=as:=@List.nil_append
theorem bg:∀{α:Type _}{β:Type _}{f:α->β}{a:α}{l:List α},List.map f (a::l)=f a::List.map f l:=@List.map_cons
theorem bp:∀{α:Type _}{β:Type _}{f:α->β},List.map f []=[]:=@List.map_nil
theorem bD:∀{α:Type _}{as:List α}{i:Nat}{a:α},List.length (List.set as i a)=List.length as:=@List.length_set
theorem bS:∀{α:Type _}{x:α}{xs:List α}{a:α},List.set (x::xs) 0 a=a::xs:=@List.set_cons_zero
theorem bT:∀{α:Type _}{x:α}{xs:List α}{i:Nat}{a:α},List.set (x::xs) (i+1) a=x::List.set xs i a:=@List.set_cons_succ
theorem cZ:∀{α:Type _}{i:Nat}{a:α}{l:List α},l[i]?=some a↔∃h,l[i]=a:=@List.getElem?_eq_some_iff
theorem cq:∀{α:Type _}{β:Type _}(fst:α)(snd:β)(JG:α)(JH:β),((fst,snd)=(JG,JH))=(fst=JG/\snd=JH):=@Prod.mk.injEq
theorem dU:∀{α:Type _}(y:α){a:α}{l:List α},a∈l->a∈y::l:=@List.mem_cons_of_mem
theorem eF:∀{α:Type _}{b:α}{E8:Type _}{x:Option E8}{f:E8->Option α},Option.bind x f=some b↔∃a,x=some a/\f a=some b:=@Option.bind_eq_some_iff
theorem fI:∀{α:Type _}{l₁ l₂:List α}{i:Nat},List.length l₁<=i->(l₁++l₂)[i]?=l₂[i - List.length l₁]?:=@List.getElem?_append_right
theorem eG:∀{n m:Nat},Nat.beq n m=true->n=m:=@Nat.eq_of_beq_eq_true
theorem cN:∀{n m k:Nat},n<=m->m<=k->n<=k:=@Nat.le_trans
theorem gb:∀{α:Type _}{l₁ l₂:List α}{i:Nat},i<List.length l₁->(l₁++l₂)[i]?=l₁[i]?:=@List.getElem?_append_left
theorem d_:∀(a b:Bool),((a&&b)=true)=(a=true/\b=true):=@Bool.and_eq_true
theorem eK:∀{α:Type _}{a:α}{l:List α},a∈a::l:=@List.mem_cons_self
theorem gj:∀{α:Type _}{l:List α}{i:Nat}(h:i<List.length l),l[i]?=some l[i]:=@List.getElem?_eq_getElem
theorem dG:∀{α:Type _}{b:α}{l:List α}{a:α},a∈b::l↔a=b\/a∈l:=@List.mem_cons
theorem dA:∀(n:Nat),n<=n:=@Nat.le_refl
theorem fR:(false=true)=False:=@Bool.false_eq_true
theorem fS:∀{α:Type _}{a b:α},Option.getD (some a) b=a:=@Option.getD_some
theorem ec:∀(n:Nat),0<=n:=@Nat.zero_le
theorem eM:∀(n m:Nat),n<m\/n ≥ m:=@Nat.lt_or_ge
theorem gk:∀{α:Type _}{β:Type _}{as:List α}(f:α->β),List.length (List.map f as)=List.length as:=@List.length_map
theorem mQ:∀{α:Type _}{b:α}{E8:Type _}{x:Option E8}{f:E8->α},Option.map f x=some b↔∃a,x=some a/\f a=b:=@Option.map_eq_some_iff
theorem iX:∀{α:Type _}{β:Type _}{f:α->β}{l:List α}{i:Nat},(List.map f l)[i]?=Option.map f l[i]?:=@List.getElem?_map
theorem nB:∀{α:Type _}{l:List α}{i:Nat}{a:α},l[i]?=some a->a∈l:=@List.mem_of_getElem?
theorem mu:∀{α:Type _}{l:List α},List.drop 0 l=l:=@List.drop_zero
theorem tK:∀{α:Type _}{i:Nat}{b:α}{xs:Array α},xs[i]?=some b↔∃h,xs[i]=b:=@Array.getElem?_eq_some_iff
theorem m7:∀{α:Type _}(as:List α),as++[]=as:=@List.append_nil
theorem oG:∀{α:Type _}{a b:α},a∈[b]↔a=b:=@List.mem_singleton
theorem lK:∀(a:Nat),Nat.beq a a=true:=@Nat.beq_refl
theorem r9:∀{α:Type _}{i:Nat}{l:List α},List.length l<=i->List.take i l=l:=@List.take_of_length_le
theorem mo:(!true)=false:=@Bool.not_true
theorem r_:∀{n m:Nat},Nat.ble n m=true->n<=m:=@Nat.le_of_ble_eq_true
theorem mg:∀{α:Type _}{β:Type _}{b:β}{f:α->β}{l:List α},b∈List.map f l↔∃a,a∈l/\f a=b:=@List.mem_map
theorem su:∀{α:Type _}{l:List α}{i j:Nat},i ≠ j->∀{a:α},(List.set l i a)[j]?=l[j]?:=@List.getElem?_set_ne
theorem oI:(!false)=true:=@Bool.not_false
theorem uI:∀{α:Type _}{l:List α}{i:Nat},List.length l<=i->l[i]?=none:=@List.getElem?_eq_none
theorem p7:∀(a b:Bool),((a||b)=true)=(a=true\/b=true):=@Bool.or_eq_true
theorem Aa:∀{α:Type _}{s t:List α}(i:Nat)(x:α),List.length s<=i->List.set (s++t) i x=s++List.set t (i - List.length s) x:=@List.set_append_right
theorem nY:∀(n:Nat),0+n=n:=@Nat.zero_add
theorem nZ:∀(n:Nat),n+0=n:=@Nat.add_zero
theorem uJ:∀{α:Type _}{a:α}{l:List α}{i:Nat},List.drop (i+1) (a::l)=List.drop i l:=@List.drop_succ_cons
theorem uc:∀{n m k:Nat},n<m->m<=k->n<k:=@Nat.lt_of_lt_of_le
theorem tL:∀{α:Type _}{l:List α}{i j:Nat}{a:α},(List.set l i a)[j]?=if i=j then if i<List.length l then some a else none else l[j]?:=@List.getElem?_set
theorem lM:∀(p:Prop),(True/\p)=p:=@true_and
theorem p8:∀(n m k:Nat),n+m+k=n+(m+k):=@Nat.add_assoc
theorem Ab:∀{α:Type _}{a:α}{as:List α}{i:Nat},List.take (i+1) (a::as)=a::List.take i as:=@List.take_succ_cons
theorem sw:∀{α:Type _}{a:α}{s t:List α},a∈s++t↔a∈s\/a∈t:=@List.mem_append
theorem mS:∀{α:Sort _}(a b:α),(bif true then a else b)=a:=@cond_true
theorem AJ:∀{α:Type _}{xs:Array α},List.length (Array.toList xs)=Array.size xs:=@Array.length_toList
theorem uK:(¬False)=True:=@not_false_eq_true
theorem A7:∀{α:Type _}{a:α}{as:List α}(bs:List α),a∈as->a∈as++bs:=@List.mem_append_left
theorem Cn:∀{α:Type _}{l:List α}{i:Nat}{a:α},i<List.length l->(List.set l i a)[i]?=some a:=@List.getElem?_set_self
theorem AK:∀{α:Type _}{l:List α}{i j:Nat},(List.take i l)[j]?=if j<i then l[j]? else none:=@List.getElem?_take
theorem Ac:∀(n:Nat),Int.toNat ↑n=n:=@Int.toNat_natCast
theorem uL:∀{α:Type _}{i:Nat}{l:List α},List.length (List.take i l)=min i (List.length l):=@List.length_take
theorem Co:∀{α:Type _}(i:Nat)(l:List α),List.take i l++List.drop i l=l:=@List.take_append_drop
theorem oJ:∀{α:Sort _}(a b:α),(bif false then a else b)=b:=@cond_false
theorem EH:∀{α:Type _}{xs:Array α}{i:Nat}(h:i<Array.size xs),xs[i]?=some xs[i]:=@Array.getElem?_eq_getElem
theorem Cp:∀{α:Type _}{a:α}{i:Nat}{l:List α},a∈List.drop i l->a∈l:=@List.mem_of_mem_drop
theorem Cq:∀{α:Type _}{i:Nat}{a:α}{l:List α},a∈List.take i l->a∈l:=@List.mem_of_mem_take
theorem Dc:∀{α:Type _}{b:α}(as:List α){bs:List α},b∈bs->b∈as++bs:=@List.mem_append_right
theorem ud:∀(x y i:Nat),Nat.testBit (x||| y) i=(Nat.testBit x i||Nat.testBit y i):=@Nat.testBit_or
theorem tP:∀(b:Bool),(true&&b)=b:=@Bool.true_and
theorem A8:∀{α:Type _}{a:α},¬a∈[]:=@List.not_mem_nil
theorem HO:∀{α:Type _}{l:List α},List.length l=0->l=[]:=@List.eq_nil_of_length_eq_zero
theorem uM:∀(b:Bool),(false||b)=b:=@Bool.false_or
theorem AL:∀{α:Type _}{l:List α},List.take 0 l=[]:=@List.take_zero
theorem GO:∀{α:Type _}{i:Nat}{l:List α}(h:i<List.length l),List.drop i l=l[i]::List.drop (i+1) l:=@List.drop_eq_getElem_cons
theorem Cs:∀{α:Type _}{p:α->Bool}{l:List α},List.all l p=true↔∀(x:α),x∈l->p x=true:=@List.all_eq_true
theorem Dd:∀(b:Bool),((!b)=true)=(b=false):=@Bool.not_eq_true'
theorem ue:∀(n m k:Nat),(n+m) * k=n * k+m * k:=@Nat.add_mul
theorem E9:∀{α:Type _}{xs:Array α}{i:Nat},(Array.toList xs)[i]?=xs[i]?:=@Array.getElem?_toList
theorem Ct:∀{α:Type _}{val A6:α},some val=some A6->val=A6:=@Option.some.inj
theorem BX:∀{m n:Nat},m∈List.range n↔m<n:=@List.mem_range
theorem DZ:∀{α:Type _}{β:Type _}{x:α}{xs:List α}{f:α->List β},List.flatMap f (x::xs)=f x++List.flatMap f xs:=@List.flatMap_cons
theorem uf:∀{a b c:Nat},max a b<=c↔a<=c/\b<=c:=@Nat.max_le
theorem E_:∀{n m:Nat},Nat.testBit (2 ^ n) m=decide (n=m):=@Nat.testBit_two_pow
theorem D1:∀{α:Type _}{l:List α},List.take (List.length l) l=l:=@List.take_length
theorem GP:∀{α:Type _}{s t:List α}(i:Nat)(x:α),i<List.length s->List.set (s++t) i x=List.set s i x++t:=@List.set_append_left
theorem D2:∀(a b:Nat),a<=max a b:=@Nat.le_max_left
theorem D3:∀{α:Type _}{p:α->Bool}{as:List α}{x:α},x∈List.filter p as↔x∈as/\p x=true:=@List.mem_filter
theorem GQ:∀{i n:Nat},i<n->(List.range n)[i]?=some i:=@List.getElem?_range
theorem Fa:∀{α:Type _}{l₁ l₂:List α},(∀(i:Nat),l₁[i]?=l₂[i]?)->l₁=l₂:=@List.ext_getElem?
theorem K1:∀{α:Type _}{l:List α}{i:Nat}{a:α},List.getD l i a=Option.getD l[i]? a:=@List.getD_eq_getElem?_getD
theorem EI:∀{a b:Bool},a=b↔(a=true↔b=true):=@Bool.eq_iff_iff
theorem Cu:∀(n:Nat),n - n=0:=@Nat.sub_self
theorem HP:∀{a m n:Nat},1<a->m<n->a ^ m<a ^ n:=@Nat.pow_lt_pow_right
theorem Fb:∀{a b:Nat},a<b->a % b=a:=@Nat.mod_eq_of_lt
theorem Fc:∀{α:Type _}{p:α->Bool}{l:List α},List.any l p=true↔∃x,x∈l/\p x=true:=@List.any_eq_true
theorem HQ:∀{α:Type _}{β:Type _}{l:List α}{a:α}{f:α->β},a∈l->f a∈List.map f l:=@List.mem_map_of_mem
theorem HR:∀{α:Type _}{a:α}{n:Nat},List.replicate (n+1) a=a::List.replicate n a:=@List.replicate_succ
theorem HS:∀{α:Type _}{β:Type _}{f:α->β}{l:List α},List.map f l=[]↔l=[]:=@List.map_eq_nil_iff
theorem JI:∀{α:Type _}{a:α},List.length [a]=1:=@List.length_singleton
theorem HT:∀{α:Type _}{xs:List α}{i j:Nat},(List.drop i xs)[j]?=xs[i+j]?:=@List.getElem?_drop
theorem HU:∀(n:Nat),n=0\/n > 0:=@Nat.eq_zero_or_pos
theorem K2:∀{α:Type _}{a:α}{l:List α},(a::l)[0]?=some a:=@List.getElem?_cons_zero
theorem JJ:∀{x y:Bool},(x||y)=false↔x=false/\y=false:=@Bool.or_eq_false_iff
theorem GR:∀(b:Bool),(¬b=true)=(b=false):=@Bool.not_eq_true
theorem JK:∀{x y:Nat},(∀(i:Nat),Nat.testBit x i=Nat.testBit y i)->x=y:=@Nat.eq_of_testBit_eq
theorem Fe:∀(b:Bool),(false&&b)=false:=@Bool.false_and
theorem K3:∀{n m:Nat},n<=m->Nat.ble n m=true:=@Nat.ble_eq_true_of_le
theorem HV:∀(a b:Nat),b<=max a b:=@Nat.le_max_right
theorem HW:∀(n:Nat),n<Nat.succ n:=@Nat.lt_succ_self
theorem AM:∀(p:Prop),(p\/False)=p:=@or_false
theorem K5:∀{n m:Nat}(k:Nat),n<=m->n * k<=m * k:=@Nat.mul_le_mul_right
theorem NM:∀(n m:Nat),n+m - n=m:=@Nat.add_sub_cancel_left
theorem NN:∀{α:Type _}{l:List α},List.length l=0↔l=[]:=@List.length_eq_zero_iff
theorem JL:∀{x y n:Nat},x<2 ^ n->y<2 ^ n->x||| y<2 ^ n:=@Nat.or_lt_two_pow
theorem K6:∀{α:Type _}{l:List α},0<List.length l↔l ≠ []:=@List.length_pos_iff
theorem NO:∀{x i:Nat},x<2 ^ i->Nat.testBit x i=false:=@Nat.testBit_lt_two_pow
theorem BY:∀(p:Prop),(p/\True)=p:=@and_true
theorem K7:∀{n m k:Nat},n<=m->m<k->n<k:=@Nat.lt_of_le_of_lt
theorem K8:∀{n m:Nat},n<=m->n<=Nat.succ m:=@Nat.le_succ_of_le
theorem HX:∀(n m:Nat),Nat.succ n * m=n * m+m:=@Nat.succ_mul
theorem JM:∀(n m:Nat),n+m=m+n:=@Nat.add_comm
theorem Pd:(true=false)=False:=@Bool.true_eq_false
theorem JN:∀(n:Nat),n * 1=n:=@Nat.mul_one
end Go
namespace Go.Vm
open Go
section
theorem aF{α:Sort _}{h:Decidable True}(t e:α):@ite α True h t e=t:=if_true ..
theorem bw{α:Sort _}{h:Decidable False}(t e:α):@ite α False h t e=e:=if_false ..
inductive uN where
 |no|yes (e:TypeId)|lock
 deriving DecidableEq,Inhabited
inductive V where
 |bool (b:Bool)
 |int (k:IntKind) (n:Int)
 |str (s:List Nat)
 |fT|ptr (b off:Nat)|eT (g off:Nat)|obj (k:Nat)|vp (cs:List V)
 |aG|sl (sz:Nat) (xs:List V) (o:uN)|sr (b off len cap:Nat)
 |mw|map (b:Nat)
 |pH|fn (f:Fn) (first cap:List V)
 |bN|dF (t:TypeId) (v:V)
 |dB (b u len:Nat)|gh (b u k:Nat)
 |agg (cs:List V)
 |br (vs:List V)
 |dW
 deriving Inhabited
abbrev aO:=List (Nat×Nat)
abbrev bP:=List (V×List V)
abbrev pI:=Option (Nat×Bool)
abbrev dw:=List Value
abbrev dM:=Array Value
abbrev sg:=Array Operand
abbrev cg:=List Tmp
abbrev fJ:=Option Tmp
abbrev aD:=List V
abbrev b_:=Option V
abbrev bM:=List Nat
abbrev aB:=TypeId
abbrev aQ:=Program
abbrev aP:=World
abbrev bt:=Value
abbrev aW:=Operand
def dz:V->Bool
 | .br _|.dW=>false
 | _=>true
def V.cells:V->aD
 | .agg cs=>cs
 | v=>[v]
def aV:V->V
 | .sl sz xs _=>.sl sz xs .no
 | v=>v
def V.laid:V->aD
 | .agg cs=>cs.map aV
 | v=>[v]
mutual
def V.top:V->Nat
 | .ptr b _|.sr b _ _ _|.map b=>b+1
 | .dB b _ _|.gh b _ _=>b+1
 | .vp cs|.sl _ cs _|.agg cs|.br cs=>aI cs
 | .fn _ a c=>max (aI a) (aI c)
 | .dF _ v=>v.top
 | _=>0
def aI:aD->Nat
 | []=>0
 | v::vs=>max v.top (aI vs)
end
def nth{α:Type}:List α->Nat->Option α
 | [],_=>none
 | x::_,0=>some x
 | _::xs,n+1=>nth xs n
def wN{β:Type}(n:Nat)(k:Nat->β):β :=
 match n with
 | 0=>k 0
 | m+1=>k (m+1)
def VQ{β:Type}(n:Int)(k:Int->β):β :=
 match n with
 | .ofNat m=>wN m λm=>k (.ofNat m)
 | .negSucc m=>wN m λm=>k (.negSucc m)
def Te{β:Type}:bM->(bM->β)->β
 | [],k=>k []
 | x::xs,k=>wN x λx=>Te xs λys=>k (x::ys)
def fL{α β:Type}:List α->(List α->β)->β
 | [],k=>k []
 | x::xs,k=>fL xs λys=>k (x::ys)
def fC{β:Type}(v:V)(k:V->β):β :=
 match v with
 | .bool true=>k (.bool true)
 | .bool false=>k (.bool false)
 | .int kd n=>VQ n λn=>k (.int kd n)
 | .str s=>Te s λs=>k (.str s)
 | .ptr b o=>wN b λb=>wN o λo=>k (.ptr b o)
 | .sr b o n c=>wN b λb=>wN o λo=>wN n λn=>wN c λc=>k (.sr b o n c)
 | .map b=>wN b λb=>k (.map b)
 | .dB b u n=>wN b λb=>wN u λu=>wN n λn=>k (.dB b u n)
 | .gh b u j=>wN b λb=>wN u λu=>wN j λj=>k (.gh b u j)
 | .sl sz xs o=>fL xs λxs=>k (.sl sz xs o)
 | .vp cs=>fL cs λcs=>k (.vp cs)
 | v=>k v
def A9{β:Type}:aD->(aD->β)->β
 | [],k=>k []
 | x::xs,k=>fC x λx=>A9 xs λys=>k (x::ys)
def fV{β:Type}(v:V)(k:V->β):β :=
 match v with
 | .agg cs=>A9 cs λcs=>k (.agg cs)
 | .br cs=>A9 cs λcs=>k (.br cs)
 | .fn f a c=>A9 a λa=>A9 c λc=>k (.fn f a c)
 | v=>fC v k
def JO{α β:Type}:List α->Nat->α->(List α->β)->β
 | [],_,_,k=>k []
 | _::xs,0,v,k=>k (v::xs)
 | x::xs,n+1,v,k=>JO xs n v λys=>k (x::ys)
inductive aY where
 |cells (cs:aD) (t:aB)
 |map (es:List (V×V))
 |iter (s:bM) (pos:Nat)
 |ul (eI sz:Nat) (cs:aD) (e:aB)
 deriving Inhabited
structure Hp where
 az:List aY
 bG:aO
 deriving Inhabited
def Hp.push(H:Hp)(b:aY):Hp:={ H with az:=H.az++[b] }
def Hp.get(H:Hp)(b:Nat):Option aY:=nth H.az b
def Hp.set(H:Hp)(b:Nat)(x:aY):Hp:={ H with az:=H.az.set b x }
def Hp.bQ(H:Hp)(b:Nat)(v:V):Hp:=if v.top<=b+1 then H else { H with bG:=(b,v.top)::H.bG }
inductive Out where
 |ret (v:V)
 |p9 (v:V)
inductive Ex where
 |normal|exit (id:Nat)|goto (l:Nat)|ret|p9 (v:V)
inductive OR where
 |val (v:V)
 |skip
 |p9 (v:V)
def Cv:V->Bool
 | .agg _|.br _|.dW=>false
 | _=>true
mutual
def aj:bt->b_
 | .bool b=>some (.bool b)
 | .int k n=>some (.int k n)
 | .string s=>some (.str (s.data.toList.map UInt8.toNat))
 | .pointer none=>some .fT
 | .slice none 0 0=>some .aG
 | .map none=>some .mw
 | .nilFunc=>some .pH
 | .func f ⟨[]⟩ ⟨[]⟩=>some (.fn f [] [])
 | .nilIface=>some .bN
 | .agg ⟨cs⟩=>(nC cs).bind λl=>if l.all Cv then some (.agg l) else none
 | .tuple ⟨[]⟩=>some (.br [])
 | _=>none
def nC:dw->Option aD
 | []=>some []
 | v::vs=>match aj v,nC vs with
  | some x,some xs=>some (x::xs)
  | _,_=>none
end
section
variable(P:aQ)
def z4(t:aB):Option Nat:=(P.info? t).map (·.size)
def qz(t:aB):Option Bool:=(P.underlying t).map λ|.struct _|.array _ _=>true|_=>false
def qP(t:aB):b_:=(P.info? t).bind λi=>i.zero.bind aj
def wg(t:aB)(cs:aD)(off:Nat):b_:=do
 if <- qz P t then
  let n <- z4 P t
  if off+n<=cs.length then some (.agg ((cs.drop off).take n)) else none
 else nth cs off
def xV(isAgg:Bool)(sz:Nat):Nat->aD->aD
 | 0,_=>[]
 | n+1,cs=>(if isAgg then .agg (cs.take sz) else cs.headD .dW)::xV isAgg sz n (cs.drop sz)
def wA(H:Hp)(elem:aB):V->Option aD
 | .aG=>some []
 | .sl sz xs _=>do
  let n <- z4 P elem
  if n=sz then some xs else none
 | .sr b off len _=>do
  let .cells cs _ <- H.get b|none
  let n <- z4 P elem
  let ag <- qz P elem
  if Nat.ble (off+len * n) cs.length && (ag || Nat.beq n 1) then some (xV ag n len ((cs.drop off).map aV)) else none
 | _=>none
def nD:aD->Option bM
 | []=>some []
 | .int .u8 n::r=>(nD r).map ((n.toNat % 256)::·)
 | _=>none
def n6:bM->bM->Bool
 | [],[]=>true
 | a::x,b::y=>Nat.beq a b && n6 x y
 | _,_=>false
def K9:bM->bM->Bool
 | _,[]=>false
 | [],_::_=>true
 | a::x,b::y=>Nat.blt a b || (Nat.beq a b && K9 x y)
def Pe(eq:aB->V->V->Option Bool):List Field->aD->aD->Option Bool
 | [],_,_=>some true
 | f::fs,xs,ys =>
  if f.name= "_" then none else do
   let a <- wg P f.type xs f.offset
   let b <- wg P f.type ys f.offset
   if <- eq f.type a b then Pe eq fs xs ys else some false
def NP(eq:aB->V->V->Option Bool)(e:aB)(n:Nat)(xs ys:aD):Nat->Nat->Option Bool
 | _,0=>some true
 | i,k+1=>do
  let a <- wg P e xs (i * n)
  let b <- wg P e ys (i * n)
  if <- eq e a b then NP eq e n xs ys (i+1) k else some false
def K_(ds:TypeDesc)(x y:V):Option Bool :=
 match ds with
 | .bool=>match x,y with
  | .bool a,.bool b=>some (a == b)
  | _,_=>none
 | .int _=>match x,y with
  | .int k a,.int k' b=>if k=k' then some (a == b) else none
  | _,_=>none
 | .string=>match x,y with
  | .str a,.str b=>some (n6 a b)
  | _,_=>none
 | .pointer _=>match x,y with
  | .fT,.fT=>some true
  | .fT,.ptr _ _=>some false
  | .ptr _ _,.fT=>some false
  | .fT,.obj _=>some false
  | .obj _,.fT=>some false
  | _,_=>none
 | .interface _=>match x,y with
  | .bN,.bN=>some true
  | .bN,.dF _ _=>some false
  | .dF _ _,.bN=>some false
  | .dF tx _,.dF ty _=>if tx=ty then none else some false
  | _,_=>none
 | .slice _=>match x,y with
  | .aG,.aG=>some true
  | .aG,.sl _ (_::_) _=>some false
  | .sl _ (_::_) _,.aG=>some false
  | .aG,.sr _ _ _ _=>some false
  | .sr _ _ _ _,.aG=>some false
  | _,_=>none
 | .map _ _=>match x,y with
  | .mw,.mw=>some true
  | .mw,.map _=>some false
  | .map _,.mw=>some false
  | _,_=>none
 | .func _ _ _=>match x,y with
  | .pH,.pH=>some true
  | .pH,.fn _ _ _=>some false
  | .fn _ _ _,.pH=>some false
  | _,_=>none
 | _=>none
def A_:Nat->aB->V->V->Option Bool
 | 0,_,_,_=>none
 | d+1,t,x,y=>match P.underlying t with
  | none=>none
  | some ds=>match x,y with
   | .agg xs,.agg ys=>match ds with
    | .struct fs=>if P.stoodInHeld t then none else Pe P (A_ d) fs.toList xs ys
    | .array len e=>match z4 P e with
     | some n=>NP P (A_ d) e n xs ys 0 len
     | none=>none
    | _=>none
   | x,y=>K_ ds x y
def isConst:aW->Bool
 | .const _=>true
 | _=>false
def v4(t:aB)(x y:aW)(u v:V):Bool :=
 match u,v with
 | .bN,.bN=>isConst x || isConst y
 | .agg _,.agg _=>!P.eqGuardType P.depth t
 | .dW,_=>false
 | _,.dW=>false
 | _,_=>true
def ju(op:BinOp)(t:aB)(x y:aW)(u v:V):Bool :=
 match op with
 | .eql=>v4 P t x y u v
 | .neq=>v4 P t x y u v
 | _=>true
def La(op:BinOp)(k:IntKind)(x y:Int):b_ :=
 if y<0 then none else
 let n:=min y.toNat k.bits
 match op with
 | .shl=>some (.int k (k.wrap (x * 2 ^ n)))
 | .shr=>some (.int k (x.fdiv (2 ^ n)))
 | _=>none
def jY(op:BinOp)(k:IntKind)(x y:Int):b_ :=
 match op with
 | .add=>some (.int k (k.wrap (x+y)))
 | .sub=>some (.int k (k.wrap (x - y)))
 | .mul=>some (.int k (k.wrap (x * y)))
 | .quo=>if y=0 then none else some (.int k (k.wrap (x.tdiv y)))
 | .rem=>if y=0 then none else some (.int k (x.tmod y))
 | .and=>some (.int k (k.wrap ((BitVec.ofInt k.bits x &&& BitVec.ofInt k.bits y).toNat)))
 | .or=>some (.int k (k.wrap ((BitVec.ofInt k.bits x ||| BitVec.ofInt k.bits y).toNat)))
 | .xor=>some (.int k (k.wrap ((BitVec.ofInt k.bits x ^^^ BitVec.ofInt k.bits y).toNat)))
 | .andNot=>some (.int k (k.wrap ((BitVec.ofInt k.bits x &&& ~~~ (BitVec.ofInt k.bits y)).toNat)))
 | .eql=>some (.bool (x == y))
 | .neq=>some (.bool (x != y))
 | .lss=>some (.bool (x<y))
 | .leq=>some (.bool (x<=y))
 | .gtr=>some (.bool (x > y))
 | .geq=>some (.bool (x ≥ y))
 | _=>none
def Pf(op:BinOp)(x y:bM):b_ :=
 match op with
 | .add=>if x.length+y.length<=140737488355328 then some (.str (x++y)) else none
 | .eql=>some (.bool (n6 x y))
 | .neq=>some (.bool !(n6 x y))
 | .lss=>some (.bool (K9 x y))
 | .leq=>some (.bool (K9 x y || n6 x y))
 | .gtr=>some (.bool !(K9 x y || n6 x y))
 | .geq=>some (.bool !(K9 x y))
 | _=>none
def w9(op:BinOp)(t:aB)(x y:V):b_ :=
 match op,x,y with
 | .shl,.int k a,.int _ b|.shr,.int k a,.int _ b=>La op k a b
 | _,.int k a,.int k' b=>if k=k' then jY op k a b else none
 | _,.str a,.str b=>Pf op a b
 | .eql,x,y=>(A_ P 100 t x y).map .bool
 | .neq,x,y=>(A_ P 100 t x y).map λb=>.bool !b
 | _,_,_=>none
def iH(op:UnOp)(x:V):b_ :=
 match op,x with
 | .neg,.int k n=>some (.int k (k.wrap (0 - n)))
 | .xor,.int k n=>jY .xor k (if k.signed then -1 else k.max) n
 | .not,.bool b=>some (.bool !b)
 | _,_=>none
def vy(src dst:aB)(x:V):b_:=do
 match <- P.underlying src,<- P.underlying dst,x with
 | _,.int k,.int _ n=>some (.int k (k.wrap n))
 | _,.string,.int _ n=>some (.str ((Utf8.encode n).data.toList.map UInt8.toNat))
 | _,.string,.str s=>some (.str s)
 | .slice e,.string,.aG=>do
  let .int .u8 <- P.underlying e|none
  some (.str [])
 | .slice e,.string,.sl 1 xs _=>do
  let .int .u8 <- P.underlying e|none
  (nD xs).map .str
 | .string,.slice e,.str s=>do
  let .int .u8 <- P.underlying e|none
  some (.sl 1 (s.map λ(b:Nat)=>.int .u8 b) .no)
 | _,_,_=>none
def j8(v:b_)(d:Nat):Option Nat :=
 match v with
 | none=>some d
 | some (.int _ n)=>if 0<=n then some n.toNat else none
 | _=>none
def yX(t:aB)(x:V)(lo hi:b_):b_:=do
 match <- P.underlying t,x with
 | .string,.str s=>do
  let h <- j8 hi s.length
  let l <- j8 lo 0
  if l<=h/\h<=s.length then some (.str ((s.take h).drop l)) else none
 | .slice e,.sl sz xs _=>do
  let h <- j8 hi xs.length
  let l <- j8 lo 0
  let n <- z4 P e
  if l<=h/\h<=xs.length/\n=sz then some (.sl sz ((xs.take h).drop l) .no) else none
 | .slice e,.aG=>do
  let h <- j8 hi 0
  let l <- j8 lo 0
  let _ <- z4 P e
  if l=0/\h=0 then some .aG else none
 | .slice e,.sr b off len cap=>do
  let h <- j8 hi len
  let l <- j8 lo 0
  let n <- z4 P e
  if l<=h/\h<=cap/\l<cap then some (.sr b (off+l * n) (h - l) (cap - l)) else
  if l=h/\h<=cap then some (.sl n [] .no) else none
 | _,_=>none
def zk(H:Hp)(gl:Nat->Nat->b_)(t:aB)(a:V):b_:=do
 match a with
 | .ptr b off=>do
  let .cells cs _ <- H.get b|none
  wg P t cs off
 | .vp cs=>wg P t cs 0
 | .gh b u k=>do
  let .ul eI _ cs _ <- H.get b|none
  if Nat.beq eI u then wg P t cs k else none
 | .eT g off=>if <- qz P t then none else gl g off
 | _=>none
def JP(a b:V):Option Bool :=
 match a,b with
 | .int k x,.int k' y=>if k=k' then some (x == y) else none
 | .str x,.str y=>some (n6 x y)
 | .bool x,.bool y=>some (x == y)
 | _,_=>none
def v6(ds:TypeDesc)(k:V):Bool :=
 match ds,k with
 | .int _,.int _ _=>true
 | .string,.str _=>true
 | .bool,.bool _=>true
 | _,_=>false
def JQ(k:V):List (V×V)->Option b_
 | []=>some none
 | (a,v)::r=>match JP k a with
  | some true=>some (some v)
  | some false=>JQ k r
  | none=>none
def HY(k x:V):List (V×V)->Option (List (V×V))
 | []=>some [(k,x)]
 | (a,v)::r=>match JP k a with
  | some true=>some ((k,x)::r)
  | some false=>(HY k x r).map ((a,v)::·)
  | none=>none
def HZ(l:bM):Nat×Nat :=
 let at' (k:Nat):Nat:=l.getD k 0
 let cont (k:Nat):Bool:=Nat.blt k l.length && Nat.beq (at' k / 64) 2
 let b0:=at' 0
 if b0<0x80 then (b0,1)
 else if b0 / 32 == 6 && cont 1 then
  let c:=(b0 % 32) * 64+at' 1 % 64
  if c ≥ 0x80 then (c,2) else (Utf8.runeError,1)
 else if b0 / 16 == 14 && cont 1 && cont 2 then
  let c:=(b0 % 16) * 4096+(at' 1 % 64) * 64+at' 2 % 64
  if c ≥ 0x800 && Utf8.valid c then (c,3) else (Utf8.runeError,1)
 else if b0 / 8 == 30 && cont 1 && cont 2 && cont 3 then
  let c:=(b0 % 8) * 262144+(at' 1 % 64) * 4096+(at' 2 % 64) * 64+at' 3 % 64
  if c ≥ 0x10000 && Utf8.valid c then (c,4) else (Utf8.runeError,1)
 else (Utf8.runeError,1)
def VR(t:aB)(v:V)(name:String):Option (FuncId×V):=do
 let i <- P.info? t
 let m <- i.methods.find? (·.name == name)
 if !m.path.isEmpty then none else
 let (f,pr) <- m.func
 match <- P.underlying t,pr with
 | .pointer _,true=>some (f,v)
 | .pointer _,false=>none
 | _,true=>none
 | _,false=>some (f,v)
def storeCells{α:Type}(cs:List α)(off:Nat):List α->List α
 | []=>cs
 | v::vs=>storeCells (cs.set off v) (off+1) vs
def locked:V->Bool
 | .sl _ _ .lock=>true
 | _=>false
def VS(name:String)(args:aD):b_ :=
 match name,args with
 | "internal/bytealg.IndexByteString",[.str s,.int .u8 c]=>if 0<=c/\c<256 then some (.int .i64 (match s.findIdx? (λ(b:Nat)=>Nat.beq b c.toNat) with|some i=>i|none=>-1)) else none
 | _,_=>none
end
def D4:List Oper->cg
 | [a,b]=>match a.dst,b.dst,b.op with
  | some k,some r,.assign (.tmp x)=>match Nat.beq k 19 && Nat.beq x 19 && Nat.beq r 2 with
   | true=>[k]
   | false=>[]
  | _,_,_=>[]
 | _=>[]
def D5:List Oper->cg
 | [a,b,c]=>match a.dst,a.op,b.dst,b.op,c.op with
  | some k,.load _ _,some r,.slice _ (.tmp x) (some _) none none,.store _ _ (.tmp y)=>match Nat.beq k x && Nat.beq r y with
   | true=>[k,1048576+k]
   | false=>[]
  | _,_,_,_,_=>[]
 | _=>[]
def jM(ops:Array Oper):cg :=
 (ops.toList.filterMap λo=>match o.op with
  | .call { callee:=.builtin .append,args,.. }=>match (args[0]?:Option aW) with
   | some (.tmp t)=>some t
   | _=>none
  | _=>none)++D4 ops.toList++D5 ops.toList
structure Cx where
 P:aQ
 gl:Nat->Nat->b_
 call:FuncId->aD->Hp->Option (Out×Hp)
 uq:aB->Bool
def ak(env:aD):aW->b_
 | .tmp t=>match nth env t with
  | some v=>some (aV v)
  | none=>none
 | .const v=>aj v
 | .global g=>some (.eT g 0)
 | .func f=>some (.fn (.func f) [] [])
def cQ(env:aD):Option aW->Option b_
 | none=>some none
 | some x=>match ak env x with
  | some v=>some (some v)
  | none=>none
def take(env:aD):aW->Option (V×aD)
 | .tmp t=>match nth env t with
  | some (.sl sz xs (.yes e))=>JO env t (.sl sz xs .no) λenv=>some (.sl sz xs (.yes e),env)
  | some v=>some (aV v,env)
  | none=>none
 | x=>(ak env x).map (·,env)
def av(env:aD):List aW->Option aD
 | []=>some []
 | x::xs=>match ak env x with
  | none=>none
  | some v=>fV v λv=>match av env xs with
   | none=>none
   | some vs=>some (v::vs)
structure St where
 env:aD
 H:Hp
 lk:aO
 defers:bP
def xW{β:Type}(H:Hp)(b:aY)(k:Nat->Hp->β):β :=
 match H with
 | ⟨bs,es⟩=>wN bs.length λn=>fL (bs++[b]) λbs=>k n ⟨bs,es⟩
def Ff{β:Type}(H:Hp)(b:Nat)(x:aY)(v:V)(k:Hp->β):β :=
 match H with
 | ⟨bs,es⟩=>JO bs b x λbs=>if v.top<=b+1 then k ⟨bs,es⟩ else wN v.top λt=>k ⟨bs,(b,t)::es⟩
def H_:Out×Hp->OR×Hp
 | (.ret v,H)=>(.val v,H)
 | (.p9 v,H)=>(.p9 v,H)
def Cx.bB(cx:Cx)(f:FuncId)(args:aD)(H:Hp):Option (OR×Hp) :=
 match cx.P.funcs[f]? with
 | none=>none
 | some fn=>match fn.body with
  | none=>match VS fn.name args with
   | none=>none
   | some v=>some (.val v,H)
  | some _=>match cx.call f args H with
   | none=>none
   | some r=>some (H_ r)
def Cx.mz(cx:Cx)(fv:V)(args:aD)(H:Hp):Option (OR×Hp) :=
 match fv with
 | .fn (.func f) first cap=>fL ((first++args++cap).map aV) λargs=>cx.bB f args H
 | .fn (.method name) first _ =>
  match first++args with
  | .dF t v::rest=>match VR cx.P t v name with
   | none=>none
   | some (f,r)=>fL ((r::rest).map aV) λargs=>cx.bB f args H
  | _=>none
 | _=>none
def kx(n bytes:Nat):Bool:=Nat.ble n 140737488355328 && Nat.ble (n * bytes) 140737488355328
def j9(P:aQ)(H:Hp)(t:aB)(v y:V):b_:=do
 let .slice e <- P.underlying t|none
 let n <- z4 P e
 let i <- P.info? e
 let z <- i.zero
 if !Nat.beq z.cells.size n then none else
 let ys <- wA P H e y
 match v with
 | .aG=>match ys with
  | []=>some .aG
  | ys=>if kx ys.length i.bytes && !Nat.beq n 0 then some (.sl n ys (.yes e)) else none
 | .sl sz xs (.yes e')=>if Nat.beq e e' && Nat.beq n sz && !Nat.beq n 0 && kx (xs.length+ys.length) i.bytes then some (.sl n (xs++ys) (.yes e)) else none
 | _=>none
def qX(P:aQ)(H:Hp)(t:aB)(v:V):Option Int :=
 match P.underlying t,v with
 | some .string,.str l=>some l.length
 | some (.slice _),.aG=>some 0
 | some (.slice _),.sl _ xs _=>some xs.length
 | some (.slice _),.sr _ _ n _=>some n
 | some (.slice _),.dB _ _ n=>some n
 | some (.map _ _),.mw=>some 0
 | some (.map _ _),.map b=>match H.get b with
  | some (.map es)=>some es.length
  | _=>none
 | _,_=>none
def Cx.builtin(cx:Cx)(b:Builtin)(argTypes:Array aB)(args:sg)(env:aD)(H:Hp):Option (OR×aD) :=
 match b,args.toList,argTypes.toList with
 | .len,[x],[t]=>do some (.val (.int .i64 (<- qX cx.P H t (<- ak env x))),env)
 | .append,[x,y],[t,u]=>do
  if !Nat.beq t u then none else
  let y <- ak env y
  let (v,env) <- take env x
  some (.val (<- j9 cx.P H t v y),env)
 | .min,[x,y],_=>do
  match <- ak env x,<- ak env y with
  | .int k a,.int _ b=>some (.val (.int k (if b<a then b else a)),env)
  | _,_=>none
 | .max,[x,y],_=>do
  match <- ak env x,<- ak env y with
  | .int k a,.int _ b=>some (.val (.int k (if b > a then b else a)),env)
  | _,_=>none
 | _,_,_=>none
def xN(cells:aD)(place:Nat->Option (Nat×Nat))(env:aD):List (Nat×aW)->Option aD
 | []=>some cells
 | (i,x)::r=>do
  let v <- ak env x
  let (off,n) <- place i
  if dz v && Nat.beq v.cells.length n && Nat.ble (off+n) cells.length then xN (storeCells cells off v.cells) place env r else none
def Tf(P:aQ)(fs:Array Field):Option aO:=fs.toList.mapM (λf=>(P.info? f.type).map λi=>(f.offset,i.size))
def ky(P:aQ)(t:aB)(parts:Array (Nat×aW))(env:aD):b_ :=
 match qP P t with
 | none=>none
 | some z=>if !dz z then none else match P.underlying t with
  | some (.struct fs)=>match Tf P fs with
   | some ps=>(xN z.cells (nth ps) env parts.toList).map .agg
   | none=>none
  | some (.array _ e)=>match P.info? e with
   | some ie=>(xN z.cells (λi=>some (i * ie.size,ie.size)) env parts.toList).map .agg
   | none=>none
  | _=>none
def EJ(n len:Nat)(env:aD):aD->List (Nat×aW)->Option aD
 | xs,[]=>some xs
 | xs,(i,x)::r=>do
  let v <- ak env x
  if dz v && Nat.beq v.cells.length n && Nat.blt i len then fV v λv=>JO xs i v λxs=>EJ n len env xs r else none
def NQ(P:aQ)(t:aB)(k:V):Bool :=
 match P.underlying t with
 | some (.map kt _)=>match P.underlying kt with
  | some kd=>v6 kd k
  | none=>false
 | _=>false
def zp(P:aQ)(t:aB)(x:V)(i:Int):b_ :=
 match P.underlying t with
 | some (.array len e)=>match z4 P e with
  | none=>none
  | some n=>match x with
   | .ptr b off=>if 0<=i/\i<len then some (.ptr b (off+i.toNat * n)) else none
   | .eT g off=>if 0<=i/\i<len then some (.eT g (off+i.toNat * n)) else none
   | .gh b u k=>if 0<=i/\i<len then some (.gh b u (k+i.toNat * n)) else none
   | .vp cs=>if 0<=i/\i<len then some (.vp (cs.drop (i.toNat * n))) else none
   | _=>none
 | some (.slice e)=>match z4 P e with
  | none=>none
  | some n=>match x with
   | .sl sz xs _=>if Nat.beq n sz then (if i<0 then none else match nth xs i.toNat with
    | some x=>some (.vp x.cells)
    | none=>none) else none
   | .sr b off len _=>if 0<=i/\i<len then some (.ptr b (off+i.toNat * n)) else none
   | .dB b u len=>if 0<=i/\i<len then some (.gh b u (i.toNat * n)) else none
   | _=>none
 | _=>none
def Pg(P:aQ)(t:aB)(x:V)(i:Int):b_ :=
 match P.underlying t with
 | some (.array len e)=>match z4 P e with
  | none=>none
  | some n=>match x with
   | .agg cs=>if 0<=i/\i<len then (wg P e cs (i.toNat * n)).map aV else none
   | _=>none
 | some .string=>match x with
  | .str l=>if i<0 then none else match nth l i.toNat with
   | some b=>some (.int .u8 b)
   | none=>none
  | _=>none
 | _=>none
def aa:V->b_
 | .ptr b o=>some (.ptr b o)
 | .eT b o=>some (.eT b o)
 | .gh b u k=>some (.gh b u k)
 | .vp cs=>some (.vp cs)
 | .obj k=>some (.obj k)
 | .fn (.func f) a c=>some (.fn (.func f) a c)
 | .dF t v=>some (.dF t v)
 | _=>none
def Tg(P:aQ)(t:aB):Bool :=
 match P.underlying t with
 | none=>true
 | some (.interface _)=>true
 | _=>false
def xf(H:Hp):V->Option (List (V×V))
 | .mw=>some []
 | .map b=>match H.get b with
  | some (.map es)=>some es
  | _=>none
 | _=>none
def NR(P:aQ)(e:aB)(k:V)(es:List (V×V)):Option (V×Bool) :=
 match JQ k es with
 | some (some v)=>some (v,true)
 | some none=>(qP P e).map (·,false)
 | none=>none
def Lb(P:aQ)(H:Hp)(a:aB)(v:V):b_ :=
 match P.underlying a,v with
 | some (.slice e),.sr b o l c=>match wA P H e (.sr b o l c) with
  | some xs=>some (.sl 1 xs .no)
  | none=>none
 | _,v=>some v
def vi(a:aB):aB:=549755813888+a
def Lc(P:aQ)(H:Hp)(a b:aB)(v:b_):b_ :=
 match v with
 | none=>none
 | some v=>match Lb P H a v with
  | none=>none
  | some v=>vy P a b v
def je(P:aQ)(gl:Nat->Nat->b_)(o:Oper)(env:aD)(H:Hp):b_:=do
 let ρ:=ak env
 match o.op with
 | .move x=>ρ x
 | .pick c a b=>do
  let .bool t <- ρ c|none
  match t with
  | true=>ρ a
  | false=>ρ b
 | .build t parts=>ky P t parts env
 | .buildSlice t len parts=>do
  let .slice e <- P.underlying t|none
  let n <- z4 P e
  let z <- qP P e
  if Nat.beq n 0 || Nat.blt 16777216 (len * n) || !Nat.beq z.cells.length n || !dz z then none else
  let xs <- EJ n len env (List.replicate len z) parts.toList
  some (.sl n xs (.yes e))
 | .load t a=>do
  let v <- zk P H gl t (<- ρ a)
  some (aV v)
 | .nilCheck x=>do
  aa (<- ρ x)
 | .binOp op t x y _=>do
  let u <- ρ x
  let v <- ρ y
  if ju P op t x y u v then w9 P op t u v else none
 | .unOp op _ x=>do iH op (<- ρ x)
 | .convert a b x=>do vy P a b (<- ρ x)
 | .makeInterface t x=>do
  let v <- ρ x
  if Tg P t then none else some (.dF t v)
 | .makeFunc fn first cap=>do some (.fn fn (<- av env first.toList) (<- av env cap.toList))
 | .slice t x lo hi mx=>do
  let Th <- cQ env lo
  let sx <- cQ env hi
  let v <- ρ x
  match mx with
  | none=>yX P t v Th sx
  | some m=>match <- ρ m,v,sx with
   | .int _ k,.sl sz xs o,some (.int _ h)=>if h<=k/\k<=xs.length then yX P t (.sl sz xs o) Th sx else none
   | _,_,_=>none
 | .fieldAddr t x f=>do
  let .struct fs <- P.underlying t|none
  let fd <- fs[f]?
  if Nat.beq (<- z4 P fd.type) 0 then none else
  match <- ρ x with
  | .ptr b off=>some (.ptr b (off+fd.offset))
  | .eT g off=>some (.eT g (off+fd.offset))
  | .gh b u k=>some (.gh b u (k+fd.offset))
  | .vp cs=>some (.vp (cs.drop fd.offset))
  | _=>none
 | .field t x f=>do
  let .struct fs <- P.underlying t|none
  let fd <- fs[f]?
  let .agg cs <- ρ x|none
  (wg P fd.type cs fd.offset).map aV
 | .indexAddr t x ix=>do
  let .int _ i <- ρ ix|none
  zp P t (<- ρ x) i
 | .index t x ix=>do
  let .int _ i <- ρ ix|none
  Pg P t (<- ρ x) i
 | .lookup t m k ok=>do
  let .map kt e <- P.underlying t|none
  let kd <- P.underlying kt
  let k <- ρ k
  if !v6 kd k then none else
  let es <- xf H (<- ρ m)
  let (v,f) <- NR P e k es
  some (if ok then .br [aV v,.bool f] else aV v)
 | .typeAssert x _ t ok=>do
  if Tg P t then none else
  match <- ρ x with
  | .bN=>if ok then do some (.br [<- qP P t,.bool false]) else none
  | .dF u v=>if Nat.beq u t then some (if ok then .br [aV v,.bool true] else aV v) else if ok then do some (.br [<- qP P t,.bool false]) else none
  | _=>none
 | .extract x i=>do
  let .br vs <- ρ x|none
  match nth vs i with
  | some v=>some (aV v)
  | none=>none
 | _=>none
def wz(lk:aO)(b:Nat):Nat->Nat->aD->Bool
 | _,0,_=>true
 | _,_,[]=>false
 | off,n+1,c::cs=>(!locked c || lk.any λp=>Nat.beq p.1 b && Nat.beq p.2 off) && wz lk b (off+1) n cs
def bY:aD->aD
 | []=>[]
 | v::vs=>v.cells++bY vs
def p_(P:aQ)(uq:aB->Bool)(t:aB):Bool :=
 match P.underlying t with
 | some (.slice e)=>uq e
 | _=>false
def v7(P:aQ)(a b:aB)(x:aW)(env:aD):Option (V×aD) :=
 match Nat.beq a b,P.underlying a with
 | true,some (.slice e)=>match P.underlying e,take env x with
  | some (.int .u8),some (.sl sz (y::ys) (.yes _),env)=>some (.sl sz (y::ys) .no,env)
  | _,_=>none
 | _,_=>none
def xA(takes:cg)(x:aW)(lo hi:Option aW):Bool :=
 match x,lo,hi with
 | .tmp k,some _,none=>takes.any (Nat.beq (1048576+k))
 | _,_,_=>false
def Ld(P:aQ)(t:aB)(x:aW)(lo:Option aW)(env:aD):Option (V×aD) :=
 match P.underlying t,take env x,cQ env lo with
 | some (.slice e'),some (.sl sz xs (.yes e),env),some (some (.int _ i))=>match z4 P e' with
  | some n=>match Nat.beq n sz && decide (0<=i) && Nat.ble i.toNat xs.length with
   | true=>some (.sl sz (xs.drop i.toNat) (.yes e),env)
   | false=>none
  | none=>none
 | _,_,_=>none
def Cx.mU(cx:Cx)(t:aB)(x y:aW)(env:aD)(H:Hp)(lk:aO)(df:bP):Option (OR×St):=do
 let .slice e <- cx.P.underlying t|none
 let n <- z4 cx.P e
 let i <- cx.P.info? e
 let z <- i.zero
 let ys <- wA cx.P H e (<- ak env y)
 if !Nat.beq z.cells.size n || Nat.beq n 0 then none else
 match <- ak env x with
 | .aG=>match ys with
  | []=>some (.val .aG,⟨env,H,lk,df⟩)
  | _=>if kx ys.length i.bytes then A9 (bY ys) λcs=>wN ys.length λlen=>xW H (.ul 0 n cs e) λb H=>some (.val (.dB b 0 len),⟨env,H,lk,df⟩) else none
 | .dB b u len=>match H.get b with
  | some (.ul eI sz cs e') =>
   if Nat.beq e e' && Nat.beq n sz && Nat.beq eI u && kx (len+ys.length) i.bytes then
    A9 (cs++bY ys) λcs=>wN (eI+1) λu=>wN (len+ys.length) λlen=>Ff H b (.ul u sz cs e) (.br ys) λH=>some (.val (.dB b u len),⟨env,H,lk,df⟩)
   else none
  | _=>none
 | .sr b off len cap=>match H.get b with
  | some (.cells cs ty) =>
   let new:=(bY ys).map aV
   if Nat.beq off 0 && Nat.beq n 1 && Nat.beq ty e && Nat.beq new.length ys.length && Nat.ble (len+ys.length) cap && Nat.ble (len+ys.length) cs.length && wz lk b len ys.length (cs.drop len) then
    A9 (storeCells cs len new) λcs=>wN (len+ys.length) λlen=>Ff H b (.cells cs ty) (.br new) λH=>some (.val (.sr b 0 len cap),⟨env,H,lk,df⟩)
   else match wA cx.P H e (.sr b off len cap) with
    | some xs =>
     if Nat.beq xs.length len && Nat.ble 1 len && Nat.ble (cap+1) (len+ys.length) && kx (len+ys.length) i.bytes then
      A9 (bY xs++bY ys) λcs=>wN (len+ys.length) λlen=>xW H (.ul 0 n cs e) λb H=>some (.val (.dB b 0 len),⟨env,H,lk,df⟩)
     else none
    | none=>none
  | _=>none
 | _=>none
def Cx.oK(cx:Cx)(t:aB)(x:aW)(lo hi:Option aW)(env:aD)(H:Hp)(lk:aO)(df:bP):Option (OR×St) :=
 match cx.P.underlying t,ak env x,cQ env lo,cQ env hi with
 | some (.slice e'),some (.dB b u len),some none,some (some (.int _ h))=>match z4 cx.P e',H.get b with
  | some _,some (.ul eI sz cs e) =>
   if Nat.beq eI u && decide (0<=h) && Nat.ble h.toNat len then
    fL (cs.take (h.toNat * sz)) λcs=>wN (eI+1) λu=>wN h.toNat λlen=>Ff H b (.ul u sz cs e) .fT λH=>some (.val (.dB b u len),⟨env,H,lk,df⟩)
   else none
  | _,_=>none
 | _,some (.sr b off len cap),some lo,some hi=>match yX cx.P t (.sr b off len cap) lo hi with
  | some v=>some (.val v,⟨env,H,lk,df⟩)
  | none=>none
 | _,_,_,_=>none
def Cx.sJ(cx:Cx)(t:aB)(x y:aW)(env:aD)(H:Hp)(lk:aO)(df:bP):Option (OR×St):=do
 let .slice e <- cx.P.underlying t|none
 let n <- z4 cx.P e
 let ys <- wA cx.P H e (<- ak env y)
 match <- ak env x with
 | .sr b off len _=>match H.get b with
  | some (.cells cs ty) =>
   let m:=min len ys.length
   let new:=(bY (ys.take m)).map aV
   if Nat.beq n 1 && Nat.beq new.length m && Nat.ble (off+m) cs.length && wz lk b off m (cs.drop off) then
    A9 (storeCells cs off new) λcs=>Ff H b (.cells cs ty) (.br new) λH=>some (.val (.int .i64 (m:Nat)),⟨env,H,lk,df⟩)
   else none
  | _=>none
 | _=>none
def Cx.op(cx:Cx)(takes:cg)(o:Oper)(env:aD)(H:Hp)(lk:aO)(df:bP):Option (OR×St) :=
  let P:=cx.P
  let taken:=match o.dst with
    | some d=>takes.any (Nat.beq d)
    | none=>false
  let read (_:Unit):Option (OR×St):=match je P cx.gl o env H with
    | none=>none
    | some v=>some (.val v,⟨env,H,lk,df⟩)
  match o.op with
  | .move x=>match taken with
    | true=>match take env x with
      | none=>none
      | some (v,env)=>some (.val v,⟨env,H,lk,df⟩)
    | false=>read ()
  | .assign x=>match take env x with
    | none=>none
    | some (v,env)=>some (.val v,⟨env,H,lk,df⟩)
  | .load t a=>match taken with
    | false=>read ()
    | true=>match qz P t,ak env a with
      | some false,some (.ptr b off)=>match H.get b with
        | some (.cells cs ty)=>match nth cs off with
          | some (.sl sz xs (.yes e))=>JO cs off (.sl sz xs .lock) λcs=>Ff H b (.cells cs ty) .fT λH=>some (.val (.sl sz xs (.yes e)),⟨env,H,(b,off)::lk,df⟩)
          | some .aG=>some (.val .aG,⟨env,H,lk,df⟩)
          | some (.dB c u n)=>some (.val (.dB c u n),⟨env,H,lk,df⟩)
          | _=>none
        | _=>none
      | _,_=>none
  | .alloc t=>match qP P t with
    | none=>none
    | some z=>if !dz z then none else fV z λz=>xW H (.cells z.cells t) λn H=>some (.val (.ptr n 0),⟨env,H,lk,df⟩)
  | .box t x=>match take env x with
    | none=>none
    | some (v,env)=>if !dz v then none else fV v λv=>A9 v.laid λcs=>xW H (.cells cs t) λn H=>some (.val (.ptr n 0),⟨env,H,lk,df⟩)
  | .store t a x=>match ak env a with
    | some (.ptr b off)=>match take env x,z4 P t,H.get b with
      | some (v,env),some n,some (.cells cs ty) =>
        fV v λv=>A9 v.laid λvs =>
          if dz v && Nat.beq vs.length n && Nat.ble (off+n) cs.length && wz lk b off n (cs.drop off) then
            fL (storeCells cs off vs) λcs=>Ff H b (.cells cs ty) v λH=>some (.skip,⟨env,H,lk,df⟩)
          else none
      | _,_,_=>none
    | some (.gh b u k)=>match take env x,z4 P t,H.get b with
      | some (x,env),some n,some (.ul eI sz cs e) =>
        fV (aV x) λx=>if Nat.beq eI u && dz x && Nat.beq x.cells.length n && Nat.ble (k+n) cs.length then
          fL (storeCells cs k x.cells) λcs=>Ff H b (.ul eI sz cs e) x λH=>some (.skip,⟨env,H,lk,df⟩)
        else none
      | _,_,_=>none
    | _=>none
  | .makeMap _ r=>match r with
    | some _=>none
    | none=>xW H (.map []) λn H=>some (.val (.map n),⟨env,H,lk,df⟩)
  | .makeSlice t l c=>match P.underlying t,ak env l,ak env c with
    | some (.slice e),some (.int _ l),some (.int _ c)=>match z4 P e,P.info? e,qP P e with
      | some n,some i,some z =>
        if Nat.beq n 0 || l<0 || c<l || !kx c.toNat i.bytes || !Nat.beq z.cells.length n || !dz z then none else
        match cx.uq e && Nat.blt 0 c.toNat with
        | true=>A9 (List.replicate c.toNat z.cells).flatten λcs=>xW H (.cells cs e) λn H=>wN l.toNat λl=>wN c.toNat λc=>some (.val (.sr n 0 l c),⟨env,H,lk,df⟩)
        | false =>
        if l=0 then some (.val (.sl n [] (.yes e)),⟨env,H,lk,df⟩) else
        if l=c then A9 (List.replicate c.toNat z.cells).flatten λcs=>xW H (.cells cs e) λn H=>some (.val (.sr n 0 l.toNat c.toNat),⟨env,H,lk,df⟩) else none
      | _,_,_=>none
    | _,_,_=>none
  | .mapUpdate t m k x|.insert t m k x=>match ak env m,ak env k,ak env x with
    | some (.map b),some k,some x=>if !NQ P t k then none else fV k λk=>fV x λx=>match H.get b with
      | some (.map es)=>match HY k x es with
        | some es=>fL es λes=>Ff H b (.map es) (.br [k,x]) λH=>some (.skip,⟨env,H,lk,df⟩)
        | none=>none
      | _=>none
    | _,_,_=>none
  | .range t x=>match P.underlying t,ak env x with
    | some .string,some (.str l)=>xW H (.iter l 0) λn H=>some (.val (.ptr n 0),⟨env,H,lk,df⟩)
    | _,_=>none
  | .next it true=>match ak env it with
    | some (.ptr b 0)=>match H.get b with
      | some (.iter l pos) =>
        if Nat.blt pos l.length then
          let (c,w):=HZ (l.drop pos)
          wN (pos+w) λq=>Ff H b (.iter l q) .fT λH=>some (.val (.br [.bool true,.int .i64 pos,.int .i32 c]),⟨env,H,lk,df⟩)
        else some (.val (.br [.bool false]),⟨env,H,lk,df⟩)
      | _=>none
    | _=>none
  | .convert a b x=>match v7 P a b x env with
    | some (v,env)=>some (.val v,⟨env,H,lk,df⟩)
    | none=>match cx.uq (vi a) with
      | true=>match Lc P H a b (ak env x) with
        | some v=>some (.val v,⟨env,H,lk,df⟩)
        | none=>none
      | false=>read ()
  | .slice t x lo hi none=>match xA takes x lo hi with
    | true=>match Ld P t x lo env with
      | some (v,env)=>some (.val v,⟨env,H,lk,df⟩)
      | none=>none
    | false=>match p_ P cx.uq t with
      | true=>cx.oK t x lo hi env H lk df
      | false=>read ()
  | .call c=>match c.callee with
    | .builtin b=>match b,c.args.toList,c.argTypes.toList with
     | .copy,[x,y],t::_=>cx.sJ t x y env H lk df
     | .append,[x,y],[t,u]=>match p_ P cx.uq t with
       | true=>if Nat.beq t u then cx.mU t x y env H lk df else none
       | false=>match cx.builtin b c.argTypes c.args env H with
        | none=>none
        | some (r,env)=>some (r,⟨env,H,lk,df⟩)
     | _,_,_=>match cx.builtin b c.argTypes c.args env H with
      | none=>none
      | some (r,env)=>some (r,⟨env,H,lk,df⟩)
    | .value f=>match ak env f,av env c.args.toList with
      | some f,some args=>match cx.mz f args H with
        | none=>none
        | some (r,H)=>some (r,⟨env,H,lk,df⟩)
      | _,_=>none
    | .invoke r m=>match ak env r,av env c.args.toList with
      | some r,some args=>match cx.mz (.fn (.method m) [] []) (r::args) H with
        | none=>none
        | some (r,H)=>some (r,⟨env,H,lk,df⟩)
      | _,_=>none
  | .defer c=>match c.callee with
    | .value f=>match ak env f,av env c.args.toList with
      | some (.fn (.func f) first cap),some args=>some (.skip,⟨env,H,lk,(.fn (.func f) first cap,args)::df⟩)
      | _,_=>none
    | _=>none
  | .panic x=>match ak env x with
    | some (.dF t v)=>some (.p9 (.dF t v),⟨env,H,lk,df⟩)
    | _=>none
  | _=>read ()
def aq(env:aD)(dst:fJ)(v:V):aD :=
 match dst with
 | some d=>env.set d v
 | none=>env
def Fg{β:Type}(env:aD)(dst:fJ)(v:V)(k:aD->β):β :=
 match dst with
 | some d=>fV v λv=>JO env d v k
 | none=>k env
def zY(ops:Array Oper)(o:Oper)(env:aD):Option Bool :=
 match o.guard with
 | none=>some true
 | some (j,want)=>match (ops[j]?).bind (·.dst) with
  | none=>none
  | some d=>match nth env d with
   | some (.bool b)=>some (b == want)
   | some (.br _)=>some false
   | _=>none
def Cx.ops(cx:Cx)(all:Array Oper)(takes:cg):List Oper->St->Option (Ex×St)
 | [],s=>some (.normal,s)
 | o::os,⟨env,H,lk,df⟩ =>
  match zY all o env with
  | none=>none
  | some false=>Fg env o.dst (.br []) λenv=>cx.ops all takes os ⟨env,H,lk,df⟩
  | some true=>match cx.op takes o env H lk df with
   | none=>none
   | some (.val v,⟨env,H,lk,df⟩)=>Fg env o.dst v λenv=>cx.ops all takes os ⟨env,H,lk,df⟩
   | some (.skip,⟨env,H,lk,df⟩)=>Fg env o.dst (.br []) λenv=>cx.ops all takes os ⟨env,H,lk,df⟩
   | some (.p9 v,s)=>some (.p9 v,s)
mutual
def V.same:V->V->Bool
 | .bool a,.bool b=>a == b
 | .int k n,.int k' n'=>if k=k' then n == n' else false
 | .str a,.str b=>n6 a b
 | .fT,.fT=>true
 | .ptr a b,.ptr c d=>Nat.beq a c && Nat.beq b d
 | .eT a b,.eT c d=>Nat.beq a c && Nat.beq b d
 | .obj a,.obj b=>Nat.beq a b
 | .vp a,.vp b=>fj a b
 | .aG,.aG=>true
 | .sl s a o,.sl s' b o'=>Nat.beq s s' && (if o=o' then fj a b else false)
 | .sr a b c d,.sr a' b' c' d'=>Nat.beq a a' && Nat.beq b b' && Nat.beq c c' && Nat.beq d d'
 | .mw,.mw=>true
 | .map a,.map b=>Nat.beq a b
 | .pH,.pH=>true
 | .fn f a c,.fn f' a' c'=>(if f=f' then true else false) && fj a a' && fj c c'
 | .bN,.bN=>true
 | .dF t v,.dF t' v'=>Nat.beq t t' && V.same v v'
 | .agg a,.agg b=>fj a b
 | .br a,.br b=>fj a b
 | .dW,.dW=>true
 | .dB a b n,.dB c d m=>Nat.beq a c && Nat.beq b d && Nat.beq n m
 | .gh a b e,.gh c d f=>Nat.beq a c && Nat.beq b d && Nat.beq e f
 | _,_=>false
def fj:aD->aD->Bool
 | [],[]=>true
 | x::xs,y::ys=>V.same x y && fj xs ys
 | _,_=>false
end
def q9(P:aQ)(uq:aB->Bool)(takes:cg)(o:Oper):Bool :=
 match o.op with
 | .alloc _|.box ..|.store ..|.makeMap ..|.makeSlice ..|.mapUpdate ..|.insert ..|.range ..|.next ..|.defer _|.panic _=>true
 | .load ..=>match o.dst with
  | some d=>takes.any (Nat.beq d)
  | none=>false
 | .slice t _ _ _ none=>p_ P uq t
 | .call c=>match c.callee with
  | .builtin .copy=>true
  | .builtin .append=>match c.argTypes.toList with
   | t::_=>p_ P uq t
   | _=>false
  | .builtin _=>false
  | _=>true
 | _=>false
def kV(P:aQ)(uq:aB->Bool)(o:Oper):Bool :=
 match o.op with
 | .slice t _ _ _ none=>p_ P uq t
 | .convert a _ _=>uq (vi a)
 | .load ..|.lookup ..|.call _=>true
 | _=>false
def kl(takes:cg)(o:Oper):Option aW :=
 match o.op with
 | .move x=>if (match o.dst with|some d=>takes.any (Nat.beq d)|none=>false) then some x else none
 | .assign x|.box _ x|.store _ _ x=>some x
 | .convert a b x=>if Nat.beq a b then some x else none
 | .slice _ x lo hi none=>if xA takes x lo hi then some x else none
 | .call c=>match c.callee with
  | .builtin .append=>c.args.toList.head?
  | _=>none
 | _=>none
def gm:List aW->Nat
 | []=>0
 | .tmp t::xs=>Nat.lor (Nat.pow 2 t) (gm xs)
 | _::xs=>gm xs
structure Rec where
 idx:Nat
 o:Oper
 m:Nat
 tm:Nat
 lm:Nat
 hp:Bool
 free:Bool
 env:aD
 v:V
structure ew where
 D:Nat
 H:Hp
 lk:aO
 df:bP
def bit(m i:Nat):Bool:=Nat.beq (Nat.mod (Nat.shiftRight m i) 2) 1
def vN(a b:Nat):Bool:=Nat.beq (Nat.land a b) a
def maskAt:List Rec->Nat->Option Nat
 | [],_=>none
 | r::rs,j=>if Nat.beq r.idx j then some r.m else maskAt rs j
def wB(rs:List Rec):List Edge->Option Nat
 | []=>some 0
 | e::es=>match Region.binds .any e with
  | false=>wB rs es
  | true=>match maskAt rs e.on with
   | none=>none
   | some m=>match wB rs es with
    | none=>none
    | some k=>some (Nat.lor k (Nat.lor m (Nat.pow 2 e.on)))
def Cx.ee(cx:Cx)(takes:cg)(o:Oper)(env:aD)(c:ew)(D:Nat):Option (V×ew) :=
 match cx.op takes o env c.H c.lk c.df with
 | some (.val v,s)=>some (v,⟨D,s.H,s.lk,s.defers⟩)
 | some (.skip,s)=>some (.br [],⟨D,s.H,s.lk,s.defers⟩)
 | _=>none
def Cx.eX(cx:Cx)(takes:cg)(o:Oper)(env:aD)(v:V)(c:ew):Bool :=
 match cx.ee takes o env c 0 with
 | some (u,_)=>V.same u v
 | none=>false
def rL:List (V×V)->List (V×V)->Bool
 | [],[]=>true
 | (a,b)::x,(c,d)::y=>V.same a c && V.same b d && rL x y
 | _,_=>false
def gp:aY->aY->Bool
 | .cells a t,.cells b u=>Nat.beq t u && fj a b
 | .map a,.map b=>rL a b
 | .iter a i,.iter b j=>Nat.beq i j && n6 a b
 | .ul a b c d,.ul a' b' c' d'=>Nat.beq a a' && Nat.beq b b' && Nat.beq d d' && fj c c'
 | _,_=>false
def mV:List aY->List aY->Bool
 | [],[]=>true
 | a::x,b::y=>gp a b && mV x y
 | _,_=>false
def mh:aO->aO->Bool
 | [],[]=>true
 | (a,b)::x,(c,d)::y=>Nat.beq a c && Nat.beq b d && mh x y
 | _,_=>false
def nF:bP->bP->Bool
 | [],[]=>true
 | (a,b)::x,(c,d)::y=>V.same a c && fj b d && nF x y
 | _,_=>false
def v9(a b:ew):Bool:=mh a.lk b.lk && nF a.df b.df && mh a.H.bG b.H.bG && mV a.H.az b.H.az
def ya(D:Nat):List ew->Option ew
 | []=>none
 | c::cs=>if Nat.beq c.D D then some c else ya D cs
def eJ:List Rec->Nat
 | []=>0
 | r::rs=>match r.hp with
  | true=>Nat.lor (Nat.pow 2 r.idx) (eJ rs)
  | false=>eJ rs
def kB{α:Type}(f:α->Bool):List α->Bool
 | []=>true
 | q::qs=>match f q with
  | true=>kB f qs
  | false=>false
def Lf(D:Nat)(q:Rec):List Rec->Bool
 | []=>false
 | c::cs=>(c.hp && bit D c.idx && bit c.m q.idx) || Lf D q cs
def kw(r q:Rec):Bool :=
 match bit r.m q.idx with
 | true=>true
 | false=>Nat.beq (Nat.land q.tm r.lm) 0 && Nat.beq (Nat.land r.tm q.lm) 0
def Cx.iA(cx:Cx)(takes:cg)(o:Oper)(env:aD)(v:V)(m b:Nat):List ew->Option (List ew)
 | []=>some []
 | c::cs=>match vN m c.D with
  | false=>cx.iA takes o env v m b cs
  | true=>match cx.ee takes o env c (Nat.lor c.D b) with
   | none=>none
   | some (u,c2)=>match V.same u v with
    | false=>none
    | true=>match cx.iA takes o env v m b cs with
     | none=>none
     | some l=>some (c2::l)
def Cx.fM(cx:Cx)(takes:cg)(rs:List Rec)(Lg:Nat)(r:Rec)(all:List ew)(c:ew):Bool :=
 kB (λq=>match vN (Nat.land q.m Lg) c.D with
  | false=>true
  | true=>match q.hp with
   | true=>match bit c.D q.idx with
    | true=>true
    | false=>match cx.ee takes q.o q.env c 0,ya (Nat.lor c.D (Nat.pow 2 q.idx)) all with
     | some (u,c2),some c3=>V.same u q.v && v9 c2 c3
     | _,_=>false
   | false=>q.free || bit r.m q.idx || Lf c.D q rs || cx.eX takes q.o q.env q.v c) rs
def zeL(all:Array Oper)(o:Oper):Nat :=
 match o.guard with
 | none=>0
 | some (j,_)=>match (all[j]?).bind (·.dst) with
  | none=>0
  | some d=>Nat.pow 2 d
def m8(takes:cg)(o:Oper):Nat :=
 match o.dst with
 | some d=>Nat.lor (Nat.pow 2 d) (gm (match kl takes o with|some x=>[x]|none=>[]))
 | none=>gm (match kl takes o with|some x=>[x]|none=>[])
def ug(all:Array Oper)(o:Oper):Nat:=Nat.lor (gm o.op.operands.toList) (zeL all o)
def Cx.fN(cx:Cx)(takes:cg)(rs:List Rec)(r:Rec)(c0 c1:ew)(cs:List ew)(k:List ew->Option (Ex×St)):Option (Ex×St) :=
 let Lg:=eJ rs
 match r.hp with
 | false=>match r.free || kB (λc=>match vN (Nat.land r.m Lg) c.D with
   | true=>cx.eX takes r.o r.env r.v c
   | false=>true) cs with
  | true=>k (c0::cs)
  | false=>none
 | true=>match cx.iA takes r.o r.env r.v (Nat.land r.m Lg) (Nat.pow 2 r.idx) cs with
  | none=>none
  | some l =>
   let all:=c1::l++c0::cs
   match kB (λc=>cx.fM takes rs Lg r all c) (c1::l) with
   | true=>k all
   | false=>none
def Cx.eN(cx:Cx)(all:Array Oper)(takes:cg):Nat->List Rec->List ew->List Oper->St->Option (Ex×St)
 | _,_,_,[],s=>some (.normal,s)
 | i,rs,cs,o::os,⟨env,H,lk,df⟩ =>
  match wB rs o.after.toList with
  | none=>none
  | some m=>wN m λm=>wN (m8 takes o) λtm=>wN (Nat.lor tm (ug all o)) λlm =>
   let next (hp free:Bool) (v:V) (s1:St):Option (Ex×St) :=
    match s1 with
    | ⟨cK,H1,eB,eA⟩=>fV v λv=>Fg cK o.dst v λcK =>
     match kB (kw ⟨i,o,m,tm,lm,hp,free,env,v⟩) rs,cs with
     | true,c0::cs=>cx.fN takes rs ⟨i,o,m,tm,lm,hp,free,env,v⟩ c0 ⟨Nat.lor c0.D (Nat.pow 2 i),H1,eB,eA⟩ cs λcs =>
      cx.eN all takes (i+1) (⟨i,o,m,tm,lm,hp,free,env,v⟩::rs) cs os ⟨cK,H1,eB,eA⟩
     | _,_=>none
   match zY all o env with
   | none=>none
   | some false=>next false true (.br []) ⟨env,H,lk,df⟩
   | some true=>match cx.op takes o env H lk df with
    | none=>none
    | some (.val v,s1)=>next (q9 cx.P cx.uq takes o) (!kV cx.P cx.uq o) v s1
    | some (.skip,s1)=>next (q9 cx.P cx.uq takes o) false (.br []) s1
    | some (.p9 _,_)=>none
def Cx.drawn(cx:Cx)(ops:Array Oper):St->Option (Ex×St)
 | ⟨env,H,_,df⟩=>cx.eN ops (jM ops) 0 [] [⟨0,H,[],df⟩] ops.toList ⟨env,H,[],df⟩
def De(after:Array Edge):Oper:=⟨none,.move (.const (.bool true)),0,"",after,none⟩
def Ti(es:List Edge):Nat->Bool
 | 0=>true
 | n+1=>(es.any λe=>Nat.beq e.on n && Region.binds .any e) && Ti es n
def Tj(takes:cg)(d:Tmp)(o:Oper):Bool :=
 (match o.dst with|some k=>!(Nat.beq k d)|none=>true) && (match kl takes o with|some (.tmp k)=>!(Nat.beq k d)|_=>true) && (match o.guard with|none=>true|some _=>false)
def xO(ops:Array Oper):Option (List Oper×Tmp×aB×aW) :=
 match ops.toList.reverse with
 | ⟨none,.store t (.tmp d) x,_,_,after,none⟩::⟨some e,.alloc u,_,_,af,none⟩::os =>
  match Nat.beq d e && Nat.beq t u && Ti after.toList (os.length+1) with
  | true=>some ((De after::De af::os).reverse,d,t,x)
  | false=>none
 | _=>none
def Cx.late(cx:Cx)(ops:Array Oper):St->Option (Ex×St)
 | ⟨env,H,_,df⟩=>match xO ops with
  | none=>none
  | some (os,d,t,x)=>match kB (Tj (jM os.toArray) d) os && Nat.blt d env.length with
   | false=>none
   | true=>match cx.eN os.toArray (jM os.toArray) 0 [] [⟨0,H,[],df⟩] os ⟨env.set d .dW,H,[],df⟩ with
    | some (_,⟨env,H,lk,df⟩)=>match take env x,z4 cx.P t,qP cx.P t with
     | some (v,env),some n,some z =>
      match dz v && dz z && Nat.beq z.cells.length n with
      | true=>fV v λv=>A9 v.laid λcs=>match Nat.beq cs.length n with
       | true=>xW H (.cells cs t) λn H=>some (.normal,⟨env.set d (.ptr n 0),H,lk,df⟩)
       | false=>none
      | false=>none
     | _,_,_=>none
    | none=>none
def mB:Nat:=1099511627775
def Cx.draw(cx:Cx)(ops:Array Oper)(s:St):Option (Ex×St) :=
 match cx.uq mB with
 | true=>match xO ops with
  | some _=>cx.late ops s
  | none=>cx.drawn ops s
 | false=>cx.drawn ops s
def Lh(step:St->Option (Ex×St)):Nat->St->Option (Ex×St)
 | 0,_=>none
 | n+1,s=>match step s with
  | none=>none
  | some (.normal,s)=>Lh step n s
  | some (e,s)=>some (e,s)
def GU(f:FuncId)(back:Bool)(t:aB):aB:=1099511627776+2 * (f * 1048576+t)+(if back then 1 else 0)
def Cx.code(cx:Cx)(n:Nat):Code->St->Option (Ex×St)
 | .skip,s=>some (.normal,s)
 | .label _,s=>some (.normal,s)
 | .region _ ops false,⟨env,H,_,df⟩=>cx.ops ops (jM ops) ops.toList ⟨env,H,[],df⟩
 | .region _ ops true,s=>cx.draw ops s
 | .seq a b,s=>match cx.code n a s with
  | none=>none
  | some (.normal,s)=>cx.code n b s
  | some (e,s)=>some (e,s)
 | .cond c a b,s=>match ak s.env c with
  | some (.bool true)=>cx.code n a s
  | some (.bool false)=>cx.code n b s
  | _=>none
 | .block id c,s=>match cx.code n c s with
  | none=>none
  | some (.exit i,s)=>some (if Nat.beq i id then .normal else .exit i,s)
  | some (e,s)=>some (e,s)
 | .loop c,s=>Lh (cx.code n c) n s
 | .exit id,s=>some (.exit id,s)
 | .ret,s=>some (.ret,s)
 | .scope c,s=>match cx.code n c s with
  | none=>none
  | some (.goto _,_)=>none
  | some (e,s)=>some (e,s)
 | _,_=>none
def zx(P:aQ)(H:Hp)(env:aD):List ResultVar->Option aD
 | []=>some []
 | .tmp t::r=>match nth env t,zx P H env r with
  | some v,some vs=>some (v::vs)
  | _,_=>none
 | .cell a t::r=>match nth env a with
  | some p=>match zk P H (λ_ _=>none) t p,zx P H env r with
   | some v,some vs=>some (aV v::vs)
   | _,_=>none
  | none=>none
def iY:aD->V
 | [v]=>v
 | vs=>.br (vs.map aV)
def Ph{β:Type}(n0:Nat)(es:aO)(top:Nat)(H:Hp)(k:Hp->β):β :=
 match H with
 | ⟨bs,new⟩ =>
  if Nat.ble top n0 && new.all (λe=>Nat.ble n0 e.1 || Nat.ble e.2 n0) then
   fL (bs.take n0) λbs=>fL (new.filter (λe=>Nat.blt e.1 n0)) λnew=>k ⟨bs,new++es⟩
  else k ⟨bs,new++es⟩
def zpi(o:Oper):Bool :=
 match o.op with
 | .call c=>match c.callee with
  | .builtin .recover=>true
  | _=>false
 | _=>false
def Cx.uh(cx:Cx)(iI:b_)(all:Array Oper)(takes:cg):List Oper->Bool->St->Option (Ex×Bool×St)
 | [],r,s=>some (.normal,r,s)
 | o::os,r,⟨env,H,lk,df⟩ =>
  match zY all o env with
  | none=>none
  | some false=>Fg env o.dst (.br []) λenv=>cx.uh iI all takes os r ⟨env,H,lk,df⟩
  | some true=>match zpi o with
   | true=>match iI,r with
    | some v,false=>Fg env o.dst (aV v) λenv=>cx.uh iI all takes os true ⟨env,H,lk,df⟩
    | _,_=>Fg env o.dst .bN λenv=>cx.uh iI all takes os r ⟨env,H,lk,df⟩
   | false=>match cx.op takes o env H lk df with
    | none=>none
    | some (.val v,⟨env,H,lk,df⟩)=>Fg env o.dst v λenv=>cx.uh iI all takes os r ⟨env,H,lk,df⟩
    | some (.skip,⟨env,H,lk,df⟩)=>Fg env o.dst (.br []) λenv=>cx.uh iI all takes os r ⟨env,H,lk,df⟩
    | some (.p9 v,s)=>some (.p9 v,r,s)
def Cx.m9(cx:Cx)(n:Nat)(iI:b_):Code->Bool->St->Option (Ex×Bool×St)
 | .seq a b,r,s=>match cx.m9 n iI a r s with
  | none=>none
  | some (.normal,r,s)=>cx.m9 n iI b r s
  | some x=>some x
 | .cond c a b,r,s=>match ak s.env c with
  | some (.bool true)=>cx.m9 n iI a r s
  | some (.bool false)=>cx.m9 n iI b r s
  | _=>none
 | .region _ ops false,r,⟨env,H,_,df⟩=>cx.uh iI ops (jM ops) ops.toList r ⟨env,H,[],df⟩
 | c,r,s=>match cx.code n c s with
  | none=>none
  | some (e,s)=>some (e,r,s)
def Li(P:aQ)(gl:Nat->Nat->b_)(uq:aB->Bool)(call:FuncId->aD->Hp->Option (Out×Hp))(n:Nat)(iI:b_)(f:FuncId)(args:aD)(H:Hp):Option (Bool×Hp) :=
 match H with
 | ⟨bs,es⟩ =>
  match P.funcs[f]? with
  | none=>none
  | some fn=>match fn.body with
   | none=>none
   | some body =>
    wN bs.length λn0 =>
    fL (args++List.replicate (fn.ntmps - args.length) (.br [])) λenv =>
    match Cx.m9 { P,gl,call,uq } n iI body false ⟨env,⟨bs,[]⟩,[],[]⟩ with
    | some (.normal,r,⟨env,H,_,[]⟩)|some (.ret,r,⟨env,H,_,[]⟩)=>match zx P H env fn.results.toList with
     | none=>none
     | some _=>Ph n0 es 0 H λH=>some (r,H)
    | _=>none
def vl(call:b_->FuncId->aD->Hp->Option (Bool×Hp)):b_->bP->Hp->Option (b_×Hp)
 | iI,[],H=>some (iI,H)
 | iI,(.fn (.func f) first cap,args)::ds,H=>fL ((first++args++cap).map aV) λargs=>match call iI f args H with
  | none=>none
  | some (true,H)=>vl call none ds H
  | some (false,H)=>vl call iI ds H
 | _,_,_=>none
def Tk(call:b_->FuncId->aD->Hp->Option (Bool×Hp))(iI:b_)(ds:bP)(H:Hp):Option (b_×Hp):=vl call iI ds H
def Ba:Ex->Option b_
 | .normal|.ret=>some none
 | .p9 v=>some (some v)
 | _=>none
structure Gl where
 g:Nat->Nat->b_
 hk:FuncId->aD->b_:=λ_ _=>none
 uq:aB->Bool:=λ_=>false
 fA:Nat->FuncId->aD->Hp->Option (Out×Hp):=λ_ _ _ _=>none
instance : CoeFun Gl (λ_=>Nat->Nat->b_):=⟨Gl.g⟩
instance : Coe Gl (Nat->Nat->b_):=⟨Gl.g⟩
def zj(P:aQ)(gl:Gl):Nat->FuncId->aD->Hp->Option (Out×Hp)
 | 0,_,_,_=>none
 | n+1,f,args,⟨bs,es⟩ =>
  match gl.hk f args with
  | some v=>some (.ret v,⟨bs,es⟩)
  | none =>
  match gl.fA n f args ⟨bs,es⟩ with
  | some r=>some r
  | none =>
  match P.funcs[f]? with
  | none=>none
  | some fn=>match fn.body with
   | none=>none
   | some body =>
    wN bs.length λn0 =>
    fL (args++List.replicate (fn.ntmps - args.length) (.br [])) λenv =>
    match Cx.code { P,gl:=gl.g,call:=zj P gl n,uq:=gl.uq } n body ⟨env,⟨bs,[]⟩,[],[]⟩ with
    | none=>none
    | some (ex,⟨env,H,_,df⟩)=>match Ba ex with
     | none=>none
     | some iI=>match Tk (Li P gl.g gl.uq (zj P gl n) n) iI df H with
      | none=>none
      | some (some v,H)=>Ph n0 es v.top H λH=>some (.p9 v,H)
      | some (none,H)=>match zx P H env fn.results.toList with
       | none=>none
       | some vs=>fV (iY vs) λv=>Ph n0 es v.top H λH=>some (.ret v,H)
end
section
inductive Loc where
 |slot (d t:Nat)
 |cell (b off:Nat)
 |ret
 deriving DecidableEq
structure Ob where
 adr:Nat->Addr
 lo:Nat->Prop
instance : CoeFun Ob (λ_=>Nat->Addr):=⟨Ob.adr⟩
structure Gh where
 M:Nat->Nat->Option bt
 bO:Nat->Nat
 obj:Ob
 own:Nat->Option Loc
 lk:Nat->Nat->bt
 eY:Nat->Nat->Option bt
abbrev V.one(v:V):Bool:=Cv v
theorem zg{α:Type}:∀(l:List α)(n:Nat),nth l n=l[n]?
 | [],_=>by simp[nth]
 | _::_,0=>by simp[nth]
 | _::xs,n+1=>by simp[nth,zg xs n]
section force
variable{α β:Type}
theorem qA(n:Nat)(k:Nat->β):wN n k=k n:=by cases n<;>rfl
theorem znE(n:Int)(k:Int->β):VQ n k=k n:=by cases n<;>simp[VQ,qA]
theorem Bb:∀(l:bM)(k:bM->β),Te l k=k l
 | [],_=>rfl
 | x::xs,k=>by simp[Te,qA,Bb xs]
theorem eC:∀(l:List α)(k:List α->β),fL l k=k l
 | [],_=>rfl
 | x::xs,k=>by simp[fL,eC xs]
theorem zpj(v:V)(k:V->β):fC v k=k v:=by
 unfold fC;split<;>simp[znE,Bb,qA,eC]
theorem c_:∀(l:aD)(k:aD->β),A9 l k=k l
 | [],_=>rfl
 | x::xs,k=>by simp[A9,zpj,c_ xs]
theorem qp(v:V)(k:V->β):fV v k=k v:=by
 unfold fV;split<;>simp[c_,zpj]
theorem fm:∀(l:List α)(n:Nat)(v:α)(k:List α->β),JO l n v k=k (l.set n v)
 | [],_,_,_=>rfl
 | _::_,0,_,_=>rfl
 | x::xs,n+1,v,k=>by simp[JO,fm xs]
theorem qn(H:Hp)(b:aY)(k:Nat->Hp->β):xW H b k=k H.az.length (H.push b):=by
 cases H;simp[xW,qA,eC,Hp.push]
theorem jd(H:Hp)(b:Nat)(x:aY)(v:V)(k:Hp->β):Ff H b x v k=k ((H.set b x).bQ b v):=by
 cases H;simp only[Ff,fm,qA,Hp.set,Hp.bQ];split<;>rfl
theorem jN(env:aD)(dst:fJ)(v:V)(k:aD->β):Fg env dst v k=k (aq env dst v):=by
 cases dst<;>simp[Fg,aq,qp,fm]
end force
theorem zjb{P:aQ}{H:Hp}{a:aB}{v:V}(hv:∀b o l c,v≠.sr b o l c):Lb P H a v=some v:=by
 unfold Lb;split
 ·exact absurd rfl (hv _ _ _ _)
 ·rfl
theorem znF{P:aQ}{H:Hp}{a:aB}{sz:Nat}{xs:aD}{o:uN}:Lb P H a (.sl sz xs o)=some (.sl sz xs o):=zjb (by simp)
def zH(xs:aD):aD:=xs.flatMap V.cells
def bytes(s:bM):ByteArray:=⟨(s.map UInt8.ofNat).toArray⟩
inductive aR(g:Gh):V->bt->Prop where
 |bool (b:Bool):aR g (.bool b) (.bool b)
 |int (k:IntKind) (n:Int):aR g (.int k n) (.int k n)
 |str {s:bM}:(∀b:Nat,b∈s->b<256)->aR g (.str s) (.string (bytes s))
 |fT:aR g .fT (.pointer none)
 |ptr (b off:Nat):aR g (.ptr b off) (.pointer (some ⟨g.bO b,off,none⟩))
 |eT (k off:Nat):aR g (.eT k off) (.pointer (some ⟨k,off,none⟩))
 |obj (k:Nat):aR g (.obj k) (.pointer (some (g.obj k)))
 |vp {cs:aD} {c o:Nat} (f:Nat->bt):(∀(j:Nat)(x:V),cs[j]?=some x->x.one=true)->(∀(j:Nat)(x:V),cs[j]?=some x->g.M c (o+j)=some (f j))->(∀(j:Nat)(x:V),cs[j]?=some x->aR g x (f j)) ->
   aR g (.vp cs) (.pointer (some ⟨c,o,none⟩))
 |aG:aR g .aG (.slice none 0 0)
 |sl {sz:Nat} {xs:aD} {ow:uN} {a:Option Addr} {cap c o:Nat} (f:Nat->bt):(∀x:V,x∈xs->x.cells.length=sz)->xs.length<=cap->(xs≠[]->a=some ⟨c,o,none⟩) ->
   (∀(j:Nat)(x:V),(zH xs)[j]?=some x->x.one=true)->(∀(j:Nat)(x:V),(zH xs)[j]?=some x->g.M c (o+j)=some (f j))->(∀(j:Nat)(x:V),(zH xs)[j]?=some x->aR g x (f j)) ->
   aR g (.sl sz xs ow) (.slice a xs.length cap)
 |sr {b off len cap:Nat}:len<=cap->aR g (.sr b off len cap) (.slice (some ⟨g.bO b,off,none⟩) len cap)
 |mw:aR g .mw (.map none)
 |map (b:Nat):aR g (.map b) (.map (some (g.bO b)))
 |pH:aR g .pH .nilFunc
 |fn {f:Fn} {as cs:aD} {fa fc:dM}:as.length=fa.size->cs.length=fc.size->(∀(j:Nat)(x:V)(v:bt),as[j]?=some x->fa[j]?=some v->aR g x v) ->
   (∀(j:Nat)(x:V)(v:bt),cs[j]?=some x->fc[j]?=some v->aR g x v)->aR g (.fn f as cs) (.func f fa fc)
 |bN:aR g .bN .nilIface
 |dF {t:aB} {v:V} {cv:bt}:aR g v cv->aR g (.dF t v) (.iface t cv)
 |agg {cs:aD} {arr:dM}:cs.length=arr.size->(∀(j:Nat)(x:V),cs[j]?=some x->x.one=true)->(∀(j:Nat)(x:V)(v:bt),cs[j]?=some x->arr[j]?=some v->aR g x v)->aR g (.agg cs) (.agg arr)
 |br {cs:aD} {arr:dM}:cs.length=arr.size->(∀(j:Nat)(x:V)(v:bt),cs[j]?=some x->arr[j]?=some v->aR g x v)->aR g (.br cs) (.tuple arr)
 |dB {b u len cap c o:Nat}:g.eY b u=some (.slice (some ⟨c,o,none⟩) len cap)->aR g (.dB b u len) (.slice (some ⟨c,o,none⟩) len cap)
 |gh {b u len cap c o:Nat} (k:Nat):g.eY b u=some (.slice (some ⟨c,o,none⟩) len cap)->aR g (.gh b u k) (.pointer (some ⟨c,o+k,none⟩))
 |dW (v:bt):aR g .dW v
theorem zn{x:V}:∀{cs:aD},x∈cs->x.top<=aI cs
 | c::cs,h=>by
  simp only[aI];rcases dG.1 h with rfl|h
  ·exact D2 _ _
  ·exact cN (zn h) (HV _ _)
theorem qK{n:Nat}:∀{cs:aD},(∀x∈cs,x.top<=n)->aI cs<=n
 | [],_=>ec _
 | c::cs,h=>by
  simp only[aI];exact uf.2 ⟨h c (eK ..),qK λx hx=>h x (dU _ hx)⟩
theorem Tm{x y:V}(h:y∈x.cells):y.top<=x.top:=by
 cases x<;>simp only[V.cells,oG] at h<;>try (subst h;exact dA _)
 simp only[V.top];exact zn h
theorem xX{xs:aD}{y:V}(h:y∈zH xs):y.top<=aI xs:=by
 obtain⟨x,hx,hy⟩:=List.mem_flatMap.1 h;exact cN (Tm hy) (zn hx)
theorem jl(v:V):(aV v).top=v.top:=by
 cases v<;>rfl
theorem eO:∀(cs:aD),aI (cs.map aV)=aI cs
 | []=>rfl
 | c::cs=>by simp[aI,jl,eO cs]
theorem VT(v:V):(aV v).one=v.one:=by cases v<;>rfl
theorem aR.aV{g:Gh}{v:V}{cv:bt}(h:aR g v cv):aR g (aV v) cv:=by
 cases h<;>first
  |constructor<;>assumption
  |(rename_i f h1 h2 h3 h4 h5 h6;exact .sl f h1 h2 h3 h4 h5 h6)
  |(rename_i f h1 h2 h3;exact .vp f h1 h2 h3)
structure Gh.Le(n:Nat)(g g':Gh):Prop where
 M:∀c o v,g.M c o=some v->g'.M c o=some v
 bO:∀b,b<n->g'.bO b=g.bO b
 obj:g'.obj=g.obj
 eY:∀b u v,b<n->g.eY b u=some v->g'.eY b u=some v
theorem Gh.Le.refl(n:Nat)(g:Gh):Gh.Le n g g:=⟨λ_ _ _ h=>h,λ_ _=>rfl,rfl,λ_ _ _ _ h=>h⟩
theorem Gh.Le.trans{n:Nat}{a b c:Gh}(h:Gh.Le n a b)(k:Gh.Le n b c):Gh.Le n a c :=
 ⟨λ_ _ _ e=>k.M _ _ _ (h.M _ _ _ e),λi hi=>(k.bO i hi).trans (h.bO i hi),k.obj.trans h.obj,λb u v hb e=>k.eY b u v hb (h.eY b u v hb e)⟩
theorem Gh.Le.mono{n m:Nat}{a b:Gh}(h:Gh.Le n a b)(hm:m<=n):Gh.Le m a b:=⟨h.M,λi hi=>h.bO i (uc hi hm),h.obj,λb u v hb e=>h.eY b u v (uc hb hm) e⟩
theorem zv{α:Type}{l:List α}{j:Nat}{x:α}(h:l[j]?=some x):x∈l:=nB h
theorem aR.le{n:Nat}{g g':Gh}(hg:Gh.Le n g g'){v:V}{cv:bt}(h:aR g v cv):v.top<=n->aR g' v cv:=by
 induction h with
 | bool b=>intro _;exact .bool b
 | int k m=>intro _;exact .int k m
 | str h=>intro _;exact .str h
 | fT=>intro _;exact .fT
 | ptr b off=>intro ht;simp only[V.top] at ht;rw[<- hg.bO b (by omega)];exact .ptr b off
 | eT k off=>intro _;exact .eT k off
 | obj k=>intro _;rw[<- hg.obj];exact .obj k
 | vp f h1 h2 _ ih=>intro ht;exact .vp f h1 (λj x hx=>hg.M _ _ _ (h2 j x hx)) λj x hx=>ih j x hx (cN (zn (zv hx)) ht)
 | aG=>intro _;exact .aG
 | sl f h1 h2 h3 h4 h5 _ ih=>intro ht;exact .sl f h1 h2 h3 h4 (λj x hx=>hg.M _ _ _ (h5 j x hx)) λj x hx=>ih j x hx (cN (xX (zv hx)) ht)
 | sr hl=>intro ht;simp only[V.top] at ht;rw[<- hg.bO _ (by omega)];exact .sr hl
 | mw=>intro _;exact .mw
 | map b=>intro ht;simp only[V.top] at ht;rw[<- hg.bO b (by omega)];exact .map b
 | pH=>intro _;exact .pH
 | fn h1 h2 _ _ iha ihc =>
  intro ht;simp only[V.top] at ht;have:=uf.1 ht;exact .fn h1 h2 (λj x v hx hv=>iha j x v hx hv (cN (zn (zv hx)) this.1)) (λj x v hx hv=>ihc j x v hx hv (cN (zn (zv hx)) this.2))
 | bN=>intro _;exact .bN
 | dF _ ih=>intro ht;exact .dF (ih ht)
 | agg h1 h2 _ ih=>intro ht;exact .agg h1 h2 λj x v hx hv=>ih j x v hx hv (cN (zn (zv hx)) ht)
 | br h1 _ ih=>intro ht;exact .br h1 λj x v hx hv=>ih j x v hx hv (cN (zn (zv hx)) ht)
 | dB h=>intro ht;simp only[V.top] at ht;exact .dB (hg.eY _ _ _ (by omega) h)
 | gh k h=>intro ht;simp only[V.top] at ht;exact .gh k (hg.eY _ _ _ (by omega) h)
 | dW v=>intro _;exact .dW v
theorem aR.nT{g:Gh}{v:V}{cv:bt}(h:aR g v cv)(h1:v.one=true):cv.oneCell'=true:=by
 cases h<;>first|rfl|(simp[V.one,Cv] at h1)
def rowAt(w:aP)(e sz:Nat)(cv:bt)(n:Nat)(xs:dw):Prop :=
 xs.length=n * sz/\((cv=.slice none 0 0/\n=0)\/∃c o cap cur,cv=.slice (some ⟨c,o,none⟩) n cap/\w.heap[c]?=some (.cells cur e (0,0))/\n<=cap/\cap<=maxLen/\(cap=0\/cur.size=o+cap * sz)/\(cur.toList.drop o).take (n * sz)=xs)
def pJ(sz len:Nat)(M:Nat->Option bt):bt->Prop
 | .slice (some a) _ cap=>∀j,a.off+len * sz<=j->j<a.off+cap * sz->M j=none
 | _=>True
def fO(g:Gh)(n:Nat)(w:aP)(l:Loc)(e sz len:Nat)(cv:bt):Prop :=
 ∃xs,rowAt w e sz cv len xs/\∀c,cv.ownBlock=some c->g.own c=some l/\pJ sz len (g.M c) cv/\(∀b,b<n->g.bO b≠c)
theorem pJ.eq{sz len:Nat}{M M':Nat->Option bt}{cv:bt}(h:pJ sz len M cv)(hm:∀j,M' j=M j):pJ sz len M' cv:=by
 unfold pJ at *;split
 next a _ cap=>intro j h1 h2;rw[hm];exact h j h1 h2
 ·trivial
theorem zgF{w:aP}{e sz n:Nat}{cv:bt}{xs:dw}(h:w.ownsRow 0 e sz cv n xs):rowAt w e sz cv n xs:=by
 obtain⟨h1,h|⟨c,cap,cur,h2,_,h3,h4,h5,h6,h7⟩⟩:=h
 ·exact⟨h1,.inl h⟩
 ·exact⟨h1,.inr ⟨c,0,cap,cur,h2,h3,h4,h5,.inr (by omega),by rw[mu];exact h7⟩⟩
theorem rowAt.lt{w:aP}{e sz n:Nat}{cv:bt}{xs:dw}(h:rowAt w e sz cv n xs):∀c,cv.ownBlock=some c->c<w.heap.size:=by
 obtain⟨_,⟨rfl,_⟩|⟨c,o,cap,cur,rfl,h3,_⟩⟩:=h
 ·intro c hc;cases hc
 ·intro c' hc;cases hc;exact(tK.1 h3).1
theorem rowAt.cells{w:aP}{e sz n:Nat}{c o cap:Nat}{xs:dw}(h:rowAt w e sz (.slice (some ⟨c,o,none⟩) n cap) n xs):∀j u,xs[j]?=some u->w.cell? ⟨c,o+j,none⟩=some u:=by
 obtain⟨_,⟨h,_⟩|⟨c,o,cap,cur,h,h3,_,_,_,rfl⟩⟩:=h
 ·cases h
 ·cases h;intro j u hu;rw[cell_of_row w _ _ cur _ _ h3];rw[AK] at hu;split at hu
  ·rw[HT] at hu;simpa using hu
  ·cases hu
def cL(g:Gh)(n:Nat)(w:aP)(l:Loc):V->bt->Prop
 | .sl sz xs (.yes e),cv=>fO g n w l e sz xs.length cv
 | _,_=>True
def Pj(g:Gh)(b off:Nat):V->bt->Prop
 | .sl _ _ .lock,cv=>cv=g.lk b off
 | _,_=>True
def aY.top:aY->Nat
 | .cells cs _=>aI cs
 | .map es=>max (aI (es.map (·.1))) (aI (es.map (·.2)))
 | .iter _ _=>0
 | .ul _ _ cs _=>aI cs
structure Ia(g:Gh)(n:Nat)(w:aP)(b eI sz:Nat)(cs:aD)(e:aB)(c len cap:Nat)(vs:dw):Prop where
 eY:g.eY b eI=some (.slice (some ⟨c,0,none⟩) len cap)
 pos:0<sz
 row:w.ownsRow 0 e sz (.slice (some ⟨c,0,none⟩) len cap) len vs
 Cw:c=g.bO b\/g.own c=some (.cell b 0)
 M:∀o,g.M c o=none
 others:∀b',b'<n->b'≠b->g.bO b'≠c
 len:cs.length=vs.length
 cells:∀(j:Nat)(x:V)(v:bt),cs[j]?=some x->vs[j]?=some v->x.one=true/\aR g x v
 fresh:∀u,eI<u->g.eY b u=none
def fU(g:Gh)(n:Nat)(w:aP)(b:Nat):aY->Prop
 | .cells cs t=>∃arr,w.heap[g.bO b]?=some (.cells arr t (0,0))/\cs.length=arr.size /\
   ∀(j:Nat)(x:V)(v:bt),cs[j]?=some x->arr[j]?=some v->x.one=true/\aR g x v/\cL g n w (.cell b j) x v/\Pj g b j x v
 | .map es=>∃en ck,w.heap[g.bO b]?=some (.map en ck)/\es.length=en.size/\∀(j:Nat)(x:V×V)(me:MapEntry),es[j]?=some x->en[j]?=some me->aR g x.1 me.key/\aR g x.2 me.val
 | .iter s pos=>w.heap[g.bO b]?=some (.stringIter (bytes s) pos)/\∀b:Nat,b∈s->b<256
 | .ul eI sz cs e=>∃c len cap vs,Ia g n w b eI sz cs e c len cap vs
structure rj(g:Gh)(bs:List aY)(w:aP):Prop where
 mem:∀c o v,g.M c o=some v->w.cell? ⟨c,o,none⟩=some v
 lt:∀b,b<bs.length->g.bO b<w.heap.size
 inj:∀b b',b<bs.length->b'<bs.length->g.bO b=g.bO b'->b=b'
 apart:∀b,b<bs.length->∀o,g.M (g.bO b) o=none
 eD:∀c l,g.own c=some l->c<w.heap.size
 dN:∀b,b<bs.length->g.own (g.bO b)=none
 ok:∀(b:Nat)(x:aY),bs[b]?=some x->fU g bs.length w b x
 aI:∀(b:Nat)(x:aY),bs[b]?=some x->x.top<=bs.length
 laid:∀c,g.obj.lo c->(∃cs t,w.heap[c]?=some (.cells cs t (0,0)))/\g.own c=none/\∀b,b<bs.length->g.bO b≠c
def si(d n:Nat)(g:Gh)(w:aP)(c:Nat):Prop :=
 c<w.heap.size/\(∀b,b<n->g.bO b≠c)/\(g.own c=none\/∃d' t,g.own c=some (.slot d' t)/\d<d')
def jo(bs:List aY)(b off:Nat):Prop:=∃cs t sz xs,bs[b]?=some (.cells cs t)/\cs[off]?=some (.sl sz xs .lock)
structure Fr(d:Nat)(bs:List aY)(g:Gh)(w:aP)(g':Gh)(w':aP):Prop where
 le:Gh.Le bs.length g g'
 heap:∀c,si d bs.length g w c->w'.heap[c]?=w.heap[c]?
 own:∀c,si d bs.length g w c->g'.own c=g.own c
 M:∀c,si d bs.length g w c->∀o,g'.M c o=g.M c o
 size:w.heap.size<=w'.heap.size
 lk:∀b off,jo bs b off->g'.lk b off=g.lk b off
 os:w'.os=w.os
 tape:w'.tape=w.tape
 output:w'.output=w.output
theorem Fr.refl(d:Nat)(bs:List aY)(g:Gh)(w:aP):Fr d bs g w g w :=
 ⟨.refl _ _,λ_ _=>rfl,λ_ _=>rfl,λ_ _ _=>rfl,dA _,λ_ _ _=>rfl,rfl,rfl,rfl⟩
theorem Fr.trans{d:Nat}{EK bs:List aY}{g0 g g':Gh}{w0 w w':aP}(h1:Fr d EK g0 w0 g w)(hlen:EK.length<=bs.length)
  (dX:∀b,EK.length<=b->b<bs.length->w0.heap.size<=g.bO b) (q_:∀b off,jo EK b off->jo bs b off) (h2:Fr d bs g w g' w'):Fr d EK g0 w0 g' w':=by
 have hp:∀c,si d EK.length g0 w0 c->si d bs.length g w c:=λc hc=>by
  refine⟨uc hc.1 h1.size,λb hb e=>?_,by rw[h1.own c hc];exact hc.2.2⟩
  rcases eM b EK.length with bR|AN
  ·exact hc.2.1 b bR ((h1.le.bO b bR).symm.trans e)
  ·have:=dX b AN hb;have:=hc.1;omega
 exact⟨h1.le.trans (h2.le.mono hlen),λc hc=>(h2.heap c (hp c hc)).trans (h1.heap c hc),λc hc=>(h2.own c (hp c hc)).trans (h1.own c hc),
  λc hc o=>(h2.M c (hp c hc) o).trans (h1.M c hc o),cN h1.size h2.size,λb off hl=>(h2.lk b off (q_ b off hl)).trans (h1.lk b off hl),
  h2.os.trans h1.os,h2.tape.trans h1.tape,h2.output.trans h1.output⟩
def Pk(EK:List aY)(H:Hp):Prop :=
 ∀(b:Nat)(x:aY),H.az[b]?=some x->x.top<=b+1\/(∃m,(b,m)∈H.bG/\x.top<=m)\/∃y:aY,EK[b]?=some y/\x.top<=y.top
structure Lj where
 t:Nat
 v:V
 cv:bt
 at_:Option (Nat×Nat)
structure dR where
 d:Nat
 bs:List aY
 g:Gh
 w:aP
 cR:List Lj
def D6(B:dR)(b off:Nat):Prop:=jo B.bs b off\/∃q∈B.cR,q.at_=some (b,off)
def Df(g:Gh)(n:Nat)(x:V×aD)(d:Deferred):Prop :=
 ∃(f:FuncId)(as cs:aD)(fc:dM),x.1=.fn (.func f) as cs/\d.target=.fn (.func f) fc/\(as++x.2).length=d.args.size/\cs.length=fc.size/\(∀(j:Nat)(y:V)(v:bt),(as++x.2)[j]?=some y->d.args[j]?=some v->aR g y v) /\
  (∀(j:Nat)(y:V)(v:bt),cs[j]?=some y->fc[j]?=some v->aR g y v)/\aI (as++x.2)<=n/\aI cs<=n
def Ad(g:Gh)(n:Nat)(x:V×aD)(d:Deferred):Prop:=Df g n x d\/(x=(.fT,[])/\∃D,d={ target:=.collected D,args:=#[] })
def zrn(g:Gh)(n:Nat)(w:aP)(D:Nat):Prop:=w.heap[D]?=some (.deferred (some []))/\(∀b,b<n->g.bO b≠D)/\g.own D=none
structure Rel(B:dR)(g:Gh)(s:St)(a:Act)(w:aP):Prop where
 cX:rj g s.H.az w
 len:s.env.length=a.tmps.size
 env:∀(t:Nat)(x:V)(v:bt),s.env[t]?=some x->a.tmps[t]?=some v->aR g x v/\cL g s.H.az.length w (.slot B.d t) x v
 dO:∀(t:Nat)(x:V),s.env[t]?=some x->x.top<=s.H.az.length
 n0:B.bs.length<=s.H.az.length
 bG:Pk B.bs s.H
 dY:∀b,B.bs.length<=b->b<s.H.az.length->B.w.heap.size<=g.bO b
 fr:Fr B.d B.bs B.g B.w g w
 lP:∀b off,D6 B b off->jo s.H.az b off
 ou:∀p∈s.lk,¬D6 B p.1 p.2
 cR:∀p∈B.cR,s.env.length<p.t/\aR g p.v p.cv/\cL g s.H.az.length w (.slot B.d p.t) p.v p.cv/\p.v.top<=s.H.az.length/\∀b off,p.at_=some (b,off)->g.lk b off=p.cv
 eE:s.defers.length=a.defers.length
 defers:∀(j:Nat)(x:V×aD)(d:Deferred),s.defers[j]?=some x->a.defers[j]?=some d->Ad g s.H.az.length x d
 marks:∀d∈a.defers,∀D,d.target=.collected D->B.w.heap.size<=D/\zrn g s.H.az.length w D
 nG:a.defers.Pairwise λd d'=>∀D,d.target=.collected D->d'.target≠.collected D
structure gK(d:Nat)(b0:Option Nat)(l0:Option Loc)(n:Nat)(g:Gh)(w:aP)(g':Gh)(w':aP):Prop where
 le:Gh.Le n g g'
 heap:∀c,c<w.heap.size->(∀b,b0=some b->g.bO b≠c)->(∀l,l0=some l->g.own c≠some l)->w'.heap[c]?=w.heap[c]?
 own:∀c,c<w.heap.size->(∀l,l0=some l->g.own c≠some l)->g'.own c=g.own c
 M:∀c,c<w.heap.size->(∀l,l0=some l->g.own c≠some l)->∀o,g'.M c o=g.M c o
 size:w.heap.size<=w'.heap.size
 lk:∀b off,(∀l,l0=some l->l≠.cell b off)->g'.lk b off=g.lk b off
 Pm:∀l,l0=some l->(∃t,l=.slot d t)\/∃b j,l=.cell b j/\b0=some b
 D7:∀b,b0=some b->b<n
 eY:∀b u,b<n->b0≠some b->g'.eY b u=g.eY b u
 os:w'.os=w.os
 tape:w'.tape=w.tape
 output:w'.output=w.output
theorem zc3{w w':aP}{base e sz:Nat}{cv:bt}{n:Nat}{xs:dw}(h:w.ownsRow base e sz cv n xs)(hh:∀c,cv.ownBlock=some c->w'.heap[c]?=w.heap[c]?) :
  w'.ownsRow base e sz cv n xs:=by
 refine⟨h.1,h.2.imp id ?_⟩;rintro⟨c,cap,cur,rfl,hb,hc,r⟩;exact⟨c,cap,cur,rfl,hb,by rw[hh c rfl];exact hc,r⟩
theorem za6{w w':aP}{e sz:Nat}{cv:bt}{n:Nat}{xs:dw}(h:rowAt w e sz cv n xs)(hh:∀c,cv.ownBlock=some c->w'.heap[c]?=w.heap[c]?):rowAt w' e sz cv n xs:=by
 refine⟨h.1,h.2.imp id ?_⟩;rintro⟨c,o,cap,cur,rfl,hc,r⟩;exact⟨c,o,cap,cur,rfl,by rw[hh c rfl];exact hc,r⟩
theorem fO.lt{g:Gh}{n:Nat}{w:aP}{l:Loc}{e sz len:Nat}{cv:bt}(h:fO g n w l e sz len cv):∀c,cv.ownBlock=some c->c<w.heap.size:=by
 obtain⟨xs,ho,_⟩:=h;exact λc hc=>ho.lt c hc
def NS(g:Gh)(l0:Option Loc)(w:aP)(c:Nat):Prop:=w.heap.size<=c\/∃l,l0=some l/\g.own c=some l
theorem fO.nH{d:Nat}{b0:Option Nat}{l0:Option Loc}{n n':Nat}{g g':Gh}{w w':aP}(hs:gK d b0 l0 n g w g' w'){l:Loc}(hl:l0≠some l)
  (hn:∀b,n<=b->b<n'->NS g l0 w (g'.bO b)) {e sz len:Nat} {cv:bt} (h:fO g n w l e sz len cv):fO g' n' w' l e sz len cv:=by
 have bR:=h.lt;obtain⟨xs,ho,hc⟩:=h;have cH:∀c,cv.ownBlock=some c->∀l',l0=some l'->g.own c≠some l':=λc rM l' mT e=>by
  rw[(hc c rM).1] at e;cases e;exact hl mT
 refine⟨xs,za6 ho λc rM=>hs.heap c (bR c rM) (λb hb=>(hc c rM).2.2 b (hs.D7 b hb)) (cH c rM),λc rM=>⟨?_,?_,?_⟩⟩
 ·rw[hs.own c (bR c rM) (cH c rM)];exact(hc c rM).1
 ·exact(hc c rM).2.1.eq λo=>hs.M c (bR c rM) (cH c rM) o
 ·intro b hb e;rcases eM b n with h1|h1
  ·exact(hc c rM).2.2 b h1 ((hs.le.bO b h1).symm.trans e)
  ·have:=bR c rM;rcases hn b h1 hb with h2|⟨l',h2,h3⟩
   ·omega
   ·rw[e,(hc c rM).1] at h3;cases h3;exact hl h2
theorem fO.same{d:Nat}{b0:Option Nat}{l0:Option Loc}{n n':Nat}{g g':Gh}{w w':aP}(hs:gK d b0 l0 n g w g' w'){l:Loc}(hl:l0≠some l)
  (hn:∀b,n<=b->b<n'->w.heap.size<=g'.bO b) {e sz len:Nat} {cv:bt} (h:fO g n w l e sz len cv):fO g' n' w' l e sz len cv :=
 fO.nH hs hl (λb h1 h2=>.inl (hn b h1 h2)) h
theorem cL.nH{d:Nat}{b0:Option Nat}{l0:Option Loc}{n n':Nat}{g g':Gh}{w w':aP}(hs:gK d b0 l0 n g w g' w'){l:Loc}(hl:l0≠some l)
  (hn:∀b,n<=b->b<n'->NS g l0 w (g'.bO b)) {x:V} {cv:bt} (h:cL g n w l x cv):cL g' n' w' l x cv:=by
 unfold cL at *;split
 ·exact fO.nH hs hl hn h
 ·trivial
theorem cL.same{d:Nat}{b0:Option Nat}{l0:Option Loc}{n n':Nat}{g g':Gh}{w w':aP}(hs:gK d b0 l0 n g w g' w'){l:Loc}(hl:l0≠some l)
  (hn:∀b,n<=b->b<n'->w.heap.size<=g'.bO b) {x:V} {cv:bt} (h:cL g n w l x cv):cL g' n' w' l x cv :=
 cL.nH hs hl (λb h1 h2=>.inl (hn b h1 h2)) h
theorem vm(g:Gh)(n:Nat)(w:aP)(l:Loc)(x:V)(cv:bt):cL g n w l (aV x) cv:=by
 cases x<;>simp[aV,cL]
theorem fU.nH{d:Nat}{b0:Option Nat}{l0:Option Loc}{n n':Nat}{g g':Gh}{w w':aP}(hs:gK d b0 l0 n g w g' w'){b:Nat}(hb:b0≠some b)(NT:b<n)
  (bR:g.bO b<w.heap.size) (iB:g.own (g.bO b)=none) (Cy:∀b',b0=some b'->g.bO b'≠g.bO b)
  (hn:∀b,n<=b->b<n'->NS g l0 w (g'.bO b)) {x:aY} (dx:x.top<=n) (h:fU g n w b x):fU g' n' w' b x:=by
 have cH:∀l,l0=some l->g.own (g.bO b)≠some l:=by
  intro l _;rw[iB];simp
 have ov:w'.heap[g'.bO b]?=w.heap[g.bO b]?:=by
  rw[hs.le.bO b NT];exact hs.heap _ bR Cy cH
 have cU:∀j,l0≠some (.cell b j):=λj e=>by
  rcases hs.Pm _ e with⟨t,ht⟩|⟨b',j',he,cY⟩
  ·cases ht
  ·cases he;exact hb cY
 cases x with
 | cells cs t =>
  obtain⟨arr,ha,hl,hj⟩:=h;refine⟨arr,ov.trans ha,hl,λj x v hx hv=>?_⟩;obtain⟨h1,h2,h3,h4⟩:=hj j x v hx hv;have D8:x.top<=n:=cN (zn (zv hx)) dx;refine⟨h1,h2.le hs.le D8,cL.nH hs (cU j) hn h3,?_⟩;unfold Pj at *;split
  ·rw[hs.lk b j λl hl e=>cU j (e ▸ hl)];exact h4
  ·trivial
 | map es =>
  obtain⟨en,ck,ha,hl,hj⟩:=h;have ht:=uf.1 (show max (aI (es.map (·.1))) (aI (es.map (·.2)))<=n from dx);refine⟨en,ck,ov.trans ha,hl,λj x me hx Ll=>?_⟩;obtain⟨h1,h2⟩:=hj j x me hx Ll;exact⟨h1.le hs.le (cN (zn (HQ (f:=(·.1)) (zv hx))) ht.1),h2.le hs.le (cN (zn (HQ (f:=(·.2)) (zv hx))) ht.2)⟩
 | iter s pos=>exact⟨ov.trans h.1,h.2⟩
 | ul eI sz cs e =>
  obtain⟨c,len,cap,vs,hu⟩:=h;have bR:c<w.heap.size:=(hu.row.lt c rfl).2;have eH:∀l,l0=some l->g.own c≠some l:=λl mT e'=>by
   rcases hu.Cw with h1|h1
   ·exact cH l mT (h1 ▸ e')
   ·rw[h1] at e';cases e';exact cU 0 mT
  have hnb:∀b',b0=some b'->g.bO b'≠c:=λb' cY=>hu.others b' (hs.D7 b' cY) λe'=>hb (e' ▸ cY);refine⟨c,len,cap,vs,?_,hu.pos,zc3 hu.row λk hk=>?_,?_,λo=>?_,λb' cY VU e'=>?_,hu.len,λj x v hx hv=>?_,λu hlu=>?_⟩
  ·rw[hs.eY b eI NT hb];exact hu.eY
  ·cases hk;exact hs.heap c bR hnb eH
  ·rw[hs.le.bO b NT,hs.own c bR eH];exact hu.Cw
  ·rw[hs.M c bR eH];exact hu.M o
  ·rcases eM b' n with h1|h1
   ·exact hu.others b' h1 VU ((hs.le.bO b' h1).symm.trans e')
   ·rcases hn b' h1 cY with h2|⟨l,h2,h3⟩
    ·omega
    ·exact eH l h2 (e' ▸ h3)
  ·obtain⟨h1,h2⟩:=hu.cells j x v hx hv;exact⟨h1,h2.le hs.le (cN (zn (zv hx)) dx)⟩
  ·rw[hs.eY b u NT hb];exact hu.fresh u hlu
theorem fU.same{d:Nat}{b0:Option Nat}{l0:Option Loc}{n n':Nat}{g g':Gh}{w w':aP}(hs:gK d b0 l0 n g w g' w'){b:Nat}(hb:b0≠some b)(NT:b<n)
  (bR:g.bO b<w.heap.size) (iB:g.own (g.bO b)=none) (Cy:∀b',b0=some b'->g.bO b'≠g.bO b)
  (hn:∀b,n<=b->b<n'->w.heap.size<=g'.bO b) {x:aY} (dx:x.top<=n) (h:fU g n w b x):fU g' n' w' b x :=
 fU.nH hs hb NT bR iB Cy (λb h1 h2=>.inl (hn b h1 h2)) dx h
theorem gK.fr{d:Nat}{b0:Option Nat}{l0:Option Loc}{bs:List aY}{g g':Gh}{w w':aP}(hs:gK d b0 l0 bs.length g w g' w')(hl:∀b j,l0=some (.cell b j)->¬jo bs b j) :
  Fr d bs g w g' w':=by
 have cH:∀c,si d bs.length g w c->∀l,l0=some l->g.own c≠some l:=by
  intro c hc l mT e;rcases hc.2.2 with h0|⟨d',t,h1,hd⟩
  ·rw[h0] at e;cases e
  ·rw[h1] at e;cases e;rcases hs.Pm _ mT with⟨t',ht⟩|⟨b,j,hj,_⟩
   ·cases ht;omega
   ·cases hj
 exact⟨hs.le,λc hc=>hs.heap c hc.1 (λb hb=>hc.2.1 b (hs.D7 b hb)) (cH c hc),λc hc=>hs.own c hc.1 (cH c hc),λc hc=>hs.M c hc.1 (cH c hc),hs.size,
  λb off q_=>hs.lk b off λl mT e=>hl b off (e ▸ mT) q_,hs.os,hs.tape,hs.output⟩
theorem Df.le{n n':Nat}{g g':Gh}(hg:Gh.Le n g g')(hn:n<=n'){x:V×aD}{d:Deferred}(h:Df g n x d):Df g' n' x d:=by
 obtain⟨f,as,cs,fc,h1,h2,h3,h4,h5,h6,h7,h8⟩:=h
 exact⟨f,as,cs,fc,h1,h2,h3,h4,λj y v hy hv=>(h5 j y v hy hv).le hg (cN (zn (zv hy)) h7),λj y v hy hv=>(h6 j y v hy hv).le hg (cN (zn (zv hy)) h8),
  cN h7 hn,cN h8 hn⟩
theorem Ad.le{n n':Nat}{g g':Gh}(hg:Gh.Le n g g')(hn:n<=n'){x:V×aD}{d:Deferred}(h:Ad g n x d):Ad g' n' x d:=h.imp (λh=>h.le hg hn) id
theorem Rel.Dg{B:dR}{g:Gh}{s:St}{a:Act}{w:aP}(h:Rel B g s a w){b0:Option Nat}{l0:Option Loc}{g':Gh}{w':aP}(hs:gK B.d b0 l0 s.H.az.length g w g' w'){s':St}
  (hlen:s.H.az.length<=s'.H.az.length)
  (hold:∀b,b<s.H.az.length->b0≠some b->s'.H.az[b]?=s.H.az[b]?)
  (Ib:∀(b:Nat)(x:aY),(b0=some b\/s.H.az.length<=b)->s'.H.az[b]?=some x->fU g' s'.H.az.length w' b x/\x.top<=s'.H.az.length)
  (dX:∀b,s.H.az.length<=b->b<s'.H.az.length->(NS g l0 w (g'.bO b)/\B.w.heap.size<=g'.bO b)/\g'.bO b<w'.heap.size/\g'.own (g'.bO b)=none/\∀o,g'.M (g'.bO b) o=none)
  (Cy:∀b b',s.H.az.length<=b->b<s'.H.az.length->s.H.az.length<=b'->b'<s'.H.az.length->g'.bO b=g'.bO b'->b=b')
  (dI:∀c o v,g'.M c o=some v->w'.cell? ⟨c,o,none⟩=some v)
  (sK:∀c l,g'.own c=some l->c<w'.heap.size)
  (Lm:∀b j,l0=some (.cell b j)->¬jo s.H.az b j)
  (Dh:s'.env.length=s.env.length) (D9:s'.defers=s.defers)
  (iZ:∀(t:Nat)(x:V),s'.env[t]?=some x->∃y,s.env[t]?=some y/\(x=y/\l0≠some (.slot B.d t)\/x=aV y))
  (Cz:Pk B.bs s'.H) (D_:∀b off,D6 B b off->jo s'.H.az b off) (Ln:∀p∈s'.lk,¬D6 B p.1 p.2) (sL:∀t,l0=some (.slot B.d t)->∀p∈B.cR,p.t≠t):Rel B g' s' a w':=by
 have hn:∀b,s.H.az.length<=b->b<s'.H.az.length->NS g l0 w (g'.bO b):=λb h1 h2=>(dX b h1 h2).1.1;have Ae:∀b,s.H.az.length<=b->b<s'.H.az.length->∀c,c<w.heap.size->(∀l,l0=some l->g.own c≠some l)->g'.bO b≠c:=λb h1 h2 c h3 h4 e=>by
  rcases hn b h1 h2 with h5|⟨l,h5,h6⟩
  ·omega
  ·exact h4 l h5 (e ▸ h6)
 have cH:∀b,b<s.H.az.length->∀l,l0=some l->g.own (g.bO b)≠some l:=λb hb l _=>by rw[h.cX.dN b hb];simp
 have n_:∀b,b<s.H.az.length->g'.bO b=g.bO b:=λb hb=>hs.le.bO b hb;refine { cX:=?_,len:=Dh.trans h.len,env:=?_,dO:=?_,n0:=cN h.n0 hlen,bG:=Cz,dY:=?_,fr:=?_,lP:=D_,ou:=Ln,cR:=?_,eE:=by rw[D9];exact h.eE,defers:=?_,marks:=λd hd D hD=>?_,nG:=h.nG }
 ·refine { mem:=dI,lt:=?_,inj:=?_,apart:=?_,eD:=sK,dN:=?_,ok:=?_,aI:=?_,laid:=?_ }
  ·intro b hb;rcases eM b s.H.az.length with h1|h1
   ·rw[n_ b h1];exact uc (h.cX.lt b h1) hs.size
   ·exact(dX b h1 hb).2.1
  ·intro b b' hb cY e;rcases eM b s.H.az.length with h1|h1<;>rcases eM b' s.H.az.length with h2|h2
   ·rw[n_ b h1,n_ b' h2] at e;exact h.cX.inj b b' h1 h2 e
   ·rw[n_ b h1] at e;exact absurd e.symm (Ae b' h2 cY _ (h.cX.lt b h1) (cH b h1))
   ·rw[n_ b' h2] at e;exact absurd e (Ae b h1 hb _ (h.cX.lt b' h2) (cH b' h2))
   ·exact Cy b b' h1 hb h2 cY e
  ·intro b hb o;rcases eM b s.H.az.length with h1|h1
   ·rw[n_ b h1,hs.M _ (h.cX.lt b h1) (cH b h1)];exact h.cX.apart b h1 o
   ·exact(dX b h1 hb).2.2.2 o
  ·intro b hb;rcases eM b s.H.az.length with h1|h1
   ·rw[n_ b h1,hs.own _ (h.cX.lt b h1) (cH b h1)];exact h.cX.dN b h1
   ·exact(dX b h1 hb).2.2.1
  ·intro b x hx
   by_cases hc:b0=some b\/s.H.az.length<=b
   ·exact(Ib b x hc hx).1
   ·have h1:b<s.H.az.length:=by omega
    have h2:b0≠some b:=λe=>hc (.inl e);rw[hold b h1 h2] at hx;exact fU.nH hs h2 h1 (h.cX.lt b h1) (h.cX.dN b h1) (λb' cY e=>h2 (by rw[cY,h.cX.inj b' b (hs.D7 b' cY) h1 e])) hn (h.cX.aI b x hx) (h.cX.ok b x hx)
  ·intro b x hx
   by_cases hc:b0=some b\/s.H.az.length<=b
   ·exact(Ib b x hc hx).2
   ·have h1:b<s.H.az.length:=by omega
    rw[hold b h1 (λe=>hc (.inl e))] at hx;exact cN (h.cX.aI b x hx) hlen
  ·intro c hc;rw[hs.le.obj] at hc;obtain⟨⟨cs,t,h1⟩,h2,h3⟩:=h.cX.laid c hc;have bR:c<w.heap.size:=(tK.1 h1).1;have eH:∀l,l0=some l->g.own c≠some l:=λl _=>by rw[h2];simp
   refine⟨⟨cs,t,by rw[hs.heap c bR (λb hb=>h3 b (hs.D7 b hb)) eH];exact h1⟩,by rw[hs.own c bR eH];exact h2,λb hb e=>?_⟩
   rcases eM b s.H.az.length with h4|h4
   ·rw[n_ b h4] at e;exact h3 b h4 e
   ·exact Ae b h4 hb c bR eH e
 ·intro t x v hx hv;obtain⟨y,hy,Ic⟩:=iZ t x hx;obtain⟨h1,h2⟩:=h.env t y v hy hv;have h3:=h.dO t y hy;rcases Ic with⟨rfl,hl⟩|rfl
  ·exact⟨h1.le hs.le h3,cL.nH hs hl hn h2⟩
  ·exact⟨(h1.le hs.le h3).aV,vm _ _ _ _ _ _⟩
 ·intro t x hx;obtain⟨y,hy,Ic⟩:=iZ t x hx;have h3:=h.dO t y hy;rcases Ic with⟨rfl,_⟩|rfl
  ·exact cN h3 hlen
  ·rw[jl];exact cN h3 hlen
 ·intro b h1 h2;rcases eM b s.H.az.length with h3|h3
  ·rw[n_ b h3];exact h.dY b h1 h3
  ·exact(dX b h3 h2).1.2
 ·exact h.fr.trans h.n0 h.dY (λb off hl=>h.lP b off (.inl hl)) (hs.fr Lm)
 ·intro p hp;obtain⟨p1,p2,p3,p4,p5⟩:=h.cR p hp;refine⟨by rw[Dh];exact p1,p2.le hs.le p4,cL.nH hs (λe=>?_) hn p3,cN p4 hlen,λb off e=>?_⟩
  ·exact sL _ e p hp rfl
  ·rw[hs.lk b off λl hl e'=>Lm b off (e' ▸ hl) (h.lP b off (.inr ⟨p,hp,e⟩))];exact p5 b off e
 ·intro j x d hx hd;rw[D9] at hx;exact(h.defers j x d hx hd).le hs.le hlen
 ·obtain⟨h0,h1,h2,h3⟩:=h.marks d hd D hD;have bR:D<w.heap.size:=(tK.1 h1).1;have eH:∀l,l0=some l->g.own D≠some l:=λl _=>by rw[h3];simp
  refine⟨h0,by rw[hs.heap D bR (λb hb=>h2 b (hs.D7 b hb)) eH];exact h1,λb hb e=>?_,by rw[hs.own D bR eH];exact h3⟩
  rcases eM b s.H.az.length with h4|h4
  ·rw[n_ b h4] at e;exact h2 b h4 e
  ·exact Ae b h4 hb D bR eH e
theorem Rel.i_{B:dR}{g:Gh}{s:St}{a:Act}{w:aP}(h:Rel B g s a w){b0:Option Nat}{l0:Option Loc}{g':Gh}{w':aP}(hs:gK B.d b0 l0 s.H.az.length g w g' w'){s':St}
  (hlen:s.H.az.length<=s'.H.az.length)
  (hold:∀b,b<s.H.az.length->b0≠some b->s'.H.az[b]?=s.H.az[b]?)
  (Ib:∀(b:Nat)(x:aY),(b0=some b\/s.H.az.length<=b)->s'.H.az[b]?=some x->fU g' s'.H.az.length w' b x/\x.top<=s'.H.az.length)
  (dX:∀b,s.H.az.length<=b->b<s'.H.az.length->w.heap.size<=g'.bO b/\g'.bO b<w'.heap.size/\g'.own (g'.bO b)=none/\∀o,g'.M (g'.bO b) o=none)
  (Cy:∀b b',s.H.az.length<=b->b<s'.H.az.length->s.H.az.length<=b'->b'<s'.H.az.length->g'.bO b=g'.bO b'->b=b')
  (dI:∀c o v,g'.M c o=some v->w'.cell? ⟨c,o,none⟩=some v)
  (sK:∀c l,g'.own c=some l->c<w'.heap.size)
  (Lm:∀b j,l0=some (.cell b j)->¬jo s.H.az b j)
  (Dh:s'.env.length=s.env.length) (D9:s'.defers=s.defers)
  (iZ:∀(t:Nat)(x:V),s'.env[t]?=some x->∃y,s.env[t]?=some y/\(x=y/\l0≠some (.slot B.d t)\/x=aV y))
  (Cz:Pk B.bs s'.H) (D_:∀b off,D6 B b off->jo s'.H.az b off) (Ln:∀p∈s'.lk,¬D6 B p.1 p.2) (sL:∀t,l0=some (.slot B.d t)->t<=s.env.length):Rel B g' s' a w' :=
 h.Dg hs hlen hold Ib (λb h1 h2=>⟨⟨.inl (dX b h1 h2).1,cN h.fr.size (dX b h1 h2).1⟩,(dX b h1 h2).2⟩) Cy dI sK Lm Dh D9 iZ Cz D_ Ln
  λt e p hp e'=>by have:=sL t e;have:=(h.cR p hp).1;omega
end
section
mutual
theorem VV(g:Gh):∀(v:bt)(x:V),aj v=some x->aR g x v/\x.top=0
 | .bool b,x,h=>by simp only[aj,bq] at h;subst h;exact⟨.bool b,rfl⟩
 | .int k n,x,h=>by simp only[aj,bq] at h;subst h;exact⟨.int k n,rfl⟩
 | .float _ _,x,h=>by simp[aj] at h
 | .complex _ _ _,x,h=>by simp[aj] at h
 | .string s,x,h=>by
  simp only[aj,bq] at h;subst h;have e:s=bytes (s.data.toList.map UInt8.toNat):=by
   cases s;simp[bytes,Function.comp_def]
  refine⟨?_,rfl⟩
  conv=>rhs;rw[e]
  exact .str λb hb=>by
   obtain⟨c,_,rfl⟩:=mg.1 hb;exact c.toNat_lt
 | .pointer a,x,h=>by
  cases a with
  | none=>simp only[aj,bq] at h;subst h;exact⟨.fT,rfl⟩
  | some _=>simp[aj] at h
 | .slice a n c,x,h=>by
  unfold aj at h;split at h<;>first|(rename_i e;cases e;done)|skip
  all_goals first
   |(simp only[bq] at h;subst h;rename_i e;cases e;first|exact⟨.aG,rfl⟩)
   |(cases h;done)
   |(rename_i e;cases e)
 | .map r,x,h=>by
  cases r with
  | none=>simp only[aj,bq] at h;subst h;exact⟨.mw,rfl⟩
  | some _=>simp[aj] at h
 | .chan _,x,h=>by simp[aj] at h
 | .func f ⟨as⟩ ⟨cs⟩,x,h=>by
  cases as with
  | nil=>cases cs with
   | nil =>
    simp only[aj,bq] at h;subst h;exact⟨.fn rfl rfl (λj x v hx=>by simp at hx) (λj x v hx=>by simp at hx),rfl⟩
   | cons _ _=>simp[aj] at h
  | cons _ _=>simp[aj] at h
 | .nilFunc,x,h=>by simp only[aj,bq] at h;subst h;exact⟨.pH,rfl⟩
 | .iface _ _,x,h=>by simp[aj] at h
 | .nilIface,x,h=>by simp only[aj,bq] at h;subst h;exact⟨.bN,rfl⟩
 | .agg ⟨cs⟩,x,h=>by
  simp only[aj,eF] at h;obtain⟨l,hl,h⟩:=h;split at h
  ·rename_i di;simp only[bq] at h;subst h;obtain⟨h1,h2,h3⟩:=zdv g cs l hl;refine⟨.agg (by simpa using h1) (λj x hx=>Cs.1 di x (zv hx)) (λj x v hx hv=>h2 j x v hx (by simpa using hv)),?_⟩
   simp only[V.top];exact h3
  ·cases h
 | .tuple ⟨vs⟩,x,h=>by
  cases vs with
  | nil=>simp only[aj,bq] at h;subst h;exact⟨.br rfl (λj x v hx=>by simp at hx),rfl⟩
  | cons _ _=>simp[aj] at h
theorem zdv(g:Gh):∀(vs:dw)(xs:aD),nC vs=some xs->xs.length=vs.length/\(∀(j:Nat)(x:V)(v:bt),xs[j]?=some x->vs[j]?=some v->aR g x v)/\aI xs=0
 | [],xs,h=>by simp only[nC,bq] at h;subst h;exact⟨rfl,λj x v hx=>by simp at hx,rfl⟩
 | v::vs,xs,h=>by
  simp only[nC] at h;split at h
  ·rename_i x ys hx tQ;simp only[bq] at h;subst h;obtain⟨h1,h2⟩:=VV g v x hx;obtain⟨h3,h4,h5⟩:=zdv g vs ys tQ;refine⟨by simp[h3],λj y u hy hu=>?_,by simp[aI,h2,h5]⟩
   cases j with
   | zero=>simp at hy hu;subst hy;subst hu;exact h1
   | succ j=>simp at hy hu;exact h4 j y u hy hu
  ·cases h
end
variable{B:dR}{g:Gh}{s:St}{a:Act}{w:aP}
theorem Rel.slot(h:Rel B g s a w){t:Nat}{x:V}(hx:s.env[t]?=some x):∃v,a.tmps[t]?=some v/\a.eval (.tmp t)=v:=by
 have bR:t<a.tmps.size:=by rw[<- h.len];exact(cZ.1 hx).1
 refine⟨a.tmps[t],EH bR,?_⟩;simp[Act.eval,Array.getD,bR]
theorem zeN{n:Nat}{l:Loc}{x:V}{v cv:bt}(h:aj v=some x):cL g n w l x cv:=by
 unfold cL;split
 ·unfold aj at h;split at h<;>try (simp at h;done)
  all_goals (simp only[eF] at h;obtain⟨l,_,h⟩:=h;split at h<;>simp at h)
 ·trivial
theorem zI(h:Rel B g s a w){x:aW}{v:V}(hp:ak s.env x=some v) :
  aR g v (a.eval x)/\v.top<=s.H.az.length/\∀n l,cL g n w l v (a.eval x):=by
 cases x with
 | tmp t =>
  simp only[ak,zg] at hp;split at hp<;>simp only[bq,reduceCtorEq] at hp;rename_i y hy;subst hp;obtain⟨cv,iT,he⟩:=h.slot hy;rw[he];exact⟨(h.env t y cv hy iT).1.aV,by rw[jl];exact h.dO t y hy,λ_ _=>vm _ _ _ _ _ _⟩
 | const c =>
  simp only[ak] at hp;obtain⟨h1,h2⟩:=VV g c v hp;exact⟨h1,by omega,λ_ _=>zeN hp⟩
 | global k =>
  simp only[ak,bq] at hp;subst hp;exact⟨.eT k 0,ec _,λ_ _=>trivial⟩
 | func f =>
  simp only[ak,bq] at hp;subst hp;exact⟨.fn rfl rfl (λj x v hx=>by simp at hx) (λj x v hx=>by simp at hx),ec _,λ_ _=>trivial⟩
theorem Rel.hand(h:Rel B g s a w){t:Nat}{v:V}(hv:s.env[t]?=some v)(c:Nat)(hc:g.own c=some (.slot B.d t))(hcw:c<w.heap.size)(l:Loc) :
  Rel B { g with own:=λx=>if x=c then some l else g.own x } { s with env:=s.env.set t (aV v) } a w:=by
 have ht:t<s.env.length:=(cZ.1 hv).1;refine h.i_ (b0:=none) (l0:=some (.slot B.d t)) ?_ (dA _) (λ_ _ _=>rfl) (λb x hb hx=>?_) (λb h1 h2=>?_) (λb b' h1 h2=>?_) h.cX.mem (λc' l' ei=>?_) (λb j e=>by cases e) (by simp) rfl (λt' x hx=>?_) h.bG h.lP h.ou ?_
 ·refine⟨⟨λ_ _ _ e=>e,λ_ _=>rfl,rfl,λ_ _ _ _ e=>e⟩,λ_ _ _ _=>rfl,λc' _ h'=>?_,λ_ _ _ _=>rfl,dA _,λ_ _ _=>rfl,λl' mT=>?_,λb hb=>(by cases hb),λ_ _ _ _=>rfl,rfl,rfl,rfl⟩
  ·show(if c'=c then some l else g.own c')=g.own c'
   rw[if_neg];rintro rfl;exact h' _ rfl hc
  ·cases mT;exact .inl ⟨t,rfl⟩
 ·rcases hb with hb|hb
  ·cases hb
  ·have:=(cZ.1 hx).1;simp only at this;omega
 ·simp only at h2;omega
 ·simp only at h2;omega
 ·simp only at ei;split at ei
  next e=>rw[e];exact hcw
  ·exact h.cX.eD c' l' ei
 ·simp only[tL] at hx;split at hx
  next e=>subst e;simp only[bq] at hx;exact⟨v,hv,.inr hx.symm⟩
  next e=>exact⟨x,hx,.inl ⟨rfl,λe'=>e (by cases e';rfl)⟩⟩
 ·intro t' e;cases e;exact Nat.le_of_lt ht
theorem Rel.clear(h:Rel B g s a w){t:Nat}{v:V}(hv:s.env[t]?=some v):Rel B g { s with env:=s.env.set t (aV v) } a w:=by
 have ht:t<s.env.length:=(cZ.1 hv).1;refine h.i_ (b0:=none) (l0:=none) ?_ (dA _) (λ_ _ _=>rfl) (λb x hb hx=>?_) (λb h1 h2=>?_) (λb b' h1 h2=>?_) h.cX.mem h.cX.eD (λb j e=>by cases e) (by simp) rfl (λt' x hx=>?_) h.bG h.lP h.ou ?_
 ·exact⟨⟨λ_ _ _ e=>e,λ_ _=>rfl,rfl,λ_ _ _ _ e=>e⟩,λ_ _ _ _=>rfl,λ_ _ _=>rfl,λ_ _ _ _=>rfl,dA _,λ_ _ _=>rfl,λl' mT=>(by cases mT),λb hb=>(by cases hb),λ_ _ _ _=>rfl,rfl,rfl,rfl⟩
 ·rcases hb with hb|hb
  ·cases hb
  ·have:=(cZ.1 hx).1;simp only at this;omega
 ·simp only at h2;omega
 ·simp only at h2;omega
 ·simp only[tL] at hx;split at hx
  next e=>subst e;simp only[bq] at hx;exact⟨v,hv,.inr hx.symm⟩
  ·exact⟨x,hx,.inl ⟨rfl,λe'=>by cases e'⟩⟩
 ·intro t' e;cases e
structure Gh.Alike(g g':Gh):Prop where
 M:g'.M=g.M
 bO:g'.bO=g.bO
 obj:g'.obj=g.obj
 lk:g'.lk=g.lk
 eY:g'.eY=g.eY
theorem Gh.Alike.refl(g:Gh):Gh.Alike g g:=⟨rfl,rfl,rfl,rfl,rfl⟩
theorem Gh.Alike.le{g g':Gh}(h:Gh.Alike g g')(n:Nat):Gh.Le n g g':=⟨λ_ _ _ e=>by rw[h.M];exact e,λ_ _=>by rw[h.bO],h.obj,λ_ _ _ _ e=>by rw[h.eY];exact e⟩
theorem Gh.Alike.rel{g g':Gh}(h:Gh.Alike g g'){v:V}{cv:bt}(hr:aR g v cv):aR g' v cv:=hr.le (h.le v.top) (dA _)
theorem vG(h:Rel B g s a w){x:aW}{v:V}{cW:aD}(ht:take s.env x=some (v,cW))(l:Loc) :
  ∃g',Rel B g' { s with env:=cW } a w/\aR g' v (a.eval x)/\cL g' s.H.az.length w l v (a.eval x)/\v.top<=s.H.az.length/\Gh.Alike g g':=by
 have plain:∀y,(∀t,y≠.tmp t)->take s.env y=some (v,cW)->∃g',Rel B g' { s with env:=cW } a w/\aR g' v (a.eval y)/\cL g' s.H.az.length w l v (a.eval y)/\v.top<=s.H.az.length/\Gh.Alike g g':=by
  intro y hy tR;have hp:ak s.env y=some v/\s.env=cW:=by
   cases y with
   | tmp t=>exact absurd rfl (hy t)
   | _ =>
    simp only[take,mQ,cq] at tR;obtain⟨u,hu,rfl,rfl⟩:=tR;exact⟨hu,rfl⟩
  obtain⟨h1,h2,h3⟩:=zI h hp.1;rw[<- hp.2];exact⟨g,h,h1,h3 _ _,h2,.refl g⟩
 cases x with
 | tmp t =>
  simp only[take,zg,fm] at ht;split at ht<;>simp only[bq,cq,reduceCtorEq] at ht
  ·rename_i sz xs e hy;obtain⟨rfl,rfl⟩:=ht;obtain⟨cv,iT,he⟩:=h.slot hy;obtain⟨h1,h2⟩:=h.env t _ cv hy iT;have h3:=h.dO t _ hy;rw[he];have GV:fO g s.H.az.length w (.slot B.d t) e sz xs.length cv:=h2;cases GX:cv.ownBlock with
   | none =>
    obtain⟨ys,ho,_⟩:=GV;exact⟨g,h.clear hy,h1,⟨ys,ho,λc hc=>by rw[GX] at hc;cases hc⟩,h3,.refl g⟩
   | some c =>
    have bR:=GV.lt c GX;obtain⟨ys,ho,hc⟩:=GV;obtain⟨c1,c2,c3⟩:=hc c GX;refine⟨_,h.hand hy c c1 bR l,?_,⟨ys,ho,λc' ei=>?_⟩,h3,⟨rfl,rfl,rfl,rfl,rfl⟩⟩
    ·exact Gh.Alike.rel (g:=g) (g':={ g with own:=λx=>if x=c then some l else g.own x }) ⟨rfl,rfl,rfl,rfl,rfl⟩ h1
    ·rw[GX] at ei;cases ei;exact⟨by simp,c2,c3⟩
  next y _ hy=>obtain⟨rfl,rfl⟩:=ht;obtain⟨cv,iT,he⟩:=h.slot hy;obtain⟨h1,h2⟩:=h.env t _ cv hy iT;rw[he];exact⟨g,h,h1.aV,vm _ _ _ _ _ _,by rw[jl];exact h.dO t _ hy,.refl g⟩
 | const c=>exact plain _ (λt=>by simp) ht
 | global k=>exact plain _ (λt=>by simp) ht
 | func f=>exact plain _ (λt=>by simp) ht
structure Ea(B:dR)(g:Gh)(s:St)(a:Act)(w:aP)(dst:fJ)(v:V)(cv:bt):Prop where
 rel:Rel B g s a w
 val:aR g v cv
 own:∀t,dst=some t->cL g s.H.az.length w (.slot B.d t) v cv
 top:v.top<=s.H.az.length
theorem wV{dst:fJ}{v:V}{cv:bt}(h:Ea B g s a w dst v cv):Rel B g { s with env:=aq s.env dst v } (a.put dst cv) w:=by
 cases dst with
 | none=>exact h.rel
 | some t =>
  have hr:=h.rel;refine { cX:=hr.cX,len:=by simpa[aq,Act.put] using hr.len,env:=?_,dO:=?_,n0:=hr.n0,bG:=hr.bG,dY:=hr.dY,fr:=hr.fr,lP:=hr.lP,ou:=hr.ou,cR:=by simpa[aq] using hr.cR,eE:=hr.eE,defers:=hr.defers,marks:=hr.marks,nG:=hr.nG }
  ·intro t' x u hx hu;simp only[aq,tL] at hx;simp only[Act.put,Array.getElem?_setIfInBounds] at hu
   by_cases e:t=t'
   ·subst e;simp only[aF] at hx hu;split at hx
    ·simp only[bq] at hx;split at hu
     ·simp only[bq] at hu;subst hx;subst hu;exact⟨h.val,h.own t rfl⟩
     ·cases hu
    ·cases hx
   ·simp only[e,bw] at hx hu;exact hr.env t' x u hx hu
  ·intro t' x hx;simp only[aq,tL] at hx
   by_cases e:t=t'
   ·subst e;simp only[aF] at hx;split at hx
    ·simp only[bq] at hx;subst hx;exact h.top
    ·cases hx
   ·simp only[e,bw] at hx;exact hr.dO t' x hx
end
section
variable{P:aQ}{g:Gh}{w:aP}
theorem jv{t:aB}{n:Nat}(h:z4 P t=some n)(w:aP):(sizeOf t).run P w=.ok n w:=by
 simp only[z4,mQ] at h;obtain⟨i,hi,rfl⟩:=h;simp[sizeOf,typeInfo,hi]
theorem Tn{t:aB}{b:Bool}(h:qz P t=some b)(w:aP):(isAgg t).run P w=.ok b w:=by
 simp only[qz,mQ] at h;obtain⟨d,hd,rfl⟩:=h;unfold isAgg;simp only[Sem.run_bind,run_underlying hd,Result.andThen_ok];cases d<;>rfl
structure bK(g:Gh)(cs:aD)(vs:dw):Prop where
 len:cs.length=vs.length
 one:∀(j:Nat)(x:V),cs[j]?=some x->x.one=true
 rel:∀(j:Nat)(x:V)(v:bt),cs[j]?=some x->vs[j]?=some v->aR g x v
theorem bK.get{cs:aD}{vs:dw}(h:bK g cs vs){j:Nat}{x:V}(hx:cs[j]?=some x):∃v,vs[j]?=some v/\aR g x v:=by
 have bR:j<vs.length:=by rw[<- h.len];exact(cZ.1 hx).1
 exact⟨vs[j],gj bR,h.rel j x _ hx (gj bR)⟩
theorem bK.drop{cs:aD}{vs:dw}(h:bK g cs vs)(k:Nat):bK g (cs.drop k) (vs.drop k) :=
 ⟨by simp[h.len],λj x hx=>h.one (k+j) x (by simpa using hx),λj x v hx hv=>h.rel (k+j) x v (by simpa using hx) (by simpa using hv)⟩
theorem bK.take{cs:aD}{vs:dw}(h:bK g cs vs)(k:Nat):bK g (cs.take k) (vs.take k):=by
 refine⟨by simp[h.len],λj x hx=>?_,λj x v hx hv=>?_⟩
 ·rw[AK] at hx;split at hx
  ·exact h.one j x hx
  ·cases hx
 ·rw[AK] at hx hv;split at hx
  next hj=>rw[if_pos hj] at hv;exact h.rel j x v hx hv
  ·cases hx
theorem bK.agg{cs:aD}{arr:dM}(h:bK g cs arr.toList):aR g (.agg cs) (.agg arr) :=
 .agg (by simpa using h.len) h.one λj x v hx hv=>h.rel j x v hx (by simpa using hv)
theorem vn{cs:aD}{cv:bt}(h:aR g (.agg cs) cv):∃arr,cv=.agg arr/\bK g cs arr.toList:=by
 cases h with
 | agg h1 h2 h3=>exact⟨_,rfl,⟨by simpa using h1,h2,λj x v hx hv=>h3 j x v hx (by simpa using hv)⟩⟩
theorem bK.Af{cs:aD}{vs:dw}(h:bK g cs vs):bK g (cs.map aV) vs:=by
 refine⟨by simp[h.len],λj x hx=>?_,λj x v hx hv=>?_⟩
 ·simp only[iX,mQ] at hx;obtain⟨y,hy,rfl⟩:=hx;exact(VT y).trans (h.one j y hy)
 ·simp only[iX,mQ] at hx;obtain⟨y,hy,rfl⟩:=hx;exact(h.rel j y v hy hv).aV
theorem NU{cs:aD}{arr:dM}(h:bK g cs arr.toList){t:aB}{off:Nat}{v:V}(hv:wg P t cs off=some v)(w:aP) :
  ∃cv,(part t arr off).run P w=.ok cv w/\aR g v cv/\v.top<=aI cs/\(∀ys,v=.agg ys->∃vs,cv=.agg vs/\vs=arr.extract off (off+ys.length)):=by
 simp only[wg,Option.bind_eq_bind,eF] at hv;obtain⟨b,hb,hv⟩:=hv;unfold part;simp only[Sem.run_bind,Tn hb,Result.andThen_ok];cases b with
 | true =>
  simp only[aF,eF] at hv;obtain⟨n,hn,hv⟩:=hv;split at hv<;>simp only[bq,reduceCtorEq] at hv;rename_i hle;subst hv;simp only[aF,Sem.run_bind,jv hn,Result.andThen_ok,Sem.run_pure];have hl:(List.take n (List.drop off cs)).length=n:=by simp;omega
  refine⟨_,rfl,?_,?_,λys tQ=>?_⟩
  ·refine bK.agg ?_;have:=(h.drop off).take n;simpa[List.take_drop] using this
  ·simp only[V.top];exact qK λx hx=>zn (Cp (Cq hx))
  ·cases tQ;exact⟨_,rfl,by rw[hl]⟩
 | false =>
  simp only[fR,bw,zg] at hv;obtain⟨cv,iT,hr⟩:=h.get hv;simp only[fR,bw];have:arr[off]?=some cv:=by simpa using iT
  rw[this];refine⟨cv,rfl,hr,zn (zv hv),λys tQ=>?_⟩;subst tQ;have:=h.one off _ hv;simp[V.one,Cv] at this
theorem VW{cs:aD}{vs:dw}(h:bK g cs vs){c o:Nat}(hc:∀j v,vs[j]?=some v->w.cell? ⟨c,o+j,none⟩=some v){t:aB}{off:Nat}{v:V}(hv:wg P t cs off=some v) :
  ∃cv,(loadVar t ⟨c,o+off,none⟩).run P w=.ok cv w/\aR g v cv/\v.top<=aI cs:=by
 simp only[wg,Option.bind_eq_bind,eF] at hv;obtain⟨b,hb,hv⟩:=hv;unfold loadVar;simp only[Sem.run_bind,Tn hb,Result.andThen_ok];cases b with
 | true =>
  simp only[aF,eF] at hv;obtain⟨n,hn,hv⟩:=hv;split at hv<;>simp only[bq,reduceCtorEq] at hv;rename_i hle;subst hv;have hr:=(h.drop off).take n;have hl:((vs.drop off).take n).length=n:=by simp;have:=h.len;omega
  have cw:=run_loadCells_list (P:=P) (w:=w) ⟨c,o+off,none⟩ ((vs.drop off).take n) (λj v hj=>by
   rw[AK] at hj;split at hj
   ·rw[Addr.add_lit];rw[HT] at hj;rw[p8];exact hc _ _ hj
   ·cases hj)
  rw[hl] at cw;simp only[aF,Sem.run_bind,jv hn,Result.andThen_ok,cw,Sem.run_pure];refine⟨_,rfl,bK.agg (by simpa using hr),?_⟩
  simp only[V.top];exact qK λx hx=>zn (Cp (Cq hx))
 | false =>
  simp only[fR,bw,zg] at hv;obtain⟨cv,iT,hr⟩:=h.get hv;refine⟨cv,?_,hr,zn (zv hv)⟩;simp[hc off cv iT]
end
section
variable{P:aQ}{g:Gh}{w:aP}
theorem zll{op:BinOp}{k:IntKind}{x y:Int}{v:V}(t:aB)(h:jY op k x y=some v)(w:aP) :
  ∃cv,(binOp op t (.int k x) (.int k y)).run P w=.ok cv w/\aR g v cv/\v.top=0/\∀m l,cL g m w l v cv:=by
 cases op<;>simp only[jY,bq,reduceCtorEq] at h
 case quo =>
  split at h<;>simp only[bq,reduceCtorEq] at h;rename_i hy;subst h;refine⟨.int _ _,?_,.int _ _,rfl,λ_ _=>trivial⟩;simp[binOp,Op.intDiv,hy]
 case rem =>
  split at h<;>simp only[bq,reduceCtorEq] at h;rename_i hy;subst h;refine⟨.int _ _,?_,.int _ _,rfl,λ_ _=>trivial⟩;simp[binOp,Op.intDiv,hy]
 all_goals subst h
 all_goals first
  | (refine⟨.int _ _,?_,.int _ _,rfl,λ_ _=>trivial⟩;simp[binOp,Op.intArith,Op.intBits];done)
  | (refine⟨.bool _,?_,.bool _,rfl,λ_ _=>trivial⟩;simp[binOp,Op.intCmp];done)
theorem zgI{op:BinOp}{k k':IntKind}{x y:Int}{v:V}(h:La op k x y=some v)(w:aP) :
  ∃cv,(Op.shift op k x k' y).run P w=.ok cv w/\aR g v cv/\v.top=0/\∀m l,cL g m w l v cv:=by
 simp only[La] at h;split at h
 ·cases h
 ·rename_i hy;cases op<;>simp only[bq,reduceCtorEq] at h
  all_goals
   subst h;refine⟨.int _ _,?_,.int _ _,rfl,λ_ _=>trivial⟩;simp[Op.shift,hy]
theorem pK:∀(x y:bM),(∀b:Nat,b∈x->b<256)->(∀b:Nat,b∈y->b<256)->(x.map UInt8.ofNat == y.map UInt8.ofNat)=n6 x y
 | [],[],_,_=>rfl
 | [],_::_,_,_=>rfl
 | _::_,[],_,_=>rfl
 | a::x,b::y,hx,hy=>by
  have ih:=pK x y (λc hc=>hx c (dU _ hc)) (λc hc=>hy c (dU _ hc));have ha:=hx a (eK ..);have hb:=hy b (eK ..);have e:(UInt8.ofNat a == UInt8.ofNat b)=Nat.beq a b:=by
   rw[EI,beq_iff_eq,Nat.beq_eq];constructor
   ·intro h;have:=congrArg UInt8.toNat h;simpa[UInt8.toNat_ofNat',Fb ha,Fb hb] using this
   ·rintro rfl;rfl
  simp only[bg,n6];rw[<- ih,<- e];rfl
theorem Di:∀(x y:bM),(∀b:Nat,b∈x->b<256)->(∀b:Nat,b∈y->b<256)->Op.bytesLess (x.map UInt8.ofNat) (y.map UInt8.ofNat)=K9 x y
 | [],[],_,_=>rfl
 | [],_::_,_,_=>rfl
 | _::_,[],_,_=>rfl
 | a::x,b::y,hx,hy=>by
  have ih:=Di x y (λc hc=>hx c (dU _ hc)) (λc hc=>hy c (dU _ hc));have ha:=hx a (eK ..);have hb:=hy b (eK ..);have e:(UInt8.ofNat a == UInt8.ofNat b)=Nat.beq a b:=by
   rw[EI,beq_iff_eq,Nat.beq_eq];constructor
   ·intro h;have:=congrArg UInt8.toNat h;simpa[UInt8.toNat_ofNat',Fb ha,Fb hb] using this
   ·rintro rfl;rfl
  have e2:decide (UInt8.ofNat a<UInt8.ofNat b)=Nat.blt a b:=by
   rw[EI,decide_eq_true_iff,UInt8.lt_iff_toNat_lt,UInt8.toNat_ofNat',UInt8.toNat_ofNat',Fb ha,Fb hb];simp only[Nat.blt,Nat.ble_eq];exact Nat.lt_iff_add_one_le
  simp only[bg,Op.bytesLess,K9,ih,e,e2]
theorem vo(x:bM):(bytes x).toList=x.map UInt8.ofNat:=by
 rw[ByteArray.toList_eq];simp[bytes]
theorem kI(x:bM):(bytes x).size=x.length:=by simp[bytes,ByteArray.size]
theorem zfw(x y:bM):bytes x++bytes y=bytes (x++y):=by
 apply ByteArray.ext;simp[bytes,ByteArray.data_append]
theorem zlm{op:BinOp}{x y:bM}{v:V}(t:aB)(hx:∀b:Nat,b∈x->b<256)(hy:∀b:Nat,b∈y->b<256)(h:Pf op x y=some v)(w:aP) :
  ∃cv,(binOp op t (.string (bytes x)) (.string (bytes y))).run P w=.ok cv w/\aR g v cv/\v.top=0/\∀m l,cL g m w l v cv:=by
 have e1:=pK x y hx hy;have e2:=Di x y hx hy;have e0:(binOp op t (.string (bytes x)) (.string (bytes y)))=Op.stringOp op (bytes x) (bytes y):=by
  cases op<;>rfl
 rw[e0];cases op<;>simp only[Pf,bq,reduceCtorEq] at h
 case add =>
  split at h<;>simp only[bq,reduceCtorEq] at h;rename_i hl;subst h;have hm:IntKind.i64.max=9223372036854775807:=by decide
  refine⟨.string (bytes (x++y)),?_,.str λb hb=>?_,rfl,λ_ _=>trivial⟩
  ·have:¬(((bytes x).size+(bytes y).size:Nat):Int) > IntKind.i64.max:=by rw[hm,kI,kI];omega
   simp only[Op.stringOp,if_neg this,zfw];rfl
  ·rcases sw.1 hb with hb|hb
   ·exact hx b hb
   ·exact hy b hb
 all_goals
  subst h;refine⟨.bool _,?_,.bool _,rfl,λ_ _=>trivial⟩;simp only[Op.stringOp,vo,e1,e2,Sem.run_pure]
def NV(P:aQ)(d:Nat)(e:aB)(n:Nat)(xs ys:dM):bM->Sem Bool
 | []=>pure true
 | i::is=>do
  let a <- part e xs (i * n)
  let b <- part e ys (i * n)
  let r <- Op.equalIn d e a b
  if (!r)=true then pure false else NV P d e n xs ys is
theorem zbz(d:Nat)(t e:aB)(len n:Nat)(xs ys:dM)(ht:P.underlying t=some (.array len e))(hn:z4 P e=some n)(w:aP) :
  (Op.equalIn (d+1) t (.agg xs) (.agg ys)).run P w=(NV P d e n xs ys (List.range' 0 len)).run P w:=by
 simp only[Op.equalIn,Sem.run_bind,run_underlying ht,jv hn,Result.andThen_ok];rw[Std.Legacy.Range.forIn_eq_forIn_range'];simp only[Std.Legacy.Range.size,Nat.sub_zero,Nat.add_sub_cancel,Nat.div_one];generalize List.range' 0 len=is
 induction is generalizing w with
 | nil=>simp[NV]
 | cons f fs ih =>
  simp only[List.forIn_cons,NV,Sem.run_bind,Sem.run_ite];generalize (part e xs (f * n)).run P w=r1;cases r1 with
  | ok a w1 =>
   simp only[Result.andThen_ok];generalize (part e ys (f * n)).run P w1=r2;cases r2 with
   | ok b w2 =>
    simp only[Result.andThen_ok];generalize (Op.equalIn d e a b).run P w2=r3;cases r3 with
    | ok r w3 =>
     cases r
     ·simp only[Result.andThen_ok,oI,aF,Sem.run_pure]
     ·simp only[Result.andThen_ok,mo,fR,bw,Sem.run_pure];exact ih w3
    | halt x w3=>simp[Result.andThen]
   | halt x w2=>simp[Result.andThen]
  | halt x w1=>simp[Result.andThen]
theorem zjc{eq:aB->V->V->Option Bool}{d:Nat}(heq:∀t x y b cx cy,eq t x y=some b->aR g x cx->aR g y cy->(Op.equalIn d t cx cy).run P w=.ok b w){xs ys:aD}{ax ay:dM}
  (hx:bK g xs ax.toList) (hy:bK g ys ay.toList):∀(fs:List Field)(b:Bool),Pe P eq fs xs ys=some b->(Op.eqFields d ax ay fs).run P w=.ok b w
 | [],b,h=>by simp only[Pe,bq] at h;subst h;rfl
 | f::fs,b,h=>by
  simp only[Pe] at h;split at h
  ·cases h
  ·rename_i hf;simp only[Option.bind_eq_bind,eF] at h;obtain⟨u,hu,v,hv,r,hr,h⟩:=h;obtain⟨cu,Fh,NW,_⟩:=NU hx hu w;obtain⟨cv,Fi,GY,_⟩:=NU hy hv w;simp only[Op.eqFields,ne_eq,hf,uK,aF,Sem.run_bind,Fh,Fi,heq _ _ _ _ _ _ hr NW GY,Result.andThen_ok];cases r with
   | true=>simp only[aF] at h;simpa using zjc heq hx hy fs b h
   | false=>simp only[fR,bw,bq] at h;subst h;simp
theorem zjd{eq:aB->V->V->Option Bool}{d:Nat}(heq:∀t x y b cx cy,eq t x y=some b->aR g x cx->aR g y cy->(Op.equalIn d t cx cy).run P w=.ok b w){xs ys:aD}{ax ay:dM}
  (hx:bK g xs ax.toList) (hy:bK g ys ay.toList) (e n:Nat):∀(k i:Nat)(b:Bool),NP P eq e n xs ys i k=some b->(NV P d e n ax ay (List.range' i k)).run P w=.ok b w
 | 0,i,b,h=>by simp only[NP,bq] at h;subst h;rfl
 | k+1,i,b,h=>by
  simp only[NP,Option.bind_eq_bind,eF] at h;obtain⟨u,hu,v,hv,r,hr,h⟩:=h;obtain⟨cu,Fh,NW,_⟩:=NU hx hu w;obtain⟨cv,Fi,GY,_⟩:=NU hy hv w;simp only[List.range'_succ,NV,Sem.run_bind,Fh,Fi,heq _ _ _ _ _ _ hr NW GY,Result.andThen_ok];cases r with
  | true=>simp only[aF] at h;simpa using zjd heq hx hy e n k (i+1) b h
  | false=>simp only[fR,bw,bq] at h;subst h;simp
theorem zpC{D:Nat}{t:aB}{ds:TypeDesc}(hd:P.underlying t=some ds){x y:V}{b:Bool}{cx cy:bt}(h:K_ ds x y=some b)(hx:aR g x cx)(hy:aR g y cy):(Op.equalIn (D+1) t cx cy).run P w=.ok b w:=by
 have hu:=run_underlying hd w;unfold K_ at h;split at h
 ·split at h<;>simp only[bq,reduceCtorEq] at h;subst h;cases hx;cases hy;exact run_equalIn_bool' w D t _ _ hd
 ·split at h<;>try (simp only[reduceCtorEq] at h;done)
  split at h<;>simp only[bq,reduceCtorEq] at h;rename_i e;subst h;subst e;cases hx;cases hy;exact run_equalIn_int w D t _ _ _ _ hd
 ·split at h<;>simp only[bq,reduceCtorEq] at h;subst h;cases hx with
  | str h1=>cases hy with
   | str h2 =>
    rw[run_equalIn_string w D t _ _ hd,vo,vo,pK _ _ h1 h2]
 ·split at h<;>simp only[bq,reduceCtorEq] at h
  all_goals (subst h;cases hx;cases hy;simp[Op.equalIn,hu];done)
 ·split at h<;>try (simp only[reduceCtorEq] at h;done)
  ·simp only[bq] at h;subst h;cases hx;cases hy;simp[Op.equalIn,hu]
  ·simp only[bq] at h;subst h;cases hx;cases hy;simp[Op.equalIn,hu]
  ·simp only[bq] at h;subst h;cases hx;cases hy;simp[Op.equalIn,hu]
  ·split at h<;>simp only[bq,reduceCtorEq] at h;rename_i e;subst h;cases hx;cases hy;simp[Op.equalIn,hu,e]
 ·split at h<;>simp only[bq,reduceCtorEq] at h
  ·subst h;cases hx;cases hy;simp[Op.equalIn,hu]
  ·subst h;cases hx;cases hy with
   | sl f h1 h2 h3=>rw[h3 (by simp)];simp[Op.equalIn,hu]
  ·subst h;cases hy;cases hx with
   | sl f h1 h2 h3=>rw[h3 (by simp)];simp[Op.equalIn,hu]
  ·subst h;cases hx;cases hy;simp[Op.equalIn,hu]
  ·subst h;cases hx;cases hy;simp[Op.equalIn,hu]
 ·split at h<;>simp only[bq,reduceCtorEq] at h
  all_goals (subst h;cases hx;cases hy;simp[Op.equalIn,hu];done)
 ·split at h<;>simp only[bq,reduceCtorEq] at h
  all_goals (subst h;cases hx;cases hy;simp[Op.equalIn,hu];done)
 ·cases h
theorem CA:∀(d D:Nat)(t:aB)(x y:V)(b:Bool)(cx cy:bt),d<=D->A_ P d t x y=some b->aR g x cx->aR g y cy->(Op.equalIn D t cx cy).run P w=.ok b w
 | 0,D,t,x,y,b,cx,cy,_,h,_,_=>by simp[A_] at h
 | d+1,0,t,x,y,b,cx,cy,hD,h,_,_=>by omega
 | d+1,D+1,t,x,y,b,cx,cy,hD,h,hx,hy=>by
  have ih:=λt x y b cx cy=>CA d D t x y b cx cy (by omega)
  simp only[A_] at h;split at h
  ·cases h
  ·rename_i ds hd;split at h
   ·obtain⟨ax,rfl,h1⟩:=vn hx;obtain⟨ay,rfl,h2⟩:=vn hy;split at h
    ·rename_i fs;split at h
     ·cases h
     ·rename_i hp;have hf:P.fieldsOf t=fs:=by simp[Program.fieldsOf,hd]
      rw[run_equalIn_struct w D t ax ay (by rw[hf];exact hd) (by simpa using hp),hf]
      exact zjc ih h1 h2 _ _ h
    ·split at h
     next n hn=>rw[zbz D t _ _ n ax ay hd hn];exact zjd ih h1 h2 _ _ _ _ _ h
     ·cases h
    ·cases h
   ·exact zpC hd h hx hy
theorem zln{op:BinOp}{t:aB}{x y:V}{cx cy:bt}{ox oy:aW}(hg:ju P op t ox oy x y=true)(hx:aR g x cx)(hy:aR g y cy)(w:aP):(eqGuard op t ox oy cx cy).run P w=.ok () w:=by
 have key:(op=.eql\/op=.neq)->(eqGuard op t ox oy cx cy).run P w=.ok () w:=by
  intro ho;have NX:v4 P t ox oy x y=true:=by rcases ho with rfl|rfl<;>exact hg
  by_cases ha:∃xs ys,cx=.agg xs/\cy=.agg ys
  ·obtain⟨xs,ys,rfl,rfl⟩:=ha;refine run_eqGuard_agg w op t ox oy xs ys ?_;cases hx<;>cases hy<;>first|(simp[v4] at NX;done)|(simpa[v4] using NX)
  ·by_cases hn:cx=.nilIface/\cy=.nilIface
   ·obtain⟨rfl,rfl⟩:=hn;have hc:isConst ox=true\/isConst oy=true:=by
     cases hx<;>cases hy<;>first|(simp[v4] at NX;done)|(simpa[v4] using NX)
    rcases ho with rfl|rfl<;>rcases hc with hc|hc<;>(cases ox<;>cases oy<;>simp[isConst] at hc<;>simp[eqGuard])
   ·rcases ho with rfl|rfl
    all_goals
     cases cx<;>cases cy<;>first
      |rfl
      |exact absurd ⟨rfl,rfl⟩ hn
      |exact absurd ⟨_,_,rfl,rfl⟩ ha
 cases op<;>first
  |exact key (.inl rfl)
  |exact key (.inr rfl)
  |simp[eqGuard]
theorem zje{d:Nat}{t:aB}{k:IntKind}{n:Int}{y:V}{b:Bool}(h:A_ P d t (.int k n) y=some b):∃k' m,y=.int k' m:=by
 cases d with
 | zero=>simp[A_] at h
 | succ d =>
  simp only[A_] at h;split at h
  ·cases h
  next ds _=>cases ds<;>cases y<;>simp[K_] at h;exact⟨_,_,rfl⟩
theorem zjf{d:Nat}{t:aB}{s:bM}{y:V}{b:Bool}(h:A_ P d t (.str s) y=some b):∃s',y=.str s':=by
 cases d with
 | zero=>simp[A_] at h
 | succ d =>
  simp only[A_] at h;split at h
  ·cases h
  next ds _=>cases ds<;>cases y<;>simp[K_] at h;exact⟨_,rfl⟩
theorem zgJ{d:Nat}{t:aB}{y:V}{b:Bool}(h:A_ P d t .dW y=some b):False:=by
 cases d with
 | zero=>simp[A_] at h
 | succ d =>
  simp only[A_] at h;split at h
  ·cases h
  next ds _=>cases ds<;>simp[K_] at h
theorem znG{op:BinOp}{t:aB}{x y:V}{v:V}{cx cy:bt}(h:w9 P op t x y=some v)(hx:aR g x cx)(hy:aR g y cy)(w:aP) :
  ∃cv,(binOp op t cx cy).run P w=.ok cv w/\aR g v cv/\v.top=0/\∀m l,cL g m w l v cv:=by
 unfold w9 at h;split at h
 next k1 a1 k2 b1=>cases hx;cases hy;exact zgI (k':=k2) h w
 next k1 a1 k2 b1=>cases hx;cases hy;exact zgI (k':=k2) h w
 ·split at h
  next e=>subst e;cases hx;cases hy;exact zll t h w
  ·cases h
 ·cases hx with
  | str h1=>cases hy with
   | str h2=>exact zlm t h1 h2 h w
 ·rename_i n1 n2;simp only[mQ] at h;obtain⟨b,hb,rfl⟩:=h;have e:binOp .eql t cx cy=(do pure (.bool (<- Op.equal t cx cy))):=by
   cases hx<;>first
    |rfl
    |(obtain⟨k',m,rfl⟩:=zje hb;exact absurd rfl (n1 _ _ _ _ rfl))
    |(obtain⟨s',rfl⟩:=zjf hb;exact absurd rfl (n2 _ _ rfl))
    |exact(zgJ hb).elim
  rw[e];refine⟨.bool b,?_,.bool b,rfl,λ_ _=>trivial⟩;simp only[Sem.run_bind,Op.equal,CA 100 Op.maxDepth t _ _ b cx cy (by decide) hb hx hy,Result.andThen_ok,Sem.run_pure]
 ·rename_i n1 n2;simp only[mQ] at h;obtain⟨b,hb,rfl⟩:=h;have e:binOp .neq t cx cy=(do pure (.bool (!(<- Op.equal t cx cy)))):=by
   cases hx<;>first
    |rfl
    |(obtain⟨k',m,rfl⟩:=zje hb;exact absurd rfl (n1 _ _ _ _ rfl))
    |(obtain⟨s',rfl⟩:=zjf hb;exact absurd rfl (n2 _ _ rfl))
    |exact(zgJ hb).elim
  rw[e];refine⟨.bool (!b),?_,.bool _,rfl,λ_ _=>trivial⟩;simp only[Sem.run_bind,Op.equal,CA 100 Op.maxDepth t _ _ b cx cy (by decide) hb hx hy,Result.andThen_ok,Sem.run_pure]
 ·cases h
end
section
variable{P:aQ}{B:dR}{g:Gh}{s:St}{a:Act}{w:aP}
def Lo(P:aQ)(g:Gh)(n:Nat)(w:aP)(m:Sem bt)(v:V):Prop:=∃cv,m.run P w=.ok cv w/\aR g v cv/\v.top<=n/\∀k l,cL g k w l v cv
theorem zjg{n:Nat}{l:Loc}{v:V}{cv:bt}(h:∀sz xs e,v≠.sl sz xs (.yes e)):cL g n w l v cv:=by
 cases v with
 | sl sz xs o=>cases o with
  | yes e=>exact absurd rfl (h sz xs e)
  | _=>trivial
 | _=>trivial
def GZ(g:Gh):b_->Option bt->Prop
 | none,none=>True
 | some x,some v=>aR g x v
 | _,_=>False
theorem VX{isSlice:Bool}{len cap:Nat}{lo hi:b_}{sM EL:Option bt}{l h:Nat}(iy:GZ g lo sM)(AO:GZ g hi EL)(h1:j8 hi len=some h)(h2:j8 lo 0=some l)
  (hl:l<=h) (hh:h<=cap) (w:aP):(Instr.sliceBounds isSlice len cap sM EL none).run P w=.ok (l,h,cap) w:=by
 have e1:∀code,(match EL with|some v=>Instr.sliceBound v cap code|none=>pure len:Sem Nat).run P w=.ok h w:=by
  intro code;cases EL with
  | none=>cases hi with
   | none=>simp only[j8,bq] at h1;simp[h1]
   | some _=>exact AO.elim
  | some cv=>cases hi with
   | none=>exact AO.elim
   | some x =>
    simp only[j8] at h1;split at h1<;>first|(rename_i e;simp at e;done)|skip
    ·rename_i k m e;simp only[bq] at e;subst e;split at h1<;>simp only[bq,reduceCtorEq] at h1;rename_i hm;have hr:aR g (.int k m) cv:=AO;cases hr;have:0<=m/\m<=(cap:Int):=⟨hm,by omega⟩
     simp[Instr.sliceBound,asIntOf,this,h1]
    ·cases h1
 have e2:∀code,(match sM with|some v=>Instr.sliceBound v h code|none=>pure 0:Sem Nat).run P w=.ok l w:=by
  intro code;cases sM with
  | none=>cases lo with
   | none=>simp only[j8,bq] at h2;simp[h2]
   | some _=>exact iy.elim
  | some cv=>cases lo with
   | none=>exact iy.elim
   | some x =>
    simp only[j8] at h2;split at h2<;>first|(rename_i e;simp at e;done)|skip
    ·rename_i k m e;simp only[bq] at e;subst e;split at h2<;>simp only[bq,reduceCtorEq] at h2;rename_i hm;have hr:aR g (.int k m) cv:=iy;cases hr;have:0<=m/\m<=(h:Int):=⟨hm,by omega⟩
     simp[Instr.sliceBound,asIntOf,this,h2]
    ·cases h2
 unfold Instr.sliceBounds;cases EL with
 | none =>
  have Ie:=e1 .sliceAcap;simp only[Sem.run_pure,Result.ok.injEq,BY] at Ie;cases sM with
  | none=>have Fj:=e2 .sliceB;simp only[Sem.run_pure,Result.ok.injEq,BY] at Fj;simp[Ie,Fj]
  | some cv=>have Fj:=e2 .sliceB;simp only at Fj;simp[Ie,Fj]
 | some cu =>
  have Ie:=e1 (if isSlice then .sliceAcap else .sliceAlen)
  simp only at Ie;cases sM with
  | none=>have Fj:=e2 .sliceB;simp only[Sem.run_pure,Result.ok.injEq,BY] at Fj;simp[Ie,Fj]
  | some cv=>have Fj:=e2 .sliceB;simp only at Fj;simp[Ie,Fj]
theorem xg{isSlice:Bool}{len cap:Nat}{lo hi:b_}{sM EL:Option bt}{l h:Nat}(iy:GZ g lo sM)(AO:GZ g hi EL)(h1:j8 hi len=some h)(h2:j8 lo 0=some l)
  (hl:l<=h) (hh:h<=len) (hc:len<=cap) (w:aP):(Instr.sliceBounds isSlice len cap sM EL none).run P w=.ok (l,h,cap) w:=VX iy AO h1 h2 hl (cN hh hc) w
theorem zpD{lo:b_}{sM:Option bt}{l h:Nat}(iy:GZ g lo sM)(h2:j8 lo 0=some l)(hl:l<=h)(w:aP)(code:BoundsCode):(match sM with|some v=>Instr.sliceBound v h code|none=>pure 0:Sem Nat).run P w=.ok l w:=by
 cases sM with
 | none=>cases lo with
  | none=>simp only[j8,bq] at h2;simp[h2]
  | some _=>exact iy.elim
 | some cv=>cases lo with
  | none=>exact iy.elim
  | some x =>
   simp only[j8] at h2;split at h2<;>first|(rename_i e;simp at e;done)|skip
   ·rename_i k m e;simp only[bq] at e;subst e;split at h2<;>simp only[bq,reduceCtorEq] at h2;rename_i hm;have hr:aR g (.int k m) cv:=iy;cases hr;have:0<=m/\m<=(h:Int):=⟨hm,by omega⟩
    simp[Instr.sliceBound,asIntOf,this,h2]
   ·cases h2
theorem zh9{isSlice:Bool}{len cap:Nat}{lo:b_}{sM:Option bt}{k k':IntKind}{l:Nat}{h m:Int}(iy:GZ g lo sM)(h2:j8 lo 0=some l)(h0:0<=h)(hl:l<=h.toNat)(hm:h<=m)(hc:m<=cap)(w:aP) :
  (Instr.sliceBounds isSlice len cap sM (some (.int k h)) (some (.int k' m))).run P w=.ok (l,h.toNat,m.toNat) w:=by
 have a1:0<=m/\m<=(cap:Int):=⟨by omega,hc⟩
 have a2:0<=h/\h<=(m.toNat:Int):=⟨h0,by omega⟩
 have e2:=zpD (P:=P) iy h2 hl w .slice3C;have r:∀(kk:IntKind)(i:Int)(y:Nat)(code:BoundsCode),0<=i->i<=(y:Int)->(Instr.sliceBound (.int kk i) y code).run P w=.ok i.toNat w:=λkk i y code h1 h2=>by
  have:0<=i/\i<=(y:Int):=⟨h1,h2⟩;simp[Instr.sliceBound,asIntOf,this]
 unfold Instr.sliceBounds;cases sM with
 | none=>simp only[Sem.run_pure,Result.ok.injEq,BY] at e2;simp[r _ _ _ _ a1.1 a1.2,r _ _ _ _ a2.1 a2.2,e2]
 | some cv=>simp only at e2;simp[r _ _ _ _ a1.1 a1.2,r _ _ _ _ a2.1 a2.2,e2]
theorem zeD(x:bM)(l h:Nat):(bytes x).extract l h=bytes ((x.take h).drop l):=by
 apply ByteArray.ext;simp[bytes,ByteArray.data_extract,List.extract,<- List.map_take,<- List.map_drop,List.drop_take]
theorem zpE{op:UnOp}{x v:V}{cx:bt}(h:iH op x=some v)(hx:aR g x cx)(n:Nat)(w:aP):Lo P g n w (Op.unary op cx) v:=by
 unfold iH at h;split at h
 ·simp only[bq] at h;subst h;cases hx;exact⟨.int _ _,by simp[Op.unary,Op.intArith],.int _ _,ec _,λ_ _=>trivial⟩
 ·simp only[jY,bq] at h;subst h;cases hx;exact⟨.int _ _,by simp[Op.unary,Op.intBits],.int _ _,ec _,λ_ _=>trivial⟩
 ·simp only[bq] at h;subst h;cases hx;exact⟨.bool _,by simp[Op.unary],.bool _,ec _,λ_ _=>trivial⟩
 ·cases h
theorem vH{t:aB}{f:Nat}{fs:Array Field}{fd:Field}{sz:Nat}(ht:P.underlying t=some (.struct fs))(hf:fs[f]?=some fd)(hs:z4 P fd.type=some sz)(h0:Nat.beq sz 0=false)(c o:Nat)(w:aP) :
  (Instr.fieldAt t (.pointer (some ⟨c,o,none⟩)) f).run P w=.ok (.pointer (some ⟨c,o+fd.offset,none⟩)) w:=by
 have:sz≠0:=by intro e;subst e;simp at h0
 unfold Instr.fieldAt;simp[run_underlying ht,hf,Instr.sureAddr,fieldPlace,jv hs,this,Addr.add_lit]
theorem aR.Dj{cs:aD}{c o:Nat}(h:aR g (.vp cs) (.pointer (some ⟨c,o,none⟩)))(k:Nat):aR g (.vp (cs.drop k)) (.pointer (some ⟨c,o+k,none⟩)):=by
 cases h with
 | vp f h1 h2 h3 =>
  refine .vp (λj=>f (k+j)) (λj x hx=>h1 (k+j) x (by simpa using hx)) (λj x hx=>?_) (λj x hx=>h3 (k+j) x (by simpa using hx))
  rw[p8];exact h2 (k+j) x (by simpa using hx)
theorem zeO(cs:aD)(k:Nat):aI (cs.drop k)<=aI cs:=qK λ_ hx=>zn (Cp hx)
theorem To{sz:Nat}:∀{xs:aD}{i:Nat}{x:V},(∀y:V,y∈xs->y.cells.length=sz)->xs[i]?=some x->∀j y,x.cells[j]?=some y->(zH xs)[i * sz+j]?=some y
 | [],i,x,_,h,_,_,_=>by simp at h
 | z::xs,0,x,hs,h,j,y,hy=>by
  simp at h;subst h;simp only[zH,DZ,Nat.zero_mul,nY];rw[gb (cZ.1 hy).1];exact hy
 | z::xs,i+1,x,hs,h,j,y,hy=>by
  have hz:=hs z (eK ..);simp only[zH,DZ];rw[fI (by rw[hz,ue];omega),hz]
  have:=To (xs:=xs) (i:=i) (λy hy=>hs y (dU _ hy)) (by simpa using h) j y hy
  have e:(i+1) * sz+j - sz=i * sz+j:=by rw[ue];omega
  rw[e];exact this
theorem aR.elem{sz:Nat}{xs:aD}{ow:uN}{c o len cap:Nat}(h:aR g (.sl sz xs ow) (.slice (some ⟨c,o,none⟩) len cap)){i:Nat}{x:V}(hx:xs[i]?=some x) :
  aR g (.vp x.cells) (.pointer (some ⟨c,o+i * sz,none⟩)):=by
 cases h with
 | sl f h1 h2 h3 h4 h5 h6 =>
  have cH:xs≠[]:=by rintro rfl;simp at hx
  have he:=h3 cH;cases he;refine .vp (λj=>f (i * sz+j)) (λj y hy=>h4 _ _ (To h1 hx j y hy)) (λj y hy=>?_) (λj y hy=>h6 _ _ (To h1 hx j y hy));rw[p8];exact h5 _ _ (To h1 hx j y hy)
theorem aR.Dk{sz:Nat}{xs:aD}{ow:uN}{cv:bt}(h:aR g (.sl sz xs ow) cv):∃ad cap,cv=.slice ad xs.length cap/\xs.length<=cap/\(xs≠[]->∃c o,ad=some ⟨c,o,none⟩):=by
 cases h with
 | sl f h1 h2 h3=>exact⟨_,_,rfl,h2,λcH=>⟨_,_,h3 cH⟩⟩
theorem yY{t e:aB}{c o len cap sz:Nat}{k:IntKind}{i:Int}(ht:P.underlying t=some (.slice e))(hs:z4 P e=some sz)(h0:0<=i)(hi:i<len)(w:aP) :
  (Instr.indexAt t (.slice (some ⟨c,o,none⟩) len cap) (.int k i)).run P w=.ok (.pointer (some ⟨c,o+i.toNat * sz,none⟩)) w:=by
 unfold Instr.indexAt;simp[asIntOf,run_underlying ht,h0,hi,jv hs,Addr.add_lit]
theorem yb{t e:aB}{c o n sz:Nat}{k:IntKind}{i:Int}(ht:P.underlying t=some (.array n e))(hs:z4 P e=some sz)(h0:0<=i)(hi:i<n)(w:aP) :
  (Instr.indexAt t (.pointer (some ⟨c,o,none⟩)) (.int k i)).run P w=.ok (.pointer (some ⟨c,o+i.toNat * sz,none⟩)) w:=by
 unfold Instr.indexAt;simp[asIntOf,run_underlying ht,h0,hi,jv hs,Addr.add_lit,Instr.sureAddr]
theorem qJ{sz:Nat}:∀{xs:aD},(∀y:V,y∈xs->y.cells.length=sz)->(zH xs).length=xs.length * sz
 | [],_=>by simp[zH]
 | z::xs,hs=>by
  have:=qJ (xs:=xs) λy hy=>hs y (dU _ hy);simp only[zH,DZ,aU,aX,hs z (eK ..)] at *;rw[this,ue];omega
theorem xY(xs ys:aD):zH (xs++ys)=zH xs++zH ys:=by simp[zH]
theorem yw{sz:Nat}{xs:aD}(hs:∀y:V,y∈xs->y.cells.length=sz){b c j:Nat}{y:V}(h:(zH ((xs.take b).drop c))[j]?=some y):(zH xs)[c * sz+j]?=some y:=by
 have h1:(zH (xs.take b))[c * sz+j]?=some y:=by
  have hc:c<=(xs.take b).length:=by
   rcases eM (xs.take b).length c with bR|AN
   ·rw[List.drop_eq_nil_of_le (by omega)] at h;simp[zH] at h
   ·exact AN
  have e:zH (xs.take b)=zH ((xs.take b).take c)++zH ((xs.take b).drop c):=by rw[<- xY,Co]
  have hl:(zH ((xs.take b).take c)).length=c * sz:=by
   rw[qJ λy hy=>hs y (Cq (Cq hy)),uL,Nat.min_eq_left hc]
  rw[e,fI (by omega),hl,NM]
  exact h
 have e:zH xs=zH (xs.take b)++zH (xs.drop b):=by rw[<- xY,Co]
 rw[e,gb (cZ.1 h1).1];exact h1
theorem zeP{t:aB}{x v:V}{lo hi:b_}{cx:bt}{sM EL:Option bt}{n:Nat}(h:yX P t x lo hi=some v)(hx:aR g x cx)(iy:GZ g lo sM)(AO:GZ g hi EL)(ht:x.top<=n)(w:aP) :
  Lo P g n w (Instr.sliceAt t cx sM EL none) v:=by
 simp only[yX,Option.bind_eq_bind,eF] at h;obtain⟨ds,hd,h⟩:=h;have hu:=run_underlying hd w;split at h
 ·rename_i l;simp only[eF] at h;obtain⟨b,hb,c,hc,h⟩:=h;split at h<;>simp only[bq,reduceCtorEq] at h;rename_i hle;subst h;cases hx with
  | str h1 =>
   refine⟨.string (bytes ((l.take b).drop c)),?_,.str λy hy=>h1 y (Cq (Cp hy)),ec _,λ_ _=>trivial⟩;have cY:=xg (P:=P) (isSlice:=false) iy AO hb hc hle.1 hle.2 (dA _) w;rw[<- kI l] at cY;simp[Instr.sliceAt,hu,Instr.slice,cY,zeD]
 ·rename_i e sz xs ow;simp only[eF] at h;obtain⟨b,hb,c,hc,m,hm,h⟩:=h;split at h<;>simp only[bq,reduceCtorEq] at h;rename_i hle;obtain⟨Ig,Lp,rfl⟩:=hle;subst h;cases hx with
  | sl f h1 h2 h3 h4 h5 h6 =>
   rename_i ad cap cb o;have cY:=xg (P:=P) (isSlice:=true) iy AO hb hc Ig Lp h2 w;have hlen:((xs.take b).drop c).length=b - c:=by simp;omega
   have cH:(xs.take b).drop c≠[]->xs≠[]:=by rintro h rfl;simp at h
   refine⟨.slice (if cap=c then ad else ad.map (·.add (c * m))) (b - c) (cap - c),?_,?_,?_,λ_ _=>trivial⟩
   ·simp[Instr.sliceAt,hu,Instr.slice,cY,jv hm]
   ·rw[<- hlen];refine .sl (c:=cb) (o:=o+c * m) (λj=>f (c * m+j)) (λy hy=>h1 y (Cq (Cp hy))) (by rw[hlen];omega) (λhn=>?_) (λj x hx=>h4 _ x (yw h1 hx)) (λj x hx=>?_) (λj x hx=>h6 _ x (yw h1 hx))
    ·have:0<b - c:=by rw[<- hlen];exact K6.2 hn
     rw[if_neg (by omega),h3 (cH hn)]
     simp[Addr.add_lit]
    ·rw[p8];exact h5 _ x (yw h1 hx)
   ·exact cN (qK λy hy=>zn (Cq (Cp hy))) ht
 next e=>simp only[eF] at h;obtain⟨b,hb,c,hc,m,hm,h⟩:=h;split at h<;>simp only[bq,reduceCtorEq] at h;rename_i hle;obtain⟨rfl,rfl⟩:=hle;subst h;cases hx;have cY:=xg (P:=P) (isSlice:=true) iy AO hb hc (dA _) (dA _) (dA _) w;exact⟨.slice none 0 0,by simp[Instr.sliceAt,hu,Instr.slice,cY,jv hm],.aG,ec _,λ_ _=>trivial⟩
 ·rename_i e bb off len cap;simp only[eF] at h;obtain⟨b,hb,c,hc,m,hm,h⟩:=h;cases hx with
  | sr oc =>
   split at h
   ·rename_i hle;simp only[bq] at h;subst h;have cY:=VX (P:=P) (isSlice:=true) iy AO hb hc hle.1 hle.2.1 w;refine⟨.slice (some ⟨g.bO bb,off+c * m,none⟩) (b - c) (cap - c),?_,.sr (by omega),ht,λ_ _=>trivial⟩
    have:¬cap=c:=by omega
    simp[Instr.sliceAt,hu,Instr.slice,cY,jv hm,this,Addr.add_lit]
   ·split at h<;>simp only[bq,reduceCtorEq] at h;rename_i hle;obtain⟨rfl,hle⟩:=hle;subst h;have cY:=VX (P:=P) (isSlice:=true) iy AO hb hc (dA _) hle w;refine⟨_,by simp only[Instr.sliceAt,hu,Instr.slice,cY,jv hm,Sem.run_bind,Result.andThen_ok,Sem.run_pure];rfl,?_,ec _,λ_ _=>trivial⟩
    rw[Cu];exact .sl (c:=0) (o:=0) (λ_=>.nilFunc) (λy hy=>by simp at hy) (ec _) (λhn=>absurd rfl hn) (λj x hx=>by simp[zH] at hx) (λj x hx=>by simp[zH] at hx) (λj x hx=>by simp[zH] at hx)
 ·cases h
theorem zkn{t:aB}{sz:Nat}{xs:aD}{ow:uN}{v:V}{lo:b_}{cx:bt}{sM:Option bt}{kh km:IntKind}{hh m:Int}{n:Nat}(h:yX P t (.sl sz xs ow) lo (some (.int kh hh))=some v)(hx:aR g (.sl sz xs ow) cx)(iy:GZ g lo sM)(hm:hh<=m)(gG:m<=xs.length)
  (ht:(V.sl sz xs ow).top<=n) (w:aP):Lo P g n w (Instr.sliceAt t cx sM (some (.int kh hh)) (some (.int km m))) v:=by
 simp only[yX,Option.bind_eq_bind,eF] at h;obtain⟨ds,hd,h⟩:=h;have hu:=run_underlying hd w;cases ds<;>simp only[reduceCtorEq] at h;simp only[eF] at h;obtain⟨b,hb,c,hc,m',Pn,h⟩:=h;split at h<;>simp only[bq,reduceCtorEq] at h;rename_i hle;obtain⟨Ig,Lp,rfl⟩:=hle;subst h;simp only[j8] at hb;split at hb<;>simp only[bq,reduceCtorEq] at hb;rename_i h0;subst hb;cases hx with
 | sl f h1 h2 h3 h4 h5 h6 =>
  rename_i ad cap cb o;have cY:=zh9 (P:=P) (isSlice:=true) (len:=xs.length) (cap:=cap) (k:=kh) (k':=km) iy hc h0 Ig hm (by omega) w
  have hlen:((xs.take hh.toNat).drop c).length=hh.toNat - c:=by simp;omega
  have cH:(xs.take hh.toNat).drop c≠[]->xs≠[]:=by rintro h rfl;simp at h
  refine⟨.slice (if m.toNat=c then ad else ad.map (·.add (c * m'))) (hh.toNat - c) (m.toNat - c),?_,?_,?_,λ_ _=>trivial⟩
  ·simp[Instr.sliceAt,hu,Instr.slice,cY,jv Pn]
  ·rw[<- hlen];refine .sl (c:=cb) (o:=o+c * m') (λj=>f (c * m'+j)) (λy hy=>h1 y (Cq (Cp hy))) (by rw[hlen];omega) (λhn=>?_) (λj x hx=>h4 _ x (yw h1 hx)) (λj x hx=>?_) (λj x hx=>h6 _ x (yw h1 hx))
   ·have:0<hh.toNat - c:=by rw[<- hlen];exact K6.2 hn
    rw[if_neg (by omega),h3 (cH hn)]
    simp[Addr.add_lit]
   ·rw[p8];exact h5 _ x (yw h1 hx)
  ·exact cN (qK λy hy=>zn (Cq (Cp hy))) ht
end
section
variable{P:aQ}{B:dR}{g:Gh}{s:St}{a:Act}{w:aP}
def ij(_P:aQ)(gl:Nat->Nat->b_)(g:Gh):Prop:=(∀k off v,gl k off=some v->∃cv,g.M k off=some cv/\aR g v cv/\v.top=0) /\
 ∀k U j,gl k 0=some (.dF U (.obj j))->g.obj.lo (g.obj j).block/\∀k' U' j',gl k' 0=some (.dF U' (.obj j'))->g.obj j=g.obj j'->j=j'
theorem ij.le{gl:Nat->Nat->b_}{n:Nat}{g g':Gh}(hg:Gh.Le n g g')(h:ij P gl g):ij P gl g':=by
 refine⟨λk off v hv=>?_,λk U j hv=>?_⟩
 ·obtain⟨cv,h1,h2,h3⟩:=h.1 k off v hv;exact⟨cv,hg.M _ _ _ h1,h2.le hg (by omega),h3⟩
 ·rw[hg.obj];exact h.2 k U j hv
theorem vO(v:V):∀sz xs e,aV v≠.sl sz xs (.yes e):=by
 intro sz xs e;cases v<;>simp[aV]
theorem xh(h:Rel B g s a w){b:Nat}{cs:aD}{t:aB}(hb:s.H.get b=some (.cells cs t)) :
  ∃arr,w.heap[g.bO b]?=some (.cells arr t (0,0))/\bK g cs arr.toList/\aI cs<=s.H.az.length/\(∀(j:Nat)(x:V)(v:bt),cs[j]?=some x->arr[j]?=some v->cL g s.H.az.length w (.cell b j) x v/\Pj g b j x v):=by
 simp only[Hp.get,zg] at hb;obtain⟨arr,h1,h2,h3⟩:=h.cX.ok b _ hb;have ht:=h.cX.aI b _ hb;refine⟨arr,h1,⟨by simpa using h2,λj x hx=>?_,λj x v hx hv=>(h3 j x v hx (by simpa using hv)).2.1⟩,ht,λj x v hx hv=>(h3 j x v hx hv).2.2⟩
 have hj:j<arr.size:=by rw[<- h2];exact(cZ.1 hx).1
 exact(h3 j x arr[j] hx (EH hj)).1
theorem zlo{w:aP}{e:aB}{sz c len cap:Nat}{vs:dw}(h:w.ownsRow 0 e sz (.slice (some ⟨c,0,none⟩) len cap) len vs){j:Nat}{v:bt}(hj:vs[j]?=some v):w.cell? ⟨c,j,none⟩=some v:=by
 obtain⟨_,h|⟨c',oM,cur,hv,_,hb,_,_,_,hx⟩⟩:=h
 ·cases h.1
 ·cases hv;refine(cell_of_row w c j cur e (0,0) hb).trans ?_;rw[<- hx,AK] at hj;split at hj
  ·simpa using hj
  ·cases hj
theorem Tp(h:Rel B g s a w){b eI sz:Nat}{cs:aD}{e:aB}(hb:s.H.get b=some (.ul eI sz cs e)) :
  ∃c len cap vs,Ia g s.H.az.length w b eI sz cs e c len cap vs/\bK g cs vs/\aI cs<=s.H.az.length:=by
 simp only[Hp.get,zg] at hb;obtain⟨c,len,cap,vs,hu⟩:=h.cX.ok b _ hb;have ht:=h.cX.aI b _ hb;refine⟨c,len,cap,vs,hu,⟨hu.len,λj x hx=>?_,λj x v hx hv=>(hu.cells j x v hx hv).2⟩,ht⟩;have hj:j<vs.length:=by rw[<- hu.len];exact(cZ.1 hx).1
 exact(hu.cells j x vs[j] hx (gj hj)).1
theorem zgK(h:Rel B g s a w){gl:Nat->Nat->b_}(rN:ij P gl g){t:aB}{p v:V}{cp:bt}(hp:aR g p cp)(hpt:p.top<=s.H.az.length)(hv:zk P s.H gl t p=some v) :
  ∃cv,(Instr.loadAt t cp).run P w=.ok cv w/\aR g v cv/\v.top<=s.H.az.length:=by
 simp only[zk] at hv;split at hv
 ·rename_i b off;simp only[Option.bind_eq_bind,eF] at hv;obtain⟨x,hx,hv⟩:=hv;split at hv<;>try (cases hv;done)
  rename_i cs ty;obtain⟨arr,h1,h2,h3,_⟩:=xh h hx;cases hp;obtain⟨cv,c1,c2,c3⟩:=VW (P:=P) (w:=w) h2 (c:=g.bO b) (o:=0) (λj v hj=>by rw[nY,cell_of_row w _ j arr ty (0,0) h1];simpa using hj) hv
  rw[nY] at c1;exact⟨cv,by simpa[Instr.loadAt,Instr.sureAddr] using c1,c2,cN c3 h3⟩
 ·rename_i cs;cases hp with
  | vp f h1 h2 h3 =>
   rename_i c o
   have ef:bK g cs ((List.range cs.length).map f):=⟨by simp,h1,λj x v hx hv=>by
    have hj:=(cZ.1 hx).1;simp[hj] at hv;subst hv
    exact h3 j x hx⟩
   obtain⟨cv,c1,c2,c3⟩:=VW (P:=P) (w:=w) ef (c:=c) (o:=o) (λj v hj=>by
    have sO:j<cs.length:=by have:=(cZ.1 hj).1;simpa using this
    have hx:cs[j]?=some cs[j]:=gj sO;have e:f j=v:=by simpa[sO] using hj
    rw[<- e]
    exact h.cX.mem _ _ _ (h2 j _ hx)) hv
   rw[nZ] at c1;exact⟨cv,by simpa[Instr.loadAt,Instr.sureAddr] using c1,c2,cN c3 (by simpa[V.top] using hpt)⟩
 ·rename_i b u k;simp only[Option.bind_eq_bind,eF] at hv;obtain⟨x,hx,hv⟩:=hv;split at hv<;>try (cases hv;done)
  rename_i eI sz cs e;split at hv
  ·rename_i VY;have:=eG VY;subst this;obtain⟨c,len,cap,vs,hu,h2,h3⟩:=Tp h hx;cases hp with
   | gh k hh =>
    rw[hu.eY] at hh;cases hh;obtain⟨cv,c1,c2,c3⟩:=VW (P:=P) (w:=w) h2 (c:=c) (o:=0) (λj v hj=>by rw[nY];exact zlo hu.row hj) hv
    exact⟨cv,by simpa[Instr.loadAt,Instr.sureAddr] using c1,c2,cN c3 h3⟩
  ·cases hv
 ·rename_i k off;simp only[Option.bind_eq_bind,eF] at hv;obtain⟨b,hb,hv⟩:=hv;split at hv
  ·cases hv
  ·rename_i cY;obtain⟨cv,c1,c2,c3⟩:=rN.1 k off v hv;cases hp;refine⟨cv,?_,c2,by omega⟩
   have hbf:b=false:=by simpa using cY
   subst hbf;simp[Instr.loadAt,Instr.sureAddr,loadVar,Tn hb,h.cX.mem _ _ _ c1]
 ·cases hv
theorem zko(l:bM)(i:Nat):(bytes l)[i]?=(l[i]?).map UInt8.ofNat:=by
 by_cases hi:i<l.length
 ·have h1:i<(bytes l).size:=by rw[kI];exact hi
  rw[getElem?_pos (bytes l) i h1,gj hi];simp only[aS,bq];show(bytes l).data[i]=_;simp[bytes]
 ·rw[getElem?_neg (bytes l) i (by rw[kI];exact hi),uI (by omega)]
  rfl
theorem zfx{t:aB}{l:bM}{k:IntKind}{i:Int}{b:Nat}(ht:P.underlying t=some .string)(hl:∀c:Nat,c∈l->c<256)(h0:¬i<0)(hb:l[i.toNat]?=some b)(w:aP) :
  (Instr.index t (.string (bytes l)) (.int k i)).run P w=.ok (.int .u8 b) w:=by
 have cY:b<256:=hl b (zv hb);have hi:0<=i:=by omega
 unfold Instr.index;simp[asIntOf,run_underlying ht,hi,zko,hb,UInt8.toNat_ofNat',Fb cY]
theorem zeE{t e:aB}{cs:aD}{arr:dM}{len n:Nat}{k:IntKind}{i:Int}{v:V}(ht:P.underlying t=some (.array len e))(hn:z4 P e=some n)(hr:bK g cs arr.toList)(h0:0<=i)(hi:i<len)
  (hv:wg P e cs (i.toNat * n)=some v) (w:aP):∃cv,(Instr.index t (.agg arr) (.int k i)).run P w=.ok cv w/\aR g v cv/\v.top<=aI cs:=by
 obtain⟨cv,c1,c2,c3,_⟩:=NU (P:=P) hr hv w;refine⟨cv,?_,c2,c3⟩;unfold Instr.index;simp[asIntOf,run_underlying ht,h0,hi,jv hn,c1]
theorem nI:∀{xs:aD}{l:bM},nD xs=some l->∃ns:List Int,xs=ns.map (V.int .u8)/\l=ns.map λn=>n.toNat % 256
 | [],l,h=>by simp only[nD,bq] at h;subst h;exact⟨[],rfl,rfl⟩
 | x::xs,l,h=>by
  unfold nD at h;split at h
  next e=>cases e
  next n r e=>cases e;simp only[mQ] at h;obtain⟨l',hl,rfl⟩:=h;obtain⟨ns,rfl,rfl⟩:=nI hl;exact⟨n::ns,rfl,rfl⟩
  ·cases h
theorem rO:∀(ns:List Int)(l:bM),ns.foldl (λr n=>r.push (UInt8.ofNat n.toNat)) (bytes l)=bytes (l++ns.map λn=>n.toNat % 256)
 | [],l=>by simp
 | n::ns,l=>by
  have e:(bytes l).push (UInt8.ofNat n.toNat)=bytes (l++[n.toNat % 256]):=by
   apply ByteArray.ext;have:UInt8.ofNat (n.toNat % 256)=UInt8.ofNat n.toNat:=by
    apply UInt8.toNat_inj.1;simp[UInt8.toNat_ofNat']
   simp[bytes,ByteArray.push,this]
  simp only[List.foldl_cons,e,rO ns,bg,a_,List.singleton_append]
theorem zdx{xs:aD}{ow:uN}{cx:bt}{l:bM}(h:nD xs=some l)(hx:aR g (.sl 1 xs ow) cx)(dI:∀c o u,g.M c o=some u->w.cell? ⟨c,o,none⟩=some u) :
  (Conv.bytesToString cx).run P w=.ok (.string (bytes l)) w/\∀b:Nat,b∈l->b<256:=by
 obtain⟨ns,rfl,rfl⟩:=nI h;refine⟨?_,λb hb=>?_⟩
 ·cases hx with
  | sl f h1 h2 h3 h4 h5 h6 =>
   rename_i ad cap c o;cases ad with
   | none =>
    have:ns=[]:=by
     cases ns with
     | nil=>rfl
     | cons n ns=>have:=h3 (by simp);cases this
    subst this;rfl
   | some ad =>
    have nk:zH (ns.map (V.int .u8))=ns.map (V.int .u8):=by
     clear h h1 h2 h3 h4 h5 h6
     induction ns with
     | nil=>rfl
     | cons n ns ih=>simp only[zH,bg,DZ,V.cells] at *;rw[ih];rfl
    have hl:(loadCells ad (ns.map (V.int .u8)).length).run P w=.ok (ns.map (Value.int .u8)).toArray w:=by
     have:=run_loadCells_list (P:=P) w ad (ns.map (Value.int .u8)) (λj v hj=>by
      simp only[iX,mQ] at hj;obtain⟨n,hn,rfl⟩:=hj;have pL:(zH (ns.map (V.int .u8)))[j]?=some (.int .u8 n):=by rw[nk];simp[hn]
      have cH:ns.map (V.int .u8)≠[]:=by rintro e;simp at e;subst e;simp at hn
      have e:=h3 cH;cases e;rw[Addr.add_lit];have h7:=h6 j _ pL;have h8:=dI _ _ _ (h5 j _ pL);generalize f j=u at h7 h8;cases h7
      exact h8)
     simpa using this
    rw[run_bytesToString w ad _ cap ns hl];have:=rO ns [];have e0:bytes []=ByteArray.empty:=rfl;rw[e0] at this;rw[this];rfl
 ·obtain⟨n,_,rfl⟩:=mg.1 hb;omega
theorem zlp{src dst:aB}{x v:V}{cx:bt}{n:Nat}(h:vy P src dst x=some v)(hx:aR g x cx)(oN:∀s,x≠.str s\/P.underlying dst=some .string)(dI:∀c o u,g.M c o=some u->w.cell? ⟨c,o,none⟩=some u):Lo P g n w (convert src dst cx) v:=by
 simp only[vy,Option.bind_eq_bind,eF] at h;obtain⟨ds,hs,dd,hd,h⟩:=h;have CB:=run_underlying hs w;have VZ:=run_underlying hd w;split at h
 ·simp only[bq] at h;subst h;cases hx;exact⟨.int _ _,by simp[convert,CB,VZ,Conv.intToInt],.int _ _,ec _,λ_ _=>trivial⟩
 ·rename_i k m;simp only[bq] at h;subst h;cases hx;have e:Utf8.encode m=bytes ((Utf8.encode m).data.toList.map UInt8.toNat):=by
   apply ByteArray.ext;simp[bytes,Function.comp_def]
  refine⟨.string (bytes ((Utf8.encode m).data.toList.map UInt8.toNat)),by rw[<- e];simp[convert,CB,VZ,Conv.intToString],.str λb hb=>?_,ec _,λ_ _=>trivial⟩
  obtain⟨c,_,rfl⟩:=mg.1 hb;exact c.toNat_lt
 ·simp only[bq] at h;subst h;cases hx with
  | str h1=>exact⟨_,by simp[convert,CB,VZ],.str h1,ec _,λ_ _=>trivial⟩
 ·rename_i e;simp only[eF] at h;obtain⟨d8,h8,h⟩:=h;split at h<;>simp only[bq,reduceCtorEq] at h;subst h;cases hx;refine⟨.string (bytes []),?_,.str (by simp),ec _,λ_ _=>trivial⟩
  rw[run_convert_bytes_string w src dst e _ _ _ hs h8 hd];rfl
 ·rename_i e xs ow;simp only[eF] at h;obtain⟨d8,h8,h⟩:=h;split at h<;>try (cases h;done)
  simp only[mQ] at h;obtain⟨l,hl,rfl⟩:=h;obtain⟨ad,cap,rfl,_,_⟩:=hx.Dk;obtain⟨c1,c2⟩:=zdx (P:=P) hl hx dI;refine⟨.string (bytes l),?_,.str c2,ec _,λ_ _=>trivial⟩;rw[run_convert_bytes_string w src dst e _ _ _ hs h8 hd];exact c1
 ·rename_i l _ _;rcases oN _ with hn|hn
  ·exact absurd rfl hn
  ·rw[hd] at hn;cases hn
 ·cases h
theorem yx{t:aB}{v:V}(h:qP P t=some v)(w:aP):∃cv,(zeroValue t).run P w=.ok cv w/\aR g v cv/\v.top=0/\(∀k l,cL g k w l v cv)/\(P.info? t).bind (·.zero)=some cv:=by
 simp only[qP,eF] at h;obtain⟨i,hi,z,hz,hv⟩:=h;obtain⟨h1,h2⟩:=VV g z v hv;refine⟨z,?_,h1,h2,λk l=>zeN hv,by simp[hi,hz]⟩
 simp[zeroValue,typeInfo,hi,hz]
end
section
variable{P:aQ}{B:dR}{g:Gh}{s:St}{a:Act}{w:aP}
def Lq(P:aQ)(B:dR)(s:St)(a:Act)(w:aP)(_g:Gh)(o:Oper)(v:V):Prop :=
 ∃g' cv w',(execOp a.eval o).run P w=.ok (.value cv) w'/\Ea B g' s a w' o.dst v cv
theorem vP(h:Rel B g s a w){o:Oper}{m:Sem bt}{v:V}(hm:Lo P g s.H.az.length w m v)(he:execOp a.eval o=(do pure (.value (<- m)))):Lq P B s a w g o v:=by
 obtain⟨cv,h1,h2,h3,h4⟩:=hm;exact⟨g,cv,w,by rw[he];simp[h1],⟨h,h2,λ_ _=>h4 _ _,h3⟩⟩
theorem Tq(h:Rel B g s a w):∀{xs:List aW}{vs:aD},av s.env xs=some vs ->
  vs.length=xs.length/\(∀(j:Nat)(x:V)(v:bt),vs[j]?=some x->(xs.map a.eval)[j]?=some v->aR g x v)/\aI vs<=s.H.az.length/\∀x∈vs,∀sz ys e,x≠.sl sz ys (.yes e)
 | [],vs,hp=>by simp only[av,bq] at hp;subst hp;exact⟨rfl,λj x v hx=>by simp at hx,ec _,λx hx=>by simp at hx⟩
 | x::xs,vs,hp=>by
  simp only[av,qp] at hp;split at hp
  ·cases hp
  ·rename_i v hv;split at hp<;>simp only[bq,reduceCtorEq] at hp;rename_i ys tQ;subst hp;obtain⟨h1,h2,h3⟩:=zI h hv;obtain⟨i1,i2,i3,i4⟩:=Tq h tQ;refine⟨by simp[i1],λj y u hy hu=>?_,by simp only[aI];exact uf.2 ⟨h2,i3⟩,λy hy=>?_⟩
   ·cases j with
    | zero=>simp at hy hu;subst hy;subst hu;exact h1
    | succ j=>simp at hy;exact i2 j y u hy (by simpa using hu)
   ·rcases dG.1 hy with rfl|hy
    ·intro sz ys e he;subst he;cases x with
     | tmp t =>
      simp only[ak] at hv;split at hv<;>simp only[bq,reduceCtorEq] at hv;exact vO _ _ _ _ hv
     | const c =>
      simp only[ak] at hv;unfold aj at hv;split at hv<;>try (simp at hv;done)
      all_goals (simp only[eF] at hv;obtain⟨l,_,hv⟩:=hv;split at hv<;>simp at hv)
     | global k=>simp[ak] at hv
     | func f=>simp[ak] at hv
    ·exact i4 y hy
structure nJ(g:Gh)(es:List (V×V))(en:List MapEntry):Prop where
 len:es.length=en.length
 rel:∀(j:Nat)(x:V×V)(e:MapEntry),es[j]?=some x->en[j]?=some e->aR g x.1 e.key/\aR g x.2 e.val
theorem nJ.tail{x:V×V}{es:List (V×V)}{e:MapEntry}{en:List MapEntry}(h:nJ g (x::es) (e::en)):nJ g es en/\aR g x.1 e.key/\aR g x.2 e.val :=
 ⟨⟨by have:=h.len;simpa using this,λj y f hy hf=>h.rel (j+1) y f (by simpa using hy) (by simpa using hf)⟩,h.rel 0 x e (by simp) (by simp)⟩
theorem yy{kd:TypeDesc}{k x:V}{ck cx:bt}{b:Bool}(hk:v6 kd k=true)(h:JP k x=some b)(h1:aR g k ck)(h2:aR g x cx):Instr.sameNow kd ck cx=some b:=by
 unfold JP at h;split at h
 ·split at h<;>simp only[bq,reduceCtorEq] at h;rename_i e;subst h;subst e;cases h1;cases h2;cases kd<;>simp[v6] at hk;simp[Instr.sameNow]
 ·simp only[bq] at h;subst h;cases h1 with
  | str b1=>cases h2 with
   | str b2 =>
    cases kd<;>simp[v6] at hk;simp only[Instr.sameNow,beq_toListBytes,vo,pK _ _ b1 b2]
 ·simp only[bq] at h;subst h;cases h1;cases h2;cases kd<;>simp[v6] at hk;simp[Instr.sameNow]
 ·cases h
theorem zgL{kd:TypeDesc}{k:V}{ck:bt}(hk:v6 kd k=true)(h1:aR g k ck):∀{es:List (V×V)}{en:List MapEntry}(i:Nat){r:b_},nJ g es en->JQ k es=some r ->
  ∃r',Instr.findNow kd ck en i=some r'/\match r,r' with
   | none,none=>True
   | some v,some (_,cv)=>aR g v cv/\∃x∈es,x.2=v
   | _,_=>False
 | [],[],i,r,_,h=>by simp only[JQ,bq] at h;subst h;exact⟨none,rfl,trivial⟩
 | [],_::_,i,r,hr,h=>by have:=hr.len;simp at this
 | _::_,[],i,r,hr,h=>by have:=hr.len;simp at this
 | (x,v)::es,e::en,i,r,hr,h=>by
  obtain⟨ht,hx,hv⟩:=hr.tail;simp only[JQ] at h;split at h
  next pM=>simp only[bq] at h;subst h;refine⟨some (i,e.val),?_,hv,_,eK ..,rfl⟩;simp[Instr.findNow,yy hk pM h1 hx]
  ·rename_i pM;obtain⟨r',h3,h4⟩:=zgL hk h1 (i+1) ht h;refine⟨r',by simp[Instr.findNow,yy hk pM h1 hx,h3],?_⟩
   cases r<;>cases r'
   ·trivial
   ·exact h4
   ·exact h4
   ·obtain⟨h5,y,hy,V0⟩:=h4;exact⟨h5,y,dU _ hy,V0⟩
  ·cases h
theorem zfy(n:Nat){kt:aB}{kd:TypeDesc}(tU:P.underlying kt=some kd){k:V}{ck:bt}(hk:v6 kd k=true)(h1:aR g k ck)(e:Bool)(w:aP):(Instr.checkKey e (n+1) kt ck).run P w=.ok () w:=by
 have hu:=run_underlying tU w;cases kd<;>cases k<;>simp[v6] at hk
 all_goals (cases h1;simp[Instr.checkKey,hu])
theorem zcK{kt:aB}{kd:TypeDesc}(tU:P.underlying kt=some kd){k:V}{ck:bt}(hk:v6 kd k=true)(h1:aR g k ck)(e:Bool)(w:aP):(Instr.checkKey e 10000 kt ck).run P w=.ok () w :=
 zfy 9999 tU hk h1 e w
theorem xZ(h:Rel B g s a w){b:Nat}{es:List (V×V)}(hb:s.H.get b=some (.map es)) :
  ∃en ck,w.heap[g.bO b]?=some (.map en ck)/\nJ g es en.toList/\aI (es.map (·.1))<=s.H.az.length/\aI (es.map (·.2))<=s.H.az.length:=by
 simp only[Hp.get,zg] at hb;obtain⟨en,ck,h1,h2,h3⟩:=h.cX.ok b _ hb;have ht:=uf.1 (show max (aI (es.map (·.1))) (aI (es.map (·.2)))<=_ from h.cX.aI b _ hb);exact⟨en,ck,h1,⟨by simpa using h2,λj x e hx he=>h3 j x e hx (by simpa using he)⟩,ht.1,ht.2⟩
theorem zkp(h:Rel B g s a w){t kt e:aB}{kd:TypeDesc}{m k v:V}{cm ck:bt}{es:List (V×V)}{b ok:Bool}(ht:P.underlying t=some (.map kt e))(tU:P.underlying kt=some kd)(hk:v6 kd k=true)
  (hm:aR g m cm) (Lr:aR g k ck) (AP:xf s.H m=some es) (hf:NR P e k es=some (v,b)) :
  Lo P g s.H.az.length w (Instr.lookup t cm ck ok) (if ok then .br [aV v,.bool b] else aV v):=by
 have main:∃en:List MapEntry,nJ g es en/\aI (es.map (·.2))<=s.H.az.length/\∀(K:Array MapEntry->Sem bt),(do
   let es <- match cm with
    | .map none=>pure #[]
    | .map (some r)=>do
     let .map es _ <- getObj r|stuck "Lookup: map expected"
     pure es
    | _=>stuck "Lookup: map expected"
   K es:Sem bt).run P w=(K en.toArray).run P w:=by
  unfold xf at AP;split at AP
  ·simp only[bq] at AP;subst AP;cases hm;exact⟨[],⟨rfl,λj x e hx=>by simp at hx⟩,ec _,λK=>by simp⟩
  next bb=>split at AP<;>simp only[bq,reduceCtorEq] at AP;rename_i iC hb;subst AP;cases hm;obtain⟨en,clock,h1,h2,_,h3⟩:=xZ h hb;exact⟨en.toList,h2,h3,λK=>by simp[getObj,Sem.run,h1]⟩
  ·cases AP
 obtain⟨en,V1,uO,cw⟩:=main
 have G0:∃cv,∀(K:bt×Bool->Sem bt),(do
   Instr.checkKey en.toArray.isEmpty 10000 kt ck
   let x <- match <- Instr.findKey kt ck en.toArray.toList with
    | some (_,v)=>pure (v,true)
    | none=>pure (<- zeroValue e,false)
   K x:Sem bt).run P w=(K (cv,b)).run P w/\aR g v cv/\v.top<=s.H.az.length:=by
  unfold NR at hf;cases Tr:JQ k es with
  | none=>rw[Tr] at hf;cases hf
  | some r =>
   obtain⟨r',h1,h2⟩:=zgL hk Lr 0 V1 Tr;have Eb:=λb=>zcK (P:=P) tU hk Lr b w;cases r with
   | some v' =>
    rw[Tr] at hf;simp only[bq,cq] at hf;obtain⟨rfl,rfl⟩:=hf;cases r' with
    | none=>exact h2.elim
    | some ic =>
     obtain⟨i,cv⟩:=ic;obtain⟨h3,y,hy,V0⟩:=h2;refine⟨cv,λK=>⟨?_,h3,?_⟩⟩
     ·simp[Eb,Instr.findKey,run_underlying tU,h1]
     ·rw[<- V0];exact cN (zn (HQ (f:=(·.2)) hy)) uO
   | none =>
    rw[Tr] at hf;simp only[mQ,cq] at hf;obtain⟨z,hz,rfl,rfl⟩:=hf;cases r' with
    | some ic=>obtain⟨i,cv⟩:=ic;exact h2.elim
    | none =>
     obtain⟨cz,z1,z2,z3,_⟩:=yx (g:=g) hz w;refine⟨cz,λK=>⟨?_,z2,by omega⟩⟩
     simp[Eb,Instr.findKey,run_underlying tU,h1,z1]
 obtain⟨cv,G0⟩:=G0;have hrel:=(G0 (λ_=>pure .nilFunc)).2;refine⟨if ok then .tuple #[cv,.bool b] else cv,?_,?_,?_,λk l=>zjg ?_⟩
 ·unfold Instr.lookup;simp only[Sem.run_bind,run_underlying ht,Result.andThen_ok]
  have e1:=cw (λes=>do
   Instr.checkKey es.isEmpty 10000 kt ck
   let (v,ok') <- match <- Instr.findKey kt ck es.toList with
    | some (_,v)=>pure (v,true)
    | none=>pure (<- zeroValue e,false)
   pure (if ok then .tuple #[v,.bool ok'] else v))
  have e2:=(G0 (λx=>pure (if ok then .tuple #[x.1,.bool x.2] else x.1))).1
  simp only[Sem.run_bind] at e1;refine Eq.trans e1 ?_;refine Eq.trans ?_ e2;simp only[Sem.run_bind]
 ·cases ok with
  | true =>
   refine .br rfl λj x u hx hu=>?_;rcases j with _|_|j
   ·simp at hx hu;subst hx;subst hu;exact hrel.1.aV
   ·simp at hx hu;subst hx;subst hu;exact .bool b
   ·simp at hx
  | false=>exact hrel.1.aV
 ·cases ok with
  | true=>simp only[aF,V.top,aI,jl];have:=hrel.2;omega
  | false=>simp only[fR,bw,jl];exact hrel.2
 ·cases ok with
  | true=>intro sz xs e he;simp at he
  | false=>intro sz xs e he;exact vO v sz xs e (by simpa using he)
end
section
variable{P:aQ}{B:dR}{g:Gh}{s:St}{a:Act}{w:aP}
theorem yz{w w':aP}{c:Nat}(hh:w'.heap[c]?=w.heap[c]?)(o:Nat):w'.cell? ⟨c,o,none⟩=w.cell? ⟨c,o,none⟩:=by
 simp[World.cell?,hh]
theorem vq{c o:Nat}{v:bt}(h:w.cell? ⟨c,o,none⟩=some v):c<w.heap.size:=by
 rcases eM c w.heap.size with h1|h1
 ·exact h1
 ·simp[World.cell?,Array.getElem?_eq_none h1] at h
def Gh.row(g:Gh)(N:Nat)(vs:dw)(l:Option Loc):Gh :=
 {g with M:=λc o=>if c=N then vs[o]? else g.M c o,own:=λc=>if c=N then l else g.own c }
theorem Rel.settle(h:Rel B g s a w)(vs:dw)(l:Option Loc){w':aP}(fq:w.heap.size<w'.heap.size)(hold:∀c,c<w.heap.size->w'.heap[c]?=w.heap[c]?)
  (cU:∀o v,vs[o]?=some v->w'.cell? ⟨w.heap.size,o,none⟩=some v) (pN:w'.os=w.os) (ht:w'.tape=w.tape) (nK:w'.output=w.output) :
  Rel B (g.row w.heap.size vs l) s a w':=by
 have hM:∀c o v,g.M c o=some v->c<w.heap.size:=λc o v hv=>vq (h.cX.mem c o v hv);refine h.i_ (b0:=none) (l0:=none) ?_ (dA _) (λ_ _ _=>rfl) (λb x hb hx=>?_) (λb h1 h2=>?_) (λb b' h1 h2=>?_) (λc o v hv=>?_) (λc l' hc=>?_) (λb j e=>by cases e) rfl rfl
  (λt x hx=>⟨x,hx,.inl ⟨rfl,λe=>by cases e⟩⟩) h.bG h.lP h.ou (λ_ e=>by cases e)
 ·refine⟨⟨λc o v hv=>?_,λ_ _=>rfl,rfl,λ_ _ _ _ e=>e⟩,λc hc _ _=>hold c hc,λc hc _=>?_,λc hc _ o=>?_,Nat.le_of_lt fq,λ_ _ _=>rfl,λl' mT=>(by cases mT),λb hb=>(by cases hb),λ_ _ _ _=>rfl,pN,ht,nK⟩
  ·have:=hM c o v hv;simp only[Gh.row];rw[if_neg (by omega)]
   exact hv
  ·simp only[Gh.row];rw[if_neg (by omega)]
  ·simp only[Gh.row];rw[if_neg (by omega)]
 ·rcases hb with hb|hb
  ·cases hb
  ·have:=(cZ.1 hx).1;omega
 ·omega
 ·omega
 ·simp only[Gh.row] at hv;split at hv
  next e=>subst e;exact cU o v hv
  ·rw[yz (hold c (hM c o v hv))];exact h.cX.mem c o v hv
 ·simp only[Gh.row] at hc;split at hc
  next e=>omega
  ·exact Nat.lt_trans (h.cX.eD c l' hc) fq
theorem aR.settled{n sz cap:Nat}{xs:aD}{vs:dw}{ow:uN}{N:Nat}{l:Option Loc}(hx:∀y:V,y∈xs->y.cells.length=sz)(oc:xs.length<=cap)(ef:bK g (zH xs) vs)(ht:aI (zH xs)<=n)
  (hle:Gh.Le n g (g.row N vs l)):aR (g.row N vs l) (.sl sz xs ow) (.slice (some ⟨N,0,none⟩) xs.length cap):=by
 refine .sl (c:=N) (o:=0) (λj=>vs.getD j .nilFunc) hx oc (λ_=>rfl) ef.one (λj x hj=>?_) (λj x hj=>?_)
 ·obtain⟨v,hv,_⟩:=ef.get hj;simp[Gh.row,hv,List.getD]
 ·obtain⟨v,hv,hr⟩:=ef.get hj;have:=hr.le hle (cN (zn (zv hj)) ht);simpa[List.getD,hv] using this
end
section
variable{P:aQ}{B:dR}{g:Gh}{s:St}{a:Act}{w:aP}
theorem Ih(h:Rel B g s a w){x:Option aW}{v:b_}(hv:cQ s.env x=some v):GZ g v (x.map a.eval):=by
 cases x with
 | none=>simp only[cQ,bq] at hv;subst hv;trivial
 | some x =>
  simp only[cQ] at hv;split at hv<;>simp only[bq,reduceCtorEq] at hv;rename_i u hu;subst hv;exact(zI h hu).1
theorem zgM(h:Rel B g s a w){x:aW}{u v:V}(hu:ak s.env x=some u)
  (hv:aa u=some v) :
  ∃cv,aR g v cv/\v.top<=s.H.az.length/\(∀m l,cL g m w l v cv)/\cv=a.eval x/\((∃p,cv=.pointer (some p))\/(∃f fa fc,cv=.func (.func f) fa fc)\/∃t u,cv=.iface t u):=by
 obtain⟨h1,h2,h3⟩:=zI h hu;generalize a.eval x=cv at h1 h3;unfold aa at hv;split at hv<;>simp only[bq,reduceCtorEq] at hv
 all_goals
  subst hv;refine⟨cv,h1,h2,h3,rfl,?_⟩;cases h1
  first
   |exact .inl ⟨_,rfl⟩
   |exact .inr (.inl ⟨_,_,_,rfl⟩)
   |exact .inr (.inr ⟨_,_,rfl⟩)
theorem bK.set{cs:aD}{vs:dw}(h:bK g cs vs){x:V}{v:bt}(h1:x.one=true)(hr:aR g x v)(i:Nat):bK g (cs.set i x) (vs.set i v):=by
 refine⟨by simp[h.len],λj y hy=>?_,λj y u hy hu=>?_⟩
 ·rw[tL] at hy;split at hy
  ·split at hy<;>simp only[bq,reduceCtorEq] at hy;subst hy;exact h1
  ·exact h.one j y hy
 ·rw[tL] at hy hu;split at hy
  ·rename_i e;split at hy<;>simp only[bq,reduceCtorEq] at hy;rename_i hi;rw[if_pos e,if_pos (by rw[<- h.len];exact hi)] at hu
   simp only[bq] at hu;subst hy;subst hu;exact hr
  next e=>rw[if_neg e] at hu;exact h.rel j y u hy hu
theorem bK.tail{x:V}{xs:aD}{u:bt}{us:dw}(h:bK g (x::xs) (u::us)):x.one=true/\aR g x u/\bK g xs us :=
 ⟨h.one 0 x rfl,h.rel 0 x u rfl rfl,⟨by have:=h.len;simpa using this,λj y hy=>h.one (j+1) y (by simpa using hy),λj y v hy hv=>h.rel (j+1) y v (by simpa using hy) (by simpa using hv)⟩⟩
theorem bK.store:∀{xs:aD}{us:dw}{cs:aD}{vs:dw}(off:Nat),bK g cs vs->bK g xs us->bK g (storeCells cs off xs) (storeCells vs off us)
 | [],[],_,_,_,h,_=>h
 | [],_::_,_,_,_,_,hx=>by have:=hx.len;simp at this
 | _::_,[],_,_,_,_,hx=>by have:=hx.len;simp at this
 | x::xs,u::us,cs,vs,off,h,hx=>by
  obtain⟨h1,h2,h3⟩:=hx.tail;exact bK.store (off+1) (h.set h1 h2 off) h3
theorem vr{v:V}{cv:bt}(hr:aR g v cv)(hc:dz v=true):bK g v.cells cv.cells.toList:=by
 by_cases ha:∃cs,v=.agg cs
 ·obtain⟨cs,rfl⟩:=ha;obtain⟨arr,rfl,h⟩:=vn hr;exact h
 ·have h1:v.one=true:=by
   cases v<;>first
    |rfl
    |(simp[dz] at hc;done)
    |exact absurd ⟨_,rfl⟩ ha
  have e1:v.cells=[v]:=by
   cases v<;>first
    |rfl
    |exact absurd ⟨_,rfl⟩ ha
  have e2:cv.cells.toList=[cv]:=by
   have:=hr.nT h1;cases cv<;>first
    |rfl
    |(simp[Value.oneCell'] at this)
  rw[e1,e2];refine⟨rfl,λj x hx=>?_,λj x u hx hu=>?_⟩
  ·cases j with
   | zero=>simp at hx;subst hx;exact h1
   | succ j=>simp at hx
  ·cases j with
   | zero=>simp at hx hu;subst hx;subst hu;exact hr
   | succ j=>simp at hx
theorem V2(off:Nat):∀(l:dw)(k:Nat)(arr:dM),((l.zipIdx k).foldl (λcs (p:bt×Nat)=>cs.setIfInBounds (off+p.2) p.1) arr).toList=storeCells arr.toList (off+k) l
 | [],_,_=>rfl
 | x::l,k,arr=>by
  simp only[List.zipIdx_cons,List.foldl_cons];rw[V2 off l (k+1) _];simp[storeCells,p8]
theorem kC{α:Type}:∀(vs:List α)(cs:List α)(off:Nat),(storeCells cs off vs).length=cs.length
 | [],_,_=>rfl
 | v::vs,cs,off=>by simp only[storeCells];rw[kC vs];simp
theorem V3{cs:aD}{i:Nat}{x:V}{n:Nat}(h:aI cs<=n)(hx:x.top<=n):aI (cs.set i x)<=n :=
 qK λy hy=>by
  rcases List.mem_or_eq_of_mem_set hy with hy|rfl
  ·exact cN (zn hy) h
  ·exact hx
theorem vA{n:Nat}:∀{vs cs:aD}{off:Nat},aI cs<=n->aI vs<=n->aI (storeCells cs off vs)<=n
 | [],_,_,h,_=>h
 | v::vs,cs,off,h,hv=>by
  simp only[aI] at hv;have:=uf.1 hv;show aI (storeCells (cs.set off v) (off+1) vs)<=n;exact vA (cs:=cs.set off v) (V3 h this.1) this.2
theorem yA(v:V):aI v.cells<=v.top:=qK λ_ hx=>Tm hx
theorem V4(h:Rel B g s a w){pA pC:Nat->Option (Nat×Nat)}(hp:∀i x,pA i=some x->pC i=some x):∀{parts:List (Nat×aW)}{cs cs':aD}{arr:dM},bK g cs arr.toList->aI cs<=s.H.az.length ->
  xN cs pA s.env parts=some cs'->∃iq,Instr.fill pC arr (parts.map λ(i,x)=>(i,a.eval x))=some iq/\bK g cs' iq.toList/\aI cs'<=s.H.az.length
 | [],cs,cs',arr,hr,ht,hf=>by simp only[xN,bq] at hf;subst hf;exact⟨arr,rfl,hr,ht⟩
 | (i,x)::parts,cs,cs',arr,hr,ht,hf=>by
  simp only[xN,Option.bind_eq_bind,eF] at hf;obtain⟨v,hv,⟨off,n⟩,Ii,hf⟩:=hf;split at hf
  ·rename_i hc;simp only[d_,Nat.beq_eq,Nat.ble_eq] at hc;obtain⟨⟨nu,sy⟩,BZ⟩:=hc;obtain⟨h1,h2,h3⟩:=zI h hv;have ef:=vr h1 nu;have fq:(a.eval x).cells.size=n:=by rw[<- sy,ef.len];simp
   have od:arr.size=cs.length:=by have:=hr.len;simp at this;exact this.symm
   have Fk:((a.eval x).cells.zipIdx.foldl (λcs (p:bt×Nat)=>cs.setIfInBounds (off+p.2) p.1) arr).toList=storeCells arr.toList off (a.eval x).cells.toList:=by
    rw[<- Array.foldl_toList,Array.toList_zipIdx];have:=V2 off (a.eval x).cells.toList 0 arr;simpa using this
   have eZ:=hr.store off ef;rw[<- Fk] at eZ;obtain⟨iq,f1,f2,f3⟩:=V4 h hp eZ (vA ht (cN (yA v) h2)) hf;refine⟨iq,?_,f2,f3⟩;simp only[bg,Instr.fill,hp i _ Ii];have:¬(((a.eval x).cells.size≠n || off+(a.eval x).cells.size > arr.size)=true):=by
    rw[fq,od];simp;exact BZ
   simp only[this];exact f1
  ·cases hf
theorem zkq(h:Rel B g s a w){t:aB}{parts:Array (Nat×aW)}{v:V}(hb:ky P t parts s.env=some v) :
  Lo P g s.H.az.length w (Instr.build t (parts.map λ(i,x)=>(i,a.eval x))) v:=by
 unfold ky at hb;split at hb
 ·cases hb
 ·rename_i z hz;split at hb
  ·cases hb
  ·rename_i ej;obtain⟨cz,z1,z2,z3,_,NY⟩:=yx (g:=g) hz w;have ef:=vr z2 (by simpa using ej)
   have G1:aI z.cells<=s.H.az.length:=cN (yA z) (by omega)
   simp only[eF] at NY;obtain⟨it,hit,hiz⟩:=NY;have Ag:(parts.map λ(i,x)=>(i,a.eval x)).toList=parts.toList.map λ(i,x)=>(i,a.eval x):=by simp
   split at hb
   ·rename_i fs hd;split at hb
    ·rename_i ps hps;simp only[mQ] at hb;obtain⟨cs',hf,rfl⟩:=hb;obtain⟨iq,f1,f2,f3⟩:=V4 h (pC:=λi=>ps.toArray[i]?) (λi x hx=>by rw[zg] at hx;simpa using hx) ef G1 hf
     refine⟨.agg iq,run_build w t _ iq ?_,f2.agg,f3,λ_ _=>trivial⟩;unfold Tf at hps;rw[Ag];simp only[Program.built,hit,hd,hiz,hps];exact f1
    ·cases hb
   ·rename_i n e hd;split at hb
    next ie hie=>simp only[mQ] at hb;obtain⟨cs',hf,rfl⟩:=hb;obtain⟨iq,f1,f2,f3⟩:=V4 h (pC:=λi=>some (i * ie.size,ie.size)) (λi x hx=>hx) ef G1 hf;refine⟨.agg iq,run_build w t _ iq ?_,f2.agg,f3,λ_ _=>trivial⟩;rw[Ag];simp only[Program.built,hit,hd,hiz,hie];exact f1
    ·cases hb
   ·cases hb
theorem kR{α:Type}:∀(new old pre post:List α),old.length=new.length->storeCells (pre++old++post) pre.length new=pre++new++post
 | [],old,pre,post,h=>by
  have:old=[]:=HO h;subst this;rfl
 | v::new,[],pre,post,h=>by simp at h
 | v::new,x::old,pre,post,h=>by
  simp only[storeCells];have e:(pre++(x::old)++post).set pre.length v=(pre++[v])++old++post:=by
   simp
  rw[e];have:=kR new old (pre++[v]) post (by simpa using h)
  simp only[aU,aX,List.length_nil,nY] at this;rw[this];simp
theorem zgN{n:Nat}{v:V}(hv:v.cells.length=n):∀{xs:aD}{i:Nat},(∀y:V,y∈xs->y.cells.length=n)->i<xs.length->zH (xs.set i v)=storeCells (zH xs) (i * n) v.cells
 | [],i,_,hi=>by simp at hi
 | x::xs,0,hs,_=>by
  have:=kR v.cells x.cells [] (zH xs) (by rw[hs x (eK ..),hv])
  simp only[aZ,List.length_nil] at this;simp only[zH,bS,DZ,Nat.zero_mul] at *;exact this.symm
 | x::xs,i+1,hs,hi=>by
  have ih:=zgN hv (xs:=xs) (i:=i) (λy hy=>hs y (dU _ hy)) (by simpa using hi)
  have hx:=hs x (eK ..);simp only[zH,bT,DZ] at *;rw[ih];have shift:∀(l:aD)(r:aD)(k:Nat),x.cells++storeCells l k r=storeCells (x.cells++l) (n+k) r:=by
   intro l r
   induction r generalizing l with
   | nil=>intro k;rfl
   | cons y r ihr =>
    intro k;simp only[storeCells];rw[ihr (l.set k y) (k+1)];have e:(x.cells++l).set (n+k) y=x.cells++l.set k y:=by
     rw[Aa _ _ (by omega),hx,NM]
    rw[e];rfl
  rw[shift]
  congr 1
  rw[ue];omega
theorem wC{z:V}{n:Nat}(hz:z.cells.length=n):∀(len j:Nat),j<len * n->(zH (List.replicate len z))[j]?=z.cells[j % n]?
 | 0,j,h=>by simp at h
 | k+1,j,h=>by
  have hn:0<n:=by
   rcases HU n with h0|h0
   ·subst h0;simp at h
   ·exact h0
  simp only[HR,zH,DZ];rcases eM j n with h1|h1
  ·rw[gb (by omega),Fb h1]
  ·rw[fI (by omega),hz]
   have:=wC hz k (j - n) (by rw[ue] at h;omega)
   simp only[zH] at this;rw[this,Nat.mod_eq_sub_mod h1]
theorem zjh(h:Rel B g s a w){n len:Nat}:∀{parts:List (Nat×aW)}{xs CC:aD}{arr:dM},xs.length=len->(∀y:V,y∈xs->y.cells.length=n)->bK g (zH xs) arr.toList->aI xs<=s.H.az.length ->
  EJ n len s.env xs parts=some CC->∃iq,Instr.fill (λi=>some (i * n,n)) arr (parts.map λ(i,x)=>(i,a.eval x))=some iq/\bK g (zH CC) iq.toList/\CC.length=len/\(∀y:V,y∈CC->y.cells.length=n)/\aI CC<=s.H.az.length
 | [],xs,CC,arr,hl,hs,hr,ht,hf=>by simp only[EJ,bq] at hf;subst hf;exact⟨arr,rfl,hr,hl,hs,ht⟩
 | (i,x)::parts,xs,CC,arr,hl,hs,hr,ht,hf=>by
  simp only[EJ,Option.bind_eq_bind,eF,qp,fm] at hf;obtain⟨v,hv,hf⟩:=hf;split at hf
  ·rename_i hc;simp only[d_,Nat.beq_eq,Nat.blt_eq] at hc;obtain⟨⟨nu,sy⟩,BZ⟩:=hc;obtain⟨h1,h2,h3⟩:=zI h hv;have ef:=vr h1 nu;have fq:(a.eval x).cells.size=n:=by rw[<- sy,ef.len];simp
   have od:arr.size=len * n:=by
    have:=hr.len;rw[qJ hs,hl] at this;simpa using this.symm
   have Fk:((a.eval x).cells.zipIdx.foldl (λcs (p:bt×Nat)=>cs.setIfInBounds (i * n+p.2) p.1) arr).toList=storeCells arr.toList (i * n) (a.eval x).cells.toList:=by
    rw[<- Array.foldl_toList,Array.toList_zipIdx];have:=V2 (i * n) (a.eval x).cells.toList 0 arr;simpa using this
   have eZ:=hr.store (i * n) ef;rw[<- Fk,<- zgN sy hs (by rw[hl];exact BZ)] at eZ
   obtain⟨iq,f1,f2⟩:=zjh h (xs:=xs.set i v) (by simpa using hl) (λy hy=>by
    rcases List.mem_or_eq_of_mem_set hy with hy|rfl
    ·exact hs y hy
    ·exact sy) eZ (V3 ht h2) hf
   refine⟨iq,?_,f2⟩;simp only[bg,Instr.fill];have hle:i * n+n<=len * n:=by
    have:=K5 n (Nat.succ_le_of_lt BZ);rw[HX] at this;exact this
   have:¬(((a.eval x).cells.size≠n || i * n+(a.eval x).cells.size > arr.size)=true):=by
    rw[fq,od];simp;exact hle
   simp only[this];exact f1
  ·cases hf
theorem yk{xs:aD}:aI (zH xs)<=aI xs:=qK λ_ hx=>xX hx
theorem zeF(h:Rel B g s a w){t e:aB}{len n:Nat}{parts:Array (Nat×aW)}{z:V}{xs:aD}(hd:P.underlying t=some (.slice e))(hn:z4 P e=some n)(hz:qP P e=some z)
  (hc:(Nat.beq n 0 || Nat.blt 16777216 (len * n) || !Nat.beq z.cells.length n || !dz z)=false) (hx:EJ n len s.env (List.replicate len z) parts.toList=some xs) {o:Oper} (ho:o.op=.buildSlice t len parts) :
  Lq P B s a w g o (.sl n xs (.yes e)):=by
 simp only[JJ,Bool.not_eq_false'] at hc;obtain⟨⟨⟨c1,c2⟩,c3⟩,c4⟩:=hc;have nw:n≠0:=by intro e;subst e;simp at c1
 have V5:¬len * n > 16777216:=by
  intro bR;have:Nat.blt 16777216 (len * n)=true:=by rw[Nat.blt_eq];exact bR
  rw[this] at c2;cases c2
 have Ls:z.cells.length=n:=eG c3;obtain⟨cz,z1,z2,z3,_,_⟩:=yx (g:=g) hz w;have B7:=vr z2 c4;have Fl:cz.cells.size=n:=by rw[<- Ls,B7.len];simp
 have nq:bK g (zH (List.replicate len z)) ((Array.range (len * n)).map (λj=>(cz.cells)[j % cz.cells.size]!)).toList:=by
  have nk:(zH (List.replicate len z)).length=len * n:=by rw[qJ (sz:=n) λy hy=>by rw[(List.mem_replicate.1 hy).2];exact Ls];simp
  refine⟨by rw[nk];simp,λj x hx=>?_,λj x v hx hv=>?_⟩
  ·have hj:j<len * n:=by rw[<- nk];exact(cZ.1 hx).1
   rw[wC Ls len j hj] at hx;exact B7.one _ x hx
  ·have hj:j<len * n:=by rw[<- nk];exact(cZ.1 hx).1
   rw[wC Ls len j hj] at hx;have hm:j % n<cz.cells.size:=by rw[Fl];exact Nat.mod_lt _ (by omega)
   simp only[Array.toList_map,Array.toList_range,iX,GQ,hj,aS,bq,Fl] at hv;rw[getElem!_pos cz.cells (j % n) hm] at hv;refine B7.rel _ x v hx ?_;rw[E9,EH hm,hv]
 obtain⟨iq,f1,f2,f3,f4,f5⟩:=zjh h (xs:=List.replicate len z) (len:=len) (n:=n) (by simp) (λy hy=>by rw[(List.mem_replicate.1 hy).2];exact Ls) nq
  (qK λy hy=>by rw[(List.mem_replicate.1 hy).2];omega) hx
 have Ag:(parts.map λ(i,x)=>(i,a.eval x)).toList=parts.toList.map λ(i,x)=>(i,a.eval x):=by simp
 have oz:iq.size=len * n:=by
  have:=f2.len;rw[qJ f4,f3] at this;simpa using this.symm
 have cw:(Instr.buildSlice t len (parts.map λ(i,x)=>(i,a.eval x))).run P w=.ok (.slice (some ⟨w.heap.size,0,none⟩) len len) (w.alloc (.cells iq e)):=by
  unfold Instr.buildSlice;rcases HU len with h0|h0
  ·subst h0;simp only[Nat.zero_mul] at f1 oz;have r0:Array.range 0=#[]:=rfl;have f1':Instr.fill (λi=>some (i * n,n)) #[] (parts.toList.map λ(i,x)=>(i,a.eval x))=some iq:=by simpa[r0] using f1
   simp only[Sem.run_bind,run_underlying hd,jv hn,Result.andThen_ok,Nat.zero_mul,r0,Ag];simp[f1',newRow]
   try rfl
  ·have:¬len * n=0:=by
    intro e0;rcases Nat.mul_eq_zero.1 e0 with e0|e0<;>omega
   simp[run_underlying hd,jv hn,V5,this,z1,f1,newRow]
   try rfl
 refine⟨g.row w.heap.size iq.toList (o.dst.map (Loc.slot B.d)),.slice (some ⟨w.heap.size,0,none⟩) len len,w.alloc (.cells iq e),by simp only[execOp,ho,Sem.run_bind,cw,Result.andThen_ok,Sem.run_pure],?_⟩
 have hrel:=h.settle iq.toList (o.dst.map (Loc.slot B.d)) (w':=w.alloc (.cells iq e)) (by simp) (λc hc=>heap_alloc_old w _ hc) (λo v hv=>by rw[World.cell?_alloc_new];simpa using hv) rfl rfl rfl
 have bR:∀b,b<s.H.az.length->g.bO b<w.heap.size:=h.cX.lt;have hle:Gh.Le s.H.az.length g (g.row w.heap.size iq.toList (o.dst.map (Loc.slot B.d))):=by
  refine⟨λc o v hv=>?_,λ_ _=>rfl,rfl,λ_ _ _ _ e=>e⟩;have:=vq (h.cX.mem c o v hv);simp only[Gh.row];rw[if_neg (by omega)];exact hv
 refine⟨hrel,?_,λt ht=>?_,f5⟩
 ·have:=aR.settled (g:=g) (ow:=.yes e) (N:=w.heap.size) (l:=o.dst.map (Loc.slot B.d)) (cap:=len) f4 (by omega) f2 (cN yk f5) hle
  rw[f3] at this;exact this
 ·refine⟨iq.toList,zgF ⟨by simp[oz,f3],.inr ⟨w.heap.size,len,iq,by rw[f3],ec _,heap_alloc_new w _,by omega,?_,oz,?_⟩⟩,λc hc=>?_⟩
  ·have:len<=len * n:=Nat.le_mul_of_pos_right _ (by omega)
   simp only[maxLen];omega
  ·rw[r9 (by simp[oz,f3])]
  ·simp only[Value.ownBlock,bq] at hc;subst hc;refine⟨by simp[Gh.row,ht],λo ho _=>?_,λb hb e=>?_⟩
   ·simp only[Gh.row,aF];simp only at ho;exact uI (by simp[oz];rw[f3] at ho;omega)
   ·have:=bR b hb;have e':g.bO b=w.heap.size:=e;omega
theorem zgO{isAgg:Bool}{sz:Nat}(h1:isAgg=false->sz=1):∀{n:Nat}{cs:aD},n * sz<=cs.length->(∀x∈cs,x.one=true)->zH (xV isAgg sz n cs)=cs.take (n * sz)/\(∀y∈xV isAgg sz n cs,y.cells.length=sz)/\(xV isAgg sz n cs).length=n
 | 0,cs,_,_=>by simp[xV,zH]
 | n+1,cs,hl,ho=>by
  have mT:n * sz<=(cs.drop sz).length:=by rw[ue] at hl;simp;omega
  obtain⟨i1,i2,i3⟩:=zgO h1 (n:=n) (cs:=cs.drop sz) mT (λx hx=>ho x (Cp hx));have fq:sz<=cs.length:=by rw[ue] at hl;omega
  have e:cs.take ((n+1) * sz)=cs.take sz++(cs.drop sz).take (n * sz):=by
   rw[show(n+1) * sz=sz+n * sz by rw[ue];omega,List.take_add]
  cases isAgg with
  | true =>
   simp only[xV,aF,zH,DZ,V.cells] at *;refine⟨by rw[i1,e],λy hy=>?_,by simp[i3]⟩
   rcases dG.1 hy with rfl|hy
   ·simp;omega
   ·exact i2 y hy
  | false =>
   have Ij:=h1 rfl;subst Ij;cases cs with
   | nil=>simp at fq
   | cons x cs =>
    have hx:=ho x (eK ..);have EM:x.cells=[x]:=by cases x<;>first|rfl|(simp[V.one,Cv] at hx)
    simp only[xV,fR,bw,List.headD_cons,zH,DZ] at *;refine⟨by rw[i1,e,EM];simp,λy hy=>?_,by rw[aX,i3]⟩
    rcases dG.1 hy with rfl|hy
    ·rw[EM];rfl
    ·exact i2 y hy
structure Src(g:Gh)(n:Nat)(w:aP)(sz:Nat)(ys:aD)(cy:bt):Prop where
 form:∃ad cap,cy=.slice ad ys.length cap/\(ys≠[]->∃a0 news,ad=some a0/\bK g (zH ys) news/\∀j v,news[j]?=some v->w.cell? (a0.add j)=some v)
 sized:∀y:V,y∈ys->y.cells.length=sz
 aI:aI ys<=n
theorem yl(h:Rel B g s a w){e:aB}{sz:Nat}{y:V}{ys:aD}{cy:bt}(fq:z4 P e=some sz)(hy:wA P s.H e y=some ys)(hr:aR g y cy)(ht:y.top<=s.H.az.length):Src g s.H.az.length w sz ys cy:=by
 unfold wA at hy;split at hy
 ·simp only[bq] at hy;subst hy;cases hr;exact⟨⟨none,0,rfl,λhn=>absurd rfl hn⟩,λy hy=>by simp at hy,ec _⟩
 ·rename_i Po xs ow;simp only[Option.bind_eq_bind,eF] at hy;obtain⟨n,hn,hy⟩:=hy;rw[fq] at hn;cases hn;split at hy<;>simp only[bq,reduceCtorEq] at hy;rename_i e';subst e';subst hy;cases hr with
  | sl f h1 h2 h3 h4 h5 h6 =>
   rename_i ad cap c o;refine⟨⟨ad,cap,rfl,λhn=>⟨⟨c,o,none⟩,(List.range (zH xs).length).map f,h3 hn,⟨by simp,h4,λj x v hx hv=>?_⟩,λj v hv=>?_⟩⟩,h1,ht⟩
   ·have hj:=(cZ.1 hx).1;simp[hj] at hv;subst hv;exact h6 j x hx
   ·have hj:j<(zH xs).length:=by have:=(cZ.1 hv).1;simpa using this
    have e':f j=v:=by simpa[hj] using hv
    rw[Addr.add_lit,<- e'];exact h.cX.mem _ _ _ (h5 j _ (gj hj))
 ·rename_i b off len V6;simp only[Option.bind_eq_bind,eF] at hy;obtain⟨x,hx,hy⟩:=hy;split at hy<;>try (cases hy;done)
  rename_i cs ty;simp only[eF] at hy;obtain⟨n,hn,ag,Fm,hy⟩:=hy;rw[fq] at hn;cases hn;split at hy<;>simp only[bq,reduceCtorEq] at hy;rename_i hc;simp only[d_,p7] at hc;obtain⟨hle,V7⟩:=hc;have ai2:off+len * sz<=cs.length:=r_ hle;obtain⟨arr,a1,a2,a3,_⟩:=xh h hx;have sP:((cs.drop off).map aV).length=cs.length - off:=by simp
  obtain⟨f1,f2,f3⟩:=zgO (isAgg:=ag) (sz:=sz) (n:=len) (cs:=(cs.drop off).map aV) (λe=>V7.elim (λh1=>by rw[e] at h1;cases h1) eG) (by rw[sP];omega) (λx hx=>by
   simp only[mg] at hx;obtain⟨y,hy,rfl⟩:=hx;rw[VT];obtain⟨j,hj⟩:=List.getElem?_of_mem (Cp hy)
   exact a2.one j y hj)
  subst hy;cases hr with
  | sr Bc =>
   refine⟨⟨some ⟨g.bO b,off,none⟩,V6,by rw[f3],λ_=>⟨_,(arr.toList.drop off).take (len * sz),rfl,?_,λj v hv=>?_⟩⟩,f2,?_⟩
   ·rw[f1];refine⟨?_,λj x hx=>?_,λj x v hx hv=>?_⟩
    ·have:=a2.len;simp at this ⊢;omega
    ·simp only[AK] at hx;split at hx<;>try (cases hx;done)
     simp only[iX,HT,mQ] at hx;obtain⟨y,hy,rfl⟩:=hx;rw[VT];exact a2.one _ _ hy
    ·simp only[AK] at hx hv;split at hx<;>try (cases hx;done)
     rename_i hj;rw[if_pos hj] at hv;simp only[iX,HT,mQ] at hx hv;obtain⟨y,hy,rfl⟩:=hx;exact(a2.rel _ _ _ hy hv).aV
   ·simp only[AK] at hv;split at hv<;>try (cases hv;done)
    simp only[HT] at hv;rw[Addr.add_lit,cell_of_row w _ _ arr _ _ a1];simpa using hv
   ·refine qK λy hy=>?_;have nk:∀z∈zH (xV ag sz len ((cs.drop off).map aV)),z.top<=s.H.az.length:=λz hz=>by
     rw[f1] at hz;have:=Cq hz;simp only[mg] at this;obtain⟨u,hu,rfl⟩:=this;rw[jl];exact cN (zn (Cp hu)) a3
    cases y with
    | agg us=>exact qK λz hz=>nk z (List.mem_flatMap.2 ⟨_,hy,hz⟩)
    | _=>exact nk _ (List.mem_flatMap.2 ⟨_,hy,oG.2 rfl⟩)
 ·cases hy
theorem zlq(h:Rel B g s a w){src dst:aB}{b off len cap:Nat}{u v:V}{x:aW}{o:Oper}(hu:Lb P s.H src (.sr b off len cap)=some u)(hr:vy P src dst u=some v)(hx:aR g (.sr b off len cap) (a.eval x))(ht:(V.sr b off len cap).top<=s.H.az.length)(ho:o.op=.convert src dst x) :
  Lq P B s a w g o v:=by
 simp only[vy,Option.bind_eq_bind,eF] at hr;obtain⟨ds,hs,dd,hd,hr⟩:=hr;unfold Lb at hu;split at hu
 ·rename_i e _ _ _ _ Pp heq;rw[hs] at Pp;cases Pp;cases heq;split at hu<;>simp only[bq,reduceCtorEq] at hu;rename_i xs pz;subst hu;cases dd<;>simp only[reduceCtorEq] at hr;simp only[eF] at hr;obtain⟨d8,h8,hr⟩:=hr;split at hr<;>try (cases hr;done)
  simp only[mQ] at hr;obtain⟨l,hl,rfl⟩:=hr;obtain⟨n,hn⟩:∃n,z4 P e=some n:=by
   have h1:=pz;simp only[wA,Option.bind_eq_bind,eF] at h1;obtain⟨_,_,h1⟩:=h1;split at h1<;>try (cases h1;done)
   simp only[eF] at h1;obtain⟨n,hn,_⟩:=h1;exact⟨n,hn⟩
  have gq:=yl h hn pz hx ht;obtain⟨ad,oM,nV,j_⟩:=gq.form;obtain⟨ns,oN,_⟩:=nI hl;have Pq:∀y∈zH xs,∃k:Int,y=.int .u8 k:=λy hy=>by
   subst oN;obtain⟨z,hz,hy⟩:=List.mem_flatMap.1 hy;obtain⟨k,_,rfl⟩:=mg.1 hz;simp only[V.cells,oG] at hy;exact⟨_,hy⟩
  obtain⟨f,hf⟩:∃f:Nat->bt,f=λ_=>.nilFunc:=⟨_,rfl⟩;have hrel:aR { g with M:=λc o=>w.cell? ⟨c,o,none⟩ } (.sl 1 xs .no) (a.eval x):=by
   generalize a.eval x=cx at hx nV;cases hx with
   | sr oc =>
    cases nV;have pO:∀(j:Nat)(y:V),(zH xs)[j]?=some y->y.one=true:=λj y hy=>by obtain⟨k,rfl⟩:=Pq y (zv hy);rfl
    have nu:∀y:V,y∈xs->y.cells.length=1:=λy hy=>by
     subst oN;obtain⟨k,_,rfl⟩:=mg.1 hy;rfl
    by_cases cH:xs=[]
    ·subst cH;exact .sl (c:=0) (o:=0) (λ_=>.nilFunc) (λy hy=>by simp at hy) (ec _) (λhn=>absurd rfl hn) (λj y hy=>by simp[zH] at hy) (λj y hy=>by simp[zH] at hy) (λj y hy=>by simp[zH] at hy)
    ·obtain⟨a0,news,h0,ef,cU⟩:=j_ cH;cases h0;refine .sl (c:=g.bO b) (o:=off) (λj=>news.getD j .nilFunc) nu oc (λ_=>rfl) pO (λj y hy=>?_) (λj y hy=>?_)
     ·obtain⟨v,hv,_⟩:=ef.get hy;have:=cU j v hv;rw[Addr.add_lit] at this;simpa[List.getD,hv] using this
     ·obtain⟨v,hv,V8⟩:=ef.get hy;obtain⟨k,rfl⟩:=Pq y (zv hy);cases V8;simp only[List.getD,hv,fS];exact .int _ _
  obtain⟨c1,c2⟩:=zdx (P:=P) (w:=w) hl hrel (λc o u h=>h);rw[nV] at c1;refine⟨g,.string (bytes l),w,?_,⟨h,.str c2,λ_ _=>trivial,ec _⟩⟩;simp only[execOp,ho,nV,Sem.run_bind,run_convert_bytes_string w src dst e _ _ _ hs h8 hd,c1,Result.andThen_ok,Sem.run_pure]
 ·simp only[bq] at hu;subst hu;cases ds<;>cases dd<;>simp only[reduceCtorEq] at hr
theorem zgP(h:Rel B g s a w){src dst:aB}{l:bM}{v:V}{x:aW}{o:Oper}(hr:vy P src dst (.str l)=some v)(hx:aR g (.str l) (a.eval x))(sA:P.underlying dst≠some .string)(ho:o.op=.convert src dst x) :
  Lq P B s a w g o v:=by
 simp only[vy,Option.bind_eq_bind,eF] at hr;obtain⟨ds,hs,dd,hd,hr⟩:=hr;generalize he:a.eval x=cx at hx;cases hx with
 | str hl =>
  split at hr<;>try (cases hr;done)
  next e=>cases e
  next e=>cases e
  ·exact absurd hd sA
  next e=>cases e
  next e=>cases e
  ·rename_i e l' mT;cases mT;simp only[eF] at hr;obtain⟨d8,h8,hr⟩:=hr;split at hr<;>simp only[bq,reduceCtorEq] at hr;subst hr;have fq:(bytes l).size=l.length:=kI l;have oc:=grownCap_ge w (bytes l).size 0 e;generalize hC:grownCap w (bytes l).size 0 e=cap at oc;have cw:=run_bytes_of_string (P:=P) w src dst e (bytes l) hs hd h8;rw[hC] at cw
   have cj:∀(j:Nat)(b:Nat),l[j]?=some b->(bytesRow (bytes l) cap)[j]?=some (.int .u8 b):=λj b hb=>by
    have hj:=(cZ.1 hb).1;have oe:=hl b (zv hb);unfold bytesRow;rw[Array.getElem?_append_left (by simp[bytes];exact hj)]
    simp[bytes,hb,UInt8.toNat_ofNat',Fb oe]
   have nk:zH (l.map λ(b:Nat)=>V.int .u8 b)=l.map λ(b:Nat)=>V.int .u8 b:=by
    clear cj hl fq oc hC cw he
    induction l with
    | nil=>rfl
    | cons n ns ih=>simp only[zH,bg,DZ,V.cells] at *;rw[ih];rfl
   have hrel:=h.settle (l.map λ(b:Nat)=>Value.int .u8 b) none (w':=w.drew.alloc (.cells (bytesRow (bytes l) cap) e ((bytesRow (bytes l) cap).size,(bytesRow (bytes l) cap).size+1)))
    (by show _<(w.heap.push _).size;simp) (λc hc=>heap_alloc_old w.drew _ hc) (λo v hv=>by
     simp only[iX,mQ] at hv;obtain⟨b,hb,rfl⟩:=hv;rw[<- cj o b hb]
     exact World.cell?_alloc_mark w.drew _ _ _ o) rfl rfl rfl
   have hle:Gh.Le s.H.az.length g (g.row w.heap.size (l.map λ(b:Nat)=>Value.int .u8 b) none):=by
    refine⟨λc o v hv=>?_,λ_ _=>rfl,rfl,λ_ _ _ _ e=>e⟩;have:=vq (h.cX.mem c o v hv);simp only[Gh.row];rw[if_neg (by omega)];exact hv
   refine⟨_,_,_,by simp only[execOp,ho,he,Sem.run_bind,cw,Result.andThen_ok,Sem.run_pure];rfl,hrel,?_,λ_ _=>trivial,?_⟩
   ·have:=aR.settled (g:=g) (n:=s.H.az.length) (ow:=.no) (N:=w.heap.size) (l:=none) (sz:=1) (xs:=l.map λ(b:Nat)=>V.int .u8 b) (vs:=l.map λ(b:Nat)=>Value.int .u8 b) (cap:=cap)
     (λy hy=>by obtain⟨b,_,rfl⟩:=mg.1 hy;rfl) (by simp;omega) ?_ ?_ hle
    ·rw[fq];simpa using this
    ·rw[nk];refine⟨by simp,λj x hx=>?_,λj x v hx hv=>?_⟩
     ·simp only[iX,mQ] at hx;obtain⟨b,hb,rfl⟩:=hx;rfl
     ·simp only[iX,mQ] at hx hv;obtain⟨b,hb,rfl⟩:=hx;obtain⟨b',cY,rfl⟩:=hv;rw[hb] at cY;cases cY;exact .int _ _
    ·rw[nk];exact qK λy hy=>by obtain⟨b,_,rfl⟩:=mg.1 hy;exact ec _
   ·simp only[V.top];exact qK λy hy=>by obtain⟨b,_,rfl⟩:=mg.1 hy;exact ec _
theorem V9(h:Rel B g s a w){gl:Nat->Nat->b_}(rN:ij P gl g){o:Oper}{v:V}(hr:je P gl o s.env s.H=some v):Lq P B s a w g o v:=by
 obtain⟨dst,op,type,pos,after,guard⟩:=o;cases op<;>simp only[je,Option.bind_eq_bind,eF,reduceCtorEq] at hr
 case move x =>
  obtain⟨h1,h2,h3⟩:=zI h hr;exact⟨g,a.eval x,w,by simp[execOp],⟨h,h1,λ_ _=>h3 _ _,h2⟩⟩
 case pick c x y =>
  obtain⟨vc,hc,hr⟩:=hr;split at hr<;>try (cases hr;done)
  rename_i t;obtain⟨c1,_,_⟩:=zI h hc;generalize Ah:a.eval c=cc at c1;cases c1;cases t with
  | true =>
   simp only at hr;obtain⟨h1,h2,h3⟩:=zI h hr;exact⟨g,a.eval x,w,by simp[execOp,Ah,asBool],⟨h,h1,λ_ _=>h3 _ _,h2⟩⟩
  | false =>
   simp only at hr;obtain⟨h1,h2,h3⟩:=zI h hr;exact⟨g,a.eval y,w,by simp[execOp,Ah,asBool],⟨h,h1,λ_ _=>h3 _ _,h2⟩⟩
 case build t parts=>exact vP h (zkq (P:=P) h hr) rfl
 case load t x =>
  obtain⟨p,hp,u,hu,hr⟩:=hr;simp only[bq] at hr;subst hr;obtain⟨h1,h2,h3⟩:=zI h hp;obtain⟨cv,c1,c2,c3⟩:=zgK h rN h1 h2 hu;exact vP h ⟨cv,c1,c2.aV,by rw[jl];exact c3,λ_ _=>vm _ _ _ _ _ _⟩ rfl
 case nilCheck x =>
  obtain⟨u,hu,hr⟩:=hr;obtain⟨cv,h1,h2,h3,h4,h5⟩:=zgM h hu hr;refine⟨g,cv,w,?_,⟨h,h1,λ_ _=>h3 _ _,h2⟩⟩;rcases h5 with⟨p,h5⟩|⟨f,fa,fc,h5⟩|⟨t,u,h5⟩
  ·simp[execOp,<- h4,h5]
  ·simp[execOp,<- h4,h5]
  ·simp[execOp,<- h4,h5]
 case binOp op t x y yt =>
  obtain⟨u,hu,v',k_,hr⟩:=hr;split at hr
  next hg=>obtain⟨u1,u2,_⟩:=zI h hu;obtain⟨v1,v2,_⟩:=zI h k_;have e1:=zln hg u1 v1 w;obtain⟨cv,c1,c2,c3,c4⟩:=znG hr u1 v1 w;exact⟨g,cv,w,by simp[execOp,e1,c1],⟨h,c2,λ_ _=>c4 _ _,by omega⟩⟩
  ·cases hr
 case unOp op t x =>
  obtain⟨u,hu,hr⟩:=hr;exact vP h (zpE hr (zI h hu).1 _ w) rfl
 case makeInterface t x =>
  obtain⟨u,hu,hr⟩:=hr;split at hr<;>simp only[bq,reduceCtorEq] at hr;rename_i hi;subst hr;obtain⟨u1,u2,_⟩:=zI h hu;refine⟨g,.iface t (a.eval x),w,?_,⟨h,.dF u1,λ_ _=>trivial,u2⟩⟩;unfold Tg at hi;cases hd:P.underlying t with
  | none=>simp[hd] at hi
  | some d =>
   rw[hd] at hi;cases d<;>first|(simp at hi;done)|simp[execOp,Instr.makeInterface,run_underlying hd]
 case convert src dst x =>
  obtain⟨u,hu,hr⟩:=hr;obtain⟨u1,u2,_⟩:=zI h hu
  by_cases oN:∀s,u≠.str s\/P.underlying dst=some .string
  ·exact vP h (zlp hr u1 oN h.cX.mem) rfl
  ·obtain⟨l,hl⟩:∃l,u=.str l:=by
    apply Classical.byContradiction;intro eH;exact oN λs=>.inl λe=>eH ⟨s,e⟩
   subst hl;have sA:P.underlying dst≠some .string:=λe=>oN λs=>.inr e;exact zgP h hr u1 sA rfl
 case makeFunc fn first cap =>
  obtain⟨as,has,cs,ef,hr⟩:=hr;simp only[bq] at hr;subst hr;obtain⟨a1,a2,a3,_⟩:=Tq h has;obtain⟨c1,c2,c3,_⟩:=Tq h ef;refine⟨g,.func fn (first.map a.eval) (cap.map a.eval),w,by simp[execOp,Instr.makeFunc],⟨h,.fn (by simpa using a1) (by simpa using c1) (λj x v hx hv=>a2 j x v hx (by simpa using hv)) (λj x v hx hv=>c2 j x v hx (by simpa using hv)),λ_ _=>trivial,?_⟩⟩
  simp only[V.top];exact uf.2 ⟨a3,c3⟩
 case slice t x lo hi mx =>
  obtain⟨Th,iy,sx,AO,u,hu,hr⟩:=hr;obtain⟨u1,u2,_⟩:=zI h hu;cases mx with
  | none=>exact vP h (zeP hr u1 (Ih h iy) (Ih h AO) u2 w) rfl
  | some m =>
   simp only[eF] at hr;obtain⟨mv,hmv,hr⟩:=hr;obtain⟨m1,_,_⟩:=zI h hmv;split at hr<;>try (cases hr;done)
   rename_i km k sz xs o kh hh _ _ _;split at hr<;>try (cases hr;done)
   rename_i hle;have h1:=Ih h AO;cases hi with
   | none=>exact h1.elim
   | some aC =>
    have Ij:aR g (.int kh hh) (a.eval aC):=h1;have h2:=zkn (P:=P) (km:=km) hr u1 (Ih h iy) hle.1 hle.2 u2 w;have e1:a.eval aC=.int kh hh:=by generalize a.eval aC=ch at Ij;cases Ij;rfl
    have e2:a.eval m=.int km k:=by generalize a.eval m=cm at m1;cases m1;rfl
    rw[<- e1,<- e2] at h2;exact vP h h2 rfl
 case fieldAddr t x f =>
  obtain⟨ds,hd,hr⟩:=hr;split at hr<;>try (cases hr;done)
  rename_i fs;simp only[eF] at hr;obtain⟨fd,hf,sz,fq,hr⟩:=hr;split at hr
  ·cases hr
  ·rename_i h0;simp only[eF] at hr;obtain⟨u,hu,hr⟩:=hr;obtain⟨u1,u2,_⟩:=zI h hu;have Ts:Nat.beq sz 0=false:=by revert h0;cases Nat.beq sz 0<;>simp
   generalize he:a.eval x=cx at u1;split at hr<;>simp only[bq,reduceCtorEq] at hr
   ·subst hr;cases u1;exact⟨g,_,w,by simp only[execOp,he,Sem.run_bind,vH hd hf fq Ts,Result.andThen_ok,Sem.run_pure],⟨h,.ptr _ _,λ_ _=>trivial,u2⟩⟩
   ·subst hr;cases u1;exact⟨g,_,w,by simp only[execOp,he,Sem.run_bind,vH hd hf fq Ts,Result.andThen_ok,Sem.run_pure],⟨h,.eT _ _,λ_ _=>trivial,u2⟩⟩
   ·rename_i b9 u9 k9 _;subst hr;cases u1 with
    | gh _ hh =>
     have e0:=aR.gh (k9+fd.offset) hh;rw[<- p8] at e0;exact⟨g,_,w,by simp only[execOp,he,Sem.run_bind,vH hd hf fq Ts,Result.andThen_ok,Sem.run_pure],⟨h,e0,λ_ _=>trivial,u2⟩⟩
   ·subst hr;obtain⟨c,o,rfl⟩:∃c o,cx=.pointer (some ⟨c,o,none⟩):=by cases u1;exact⟨_,_,rfl⟩
    exact⟨g,_,w,by simp only[execOp,he,Sem.run_bind,vH hd hf fq Ts,Result.andThen_ok,Sem.run_pure],⟨h,u1.Dj _,λ_ _=>trivial,cN (zeO _ _) u2⟩⟩
 case field t x f =>
  obtain⟨ds,hd,hr⟩:=hr;split at hr<;>try (cases hr;done)
  rename_i fs;simp only[eF] at hr;obtain⟨fd,hf,u,hu,hr⟩:=hr;split at hr<;>try (cases hr;done)
  rename_i cs;simp only[mQ] at hr;obtain⟨v',hr,rfl⟩:=hr;obtain⟨u1,u2,_⟩:=zI h hu;obtain⟨arr,he,ef⟩:=vn u1;obtain⟨cv,c1,c2,c3,_⟩:=NU (P:=P) ef hr w;refine vP h ⟨cv,?_,c2.aV,by rw[jl];exact cN c3 u2,λ_ _=>vm _ _ _ _ _ _⟩ rfl
  rw[he];unfold Instr.field;simp[run_underlying hd,hf,asAgg,c1]
 case indexAddr t x ix =>
  obtain⟨iv,hi,hr⟩:=hr;split at hr<;>try (cases hr;done)
  rename_i k i;simp only[eF] at hr;obtain⟨u,hu,hr⟩:=hr;obtain⟨u1,u2,_⟩:=zI h hu;have i1:=(zI h hi).1;generalize G2:a.eval ix=ci at i1;cases i1;generalize he:a.eval x=cx at u1;unfold zp at hr;split at hr
  ·rename_i len e hd;split at hr
   ·cases hr
   ·rename_i n hn;split at hr
    ·split at hr<;>simp only[bq,reduceCtorEq] at hr;rename_i hb;subst hr;cases u1;exact⟨g,_,w,by simp only[execOp,he,G2,Sem.run_bind,yb hd hn hb.1 hb.2,Result.andThen_ok,Sem.run_pure],⟨h,.ptr _ _,λ_ _=>trivial,u2⟩⟩
    ·split at hr<;>simp only[bq,reduceCtorEq] at hr;rename_i hb;subst hr;cases u1;exact⟨g,_,w,by simp only[execOp,he,G2,Sem.run_bind,yb hd hn hb.1 hb.2,Result.andThen_ok,Sem.run_pure],⟨h,.eT _ _,λ_ _=>trivial,u2⟩⟩
    ·split at hr<;>simp only[bq,reduceCtorEq] at hr;rename_i hb;rename_i b9 u9 k9 _;subst hr;cases u1 with
     | gh _ hh =>
      have e0:=aR.gh (k9+i.toNat * n) hh;rw[<- p8] at e0;exact⟨g,_,w,by simp only[execOp,he,G2,Sem.run_bind,yb hd hn hb.1 hb.2,Result.andThen_ok,Sem.run_pure],⟨h,e0,λ_ _=>trivial,u2⟩⟩
    ·split at hr<;>simp only[bq,reduceCtorEq] at hr;rename_i hb;subst hr;obtain⟨c,o,rfl⟩:∃c o,cx=.pointer (some ⟨c,o,none⟩):=by cases u1;exact⟨_,_,rfl⟩
     exact⟨g,_,w,by simp only[execOp,he,G2,Sem.run_bind,yb hd hn hb.1 hb.2,Result.andThen_ok,Sem.run_pure],⟨h,u1.Dj _,λ_ _=>trivial,cN (zeO _ _) u2⟩⟩
    ·cases hr
  ·rename_i e hd;split at hr
   ·cases hr
   ·rename_i n hn;split at hr
    ·rename_i sz xs ow _;split at hr
     ·rename_i fq;have CD:n=sz:=eG fq;subst CD;split at hr
      ·cases hr
      ·rename_i hi0;split at hr<;>simp only[bq,reduceCtorEq] at hr;rename_i y hy;rw[zg] at hy;subst hr;obtain⟨ad,cap,rfl,oc,NZ⟩:=u1.Dk;obtain⟨c,o,rfl⟩:=NZ (by rintro rfl;simp at hy)
       have bR:=(cZ.1 hy).1
       exact⟨g,_,w,by simp only[execOp,he,G2,Sem.run_bind,yY hd hn (show 0<=i by omega) (show i<(xs.length:Int) by omega),Result.andThen_ok,Sem.run_pure],
        ⟨h,u1.elem hy,λ_ _=>trivial,cN (yA y) (cN (zn (zv hy)) u2)⟩⟩
     ·cases hr
    ·split at hr<;>simp only[bq,reduceCtorEq] at hr;rename_i hb;subst hr;cases u1;exact⟨g,_,w,by simp only[execOp,he,G2,Sem.run_bind,yY hd hn hb.1 hb.2,Result.andThen_ok,Sem.run_pure],⟨h,.ptr _ _,λ_ _=>trivial,u2⟩⟩
    ·split at hr<;>simp only[bq,reduceCtorEq] at hr;rename_i hb;subst hr;cases u1 with
     | dB hh =>
      exact⟨g,_,w,by simp only[execOp,he,G2,Sem.run_bind,yY hd hn hb.1 hb.2,Result.andThen_ok,Sem.run_pure],⟨h,.gh _ hh,λ_ _=>trivial,u2⟩⟩
    ·cases hr
  ·cases hr
 case index t x ix =>
  obtain⟨iv,hi,hr⟩:=hr;split at hr<;>try (cases hr;done)
  rename_i k i;simp only[eF] at hr;obtain⟨u,hu,hr⟩:=hr;obtain⟨u1,u2,_⟩:=zI h hu;have i1:=(zI h hi).1;generalize G2:a.eval ix=ci at i1;cases i1;generalize he:a.eval x=cx at u1;unfold Pg at hr;split at hr
  ·rename_i len e hd;split at hr
   ·cases hr
   ·rename_i n hn;split at hr
    ·split at hr<;>simp only[mQ,reduceCtorEq] at hr;rename_i hb;obtain⟨v',hr,rfl⟩:=hr;obtain⟨arr,rfl,ef⟩:=vn u1;obtain⟨cv,c1,c2,c3⟩:=zeE (k:=k) hd hn ef hb.1 hb.2 hr w;exact⟨g,cv,w,by simp only[execOp,he,G2,Sem.run_bind,c1,Result.andThen_ok,Sem.run_pure],⟨h,c2.aV,λ_ _=>vm _ _ _ _ _ _,by rw[jl];exact cN c3 u2⟩⟩
    ·cases hr
  ·rename_i hd;split at hr
   ·split at hr
    ·cases hr
    ·rename_i hi0;split at hr<;>simp only[bq,reduceCtorEq] at hr;rename_i b hb;rw[zg] at hb;subst hr;cases u1 with
     | str hl =>
      exact⟨g,_,w,by simp only[execOp,he,G2,Sem.run_bind,zfx hd hl hi0 hb,Result.andThen_ok,Sem.run_pure],⟨h,.int _ _,λ_ _=>trivial,ec _⟩⟩
   ·cases hr
  ·cases hr
 case lookup t m k ok =>
  obtain⟨ds,hd,hr⟩:=hr;split at hr<;>try (cases hr;done)
  rename_i kt e;simp only[eF] at hr;obtain⟨kd,G3,kv,hk,hr⟩:=hr;split at hr
  ·cases hr
  next ej=>simp only[eF,bq] at hr;obtain⟨mv,hm,es,AP,⟨v',b⟩,hf,rfl⟩:=hr;exact vP h (zkp h hd G3 (by simpa using ej) (zI h hm).1 (zI h hk).1 AP hf) rfl
 case typeAssert x xt t ok =>
  split at hr
  ·cases hr
  ·rename_i hi;simp only[eF] at hr;obtain⟨u,hu,hr⟩:=hr;obtain⟨u1,u2,_⟩:=zI h hu;generalize he:a.eval x=cx at u1;obtain⟨d,hd,V_⟩:∃d,P.underlying t=some d/\∀ms,d≠.interface ms:=by
    unfold Tg at hi;cases hd:P.underlying t with
    | none=>simp[hd] at hi
    | some d =>
     rw[hd] at hi;exact⟨d,rfl,λms e=>by subst e;simp at hi⟩
   have cw:∀cv,(Instr.typeAssert cx xt t ok).run P w=.ok cv w->aR g v cv->v.top<=s.H.az.length->(∀sz xs e,v≠.sl sz xs (.yes e))->Lq P B s a w g { dst,op:=.typeAssert x xt t ok,type,pos,after,guard } v :=
    λcv h1 h2 h3 h4=>⟨g,cv,w,by simp[execOp,he,h1],⟨h,h2,λ_ _=>zjg h4,h3⟩⟩
   have JR:∀z,qP P t=some z->ok=true->v=.br [z,.bool false]->(∀cz,(zeroValue t).run P w=.ok cz w->(Instr.typeAssert cx xt t true).run P w=.ok (.tuple #[cz,.bool false]) w)->Lq P B s a w g { dst,op:=.typeAssert x xt t ok,type,pos,after,guard } v:=by
    intro z hz ej hv Tt;subst ej;subst hv;obtain⟨cz,z1,z2,z3,_⟩:=yx (g:=g) hz w;refine cw _ (Tt cz z1) (.br rfl λj x u hx hu=>?_) (by simp only[V.top,aI];omega) (λ_ _ _ e=>by cases e)
    rcases j with _|_|j
    ·simp at hx hu;subst hx;subst hu;exact z2
    ·simp at hx hu;subst hx;subst hu;exact .bool false
    ·simp at hx
   split at hr
   ·split at hr<;>simp only[eF,bq,reduceCtorEq] at hr;rename_i ej;obtain⟨z,hz,rfl⟩:=hr;cases u1;refine JR z hz ej rfl λcz B7=>?_;unfold Instr.typeAssert;cases d<;>first|exact absurd rfl (V_ _)|simp[run_underlying hd,B7]
   ·rename_i ut uv _;obtain⟨cu,rfl⟩:∃cu,cx=.iface ut cu:=by cases u1;exact⟨_,rfl⟩
    have u3:aR g uv cu:=by cases u1;assumption
    split at hr
    ·rename_i Wa;simp only[bq] at hr;have Wb:ut=t:=eG Wa;subst Wb;subst hr;refine cw (if ok then .tuple #[cu,.bool true] else cu) ?_ ?_ ?_ ?_
     ·unfold Instr.typeAssert;cases d<;>first|exact absurd rfl (V_ _)|(simp[run_underlying hd])
     ·cases ok with
      | true =>
       refine .br rfl λj x u hx hu=>?_;rcases j with _|_|j
       ·simp at hx hu;subst hx;subst hu;exact u3.aV
       ·simp at hx hu;subst hx;subst hu;exact .bool true
       ·simp at hx
      | false=>exact u3.aV
     ·have u2':uv.top<=s.H.az.length:=u2;cases ok with
      | true=>simp only[aF,V.top,aI,jl];omega
      | false=>simp only[fR,bw,jl];exact u2'
     ·cases ok with
      | true=>intro sz xs e he;simp at he
      | false=>intro sz xs e he;exact vO uv sz xs e (by simpa using he)
    ·rename_i Wa;split at hr<;>simp only[eF,bq,reduceCtorEq] at hr;rename_i ej;obtain⟨z,hz,rfl⟩:=hr;have cH:ut≠t:=λe=>Wa (by subst e;exact lK _)
     refine JR z hz ej rfl λcz B7=>?_;unfold Instr.typeAssert;cases d<;>first|exact absurd rfl (V_ _)|simp[run_underlying hd,cH,B7]
   ·cases hr
 case extract x i =>
  obtain⟨u,hu,hr⟩:=hr;split at hr<;>try (cases hr;done)
  rename_i vs;split at hr<;>simp only[bq,reduceCtorEq] at hr;rename_i v' k_;subst hr;rw[zg] at k_;obtain⟨u1,u2,_⟩:=zI h hu;generalize he:a.eval x=cx at u1;cases u1 with
  | br t1 t2 =>
   rename_i arr;have bR:i<arr.size:=by rw[<- t1];exact(cZ.1 k_).1
   have dy:arr[i]?=some arr[i]:=EH bR;refine⟨g,arr[i],w,by simp[execOp,he,Instr.extract,dy],⟨h,(t2 i v' _ k_ dy).aV,λ_ _=>vm _ _ _ _ _ _,?_⟩⟩
   rw[jl];exact cN (zn (zv k_)) u2
 case buildSlice t len parts =>
  obtain⟨ds,hd,hr⟩:=hr;split at hr<;>try (cases hr;done)
  rename_i e;simp only[eF] at hr;obtain⟨n,hn,z,hz,hr⟩:=hr;split at hr
  ·cases hr
  next hc=>simp only[eF,bq] at hr;obtain⟨xs,hx,rfl⟩:=hr;exact zeF h hd hn hz (Bool.eq_false_iff.2 hc) hx rfl
end
section
variable{P:aQ}{B:dR}{g:Gh}{s:St}{a:Act}{w:aP}
def Gh.var(g:Gh)(n N:Nat):Gh:={ g with bO:=λb=>if b=n then N else g.bO b }
theorem Gh.Fp(g:Gh)(n N:Nat):Gh.Le n g (g.var n N):=⟨λ_ _ _ h=>h,λb hb=>by simp only[Gh.var];rw[if_neg (by omega)],rfl,λ_ _ _ _ h=>h⟩
theorem Tu{w w':aP}{obj:Obj}(hw:w'.heap=w.heap.push obj){c:Nat}(hc:c<w.heap.size):w'.heap[c]?=w.heap[c]?:=by
 rw[hw,Array.getElem?_push,if_neg (by omega)]
theorem Wc{w w':aP}{obj:Obj}(hw:w'.heap=w.heap.push obj):w'.heap[w.heap.size]?=some obj:=by
 rw[hw];simp
theorem gK.push(d n:Nat)(g:Gh){w w':aP}{obj:Obj}(hw:w'.heap=w.heap.push obj)(pN:w'.os=w.os)(ht:w'.tape=w.tape)(nK:w'.output=w.output):gK d none none n g w (g.var n w.heap.size) w' :=
 ⟨g.Fp n _,λc hc _ _=>Tu hw hc,λ_ _ _=>rfl,λ_ _ _ _=>rfl,by rw[hw];simp,λ_ _ _=>rfl,λl hl=>(by cases hl),λb hb=>(by cases hb),λ_ _ _ _=>rfl,pN,ht,nK⟩
theorem yZ{bs AQ:List aY}(h:∀b,b<bs.length->AQ[b]?=bs[b]?){b off:Nat}(hl:jo bs b off):jo AQ b off:=by
 obtain⟨cs,t,sz,xs,h1,h2⟩:=hl;exact⟨cs,t,sz,xs,by rw[h b (cZ.1 h1).1];exact h1,h2⟩
theorem Rel.push(h:Rel B g s a w)(bO:aY){obj:Obj}{w':aP}(hw:w'.heap=w.heap.push obj)(pN:w'.os=w.os)(ht:w'.tape=w.tape)(nK:w'.output=w.output)
  (ej:fU (g.var s.H.az.length w.heap.size) (s.H.az.length+1) w' s.H.az.length bO) (dx:bO.top<=s.H.az.length+1):Rel B (g.var s.H.az.length w.heap.size) { s with H:=s.H.push bO } a w':=by
 have hl:(s.H.push bO).az.length=s.H.az.length+1:=by simp[Hp.push]
 have dy:∀b,b<s.H.az.length->(s.H.push bO).az[b]?=s.H.az[b]?:=λb hb=>by simp only[Hp.push];rw[gb hb]
 have rP:(s.H.push bO).az[s.H.az.length]?=some bO:=by simp[Hp.push]
 have hv:(g.var s.H.az.length w.heap.size).bO s.H.az.length=w.heap.size:=by simp[Gh.var]
 have fq:w'.heap.size=w.heap.size+1:=by rw[hw];simp
 refine h.i_ (s':={ s with H:=s.H.push bO }) (gK.push B.d s.H.az.length g hw pN ht nK) (by rw[hl];omega) (λb hb _=>dy b hb) (λb x hb hx=>?_) (λb h1 h2=>?_) (λb b' h1 h2 h3 h4 _=>?_) (λc o v hv=>?_) (λc l hc=>?_)
  (λb j e=>by cases e) rfl rfl (λt x hx=>⟨x,hx,.inl ⟨rfl,λe=>by cases e⟩⟩) ?_ (λb off q_=>yZ dy (h.lP b off q_)) h.ou (λ_ e=>by cases e)
 ·have cY:b=s.H.az.length:=by
   rcases hb with hb|hb
   ·cases hb
   ·have:=(cZ.1 hx).1;rw[hl] at this;omega
  subst cY;rw[rP] at hx;cases hx;rw[hl];exact⟨ej,dx⟩
 ·have:b=s.H.az.length:=by rw[hl] at h2;omega
  subst this;rw[hv];refine⟨dA _,by omega,?_,λo=>?_⟩
  ·show g.own w.heap.size=none;cases ho:g.own w.heap.size with
   | none=>rfl
   | some l=>have:=h.cX.eD _ _ ho;omega
  ·show g.M w.heap.size o=none;cases hm:g.M w.heap.size o with
   | none=>rfl
   | some v=>have:=vq (h.cX.mem _ _ _ hm);omega
 ·rw[hl] at h2 h4;omega
 ·rw[yz (Tu hw (vq (h.cX.mem c o v hv)))];exact h.cX.mem c o v hv
 ·have:=h.cX.eD c l hc;omega
 ·intro b x hx;rcases eM b s.H.az.length with h1|h1
  ·rw[show({ s with H:=s.H.push bO }:St).H.az[b]?=s.H.az[b]? from dy b h1] at hx;exact h.bG b x hx
  ·have cY:b=s.H.az.length:=by
    have:=(cZ.1 hx).1;have mT:({ s with H:=s.H.push bO }:St).H.az.length=s.H.az.length+1:=hl;omega
   subst cY;rw[show({ s with H:=s.H.push bO }:St).H.az[s.H.az.length]?=some bO from rP] at hx;cases hx;exact .inl dx
theorem Rel.rm(h:Rel B g s a w){cs:aD}{arr:dM}{t:aB}(ef:bK g cs arr.toList)(dx:aI cs<=s.H.az.length)
  (iB:∀(j:Nat)(x:V)(v:bt),cs[j]?=some x->arr[j]?=some v->cL g s.H.az.length w (.cell s.H.az.length j) x v/\∀sz xs,x≠.sl sz xs .lock) :
  Rel B (g.var s.H.az.length w.heap.size) { s with H:=s.H.push (.cells cs t) } a (w.alloc (.cells arr t)):=by
 have hw:(w.alloc (.cells arr t)).heap=w.heap.push (.cells arr t):=rfl;refine h.push (.cells cs t) hw rfl rfl rfl ⟨arr,?_,by simpa using ef.len,λj x v hx hv=>⟨ef.one j x hx,?_,?_,?_⟩⟩ (K8 dx)
 ·rw[show(g.var s.H.az.length w.heap.size).bO s.H.az.length=w.heap.size by simp[Gh.var]]
  exact Wc hw
 ·exact(ef.rel j x v hx (by simpa using hv)).le (g.Fp _ _) (cN (zn (zv hx)) dx)
 ·refine cL.same (gK.push B.d s.H.az.length g hw rfl rfl rfl) (λe=>by cases e) (λb h1 h2=>?_) (iB j x v hx hv).1
  have:b=s.H.az.length:=by omega
  subst this;simp[Gh.var]
 ·have:=(iB j x v hx hv).2;cases x with
  | sl sz xs o=>cases o with
   | lock=>exact absurd rfl (this sz xs)
   | _=>trivial
  | _=>trivial
theorem Wd{v:bt}{z:V}(h:aj v=some z):∀x∈z.cells,∀sz xs o,x≠.sl sz xs o:=by
 have key:∀(v:bt)(x:V),aj v=some x->∀sz xs o,x≠.sl sz xs o:=by
  intro v x h sz xs o e;subst e;unfold aj at h;split at h<;>try (simp at h;done)
  all_goals (simp only[eF] at h;obtain⟨l,_,h⟩:=h;split at h<;>simp at h)
 have keys:∀(vs:dw)(xs:aD),nC vs=some xs->∀x∈xs,∀sz ys o,x≠.sl sz ys o:=by
  intro vs
  induction vs with
  | nil=>intro xs h x hx;simp only[nC,bq] at h;subst h;simp at hx
  | cons v vs ih =>
   intro xs h x hx;simp only[nC] at h;split at h<;>simp only[bq,reduceCtorEq] at h;rename_i y ys hy tQ;subst h;rcases dG.1 hx with rfl|hx
   ·exact key v _ hy
   ·exact ih ys tQ x hx
 intro x hx
 by_cases ha:∃cs,z=.agg cs
 ·obtain⟨cs,rfl⟩:=ha;unfold aj at h;split at h<;>try (simp at h;done)
  simp only[eF] at h;obtain⟨l,hl,h⟩:=h;split at h<;>simp only[bq,reduceCtorEq,V.agg.injEq] at h;subst h;exact keys _ _ hl x hx
 ·have:z.cells=[z]:=by cases z<;>first|rfl|exact absurd ⟨_,rfl⟩ ha
  rw[this] at hx;simp at hx;subst hx;exact key v _ h
theorem y4{env cW:aD}{x:aW}{v:V}(h:take env x=some (v,cW)):∀sz xs,v≠.sl sz xs .lock:=by
 intro sz xs e;subst e;cases x with
 | tmp t =>
  simp only[take,fm] at h;split at h<;>simp only[bq,cq,reduceCtorEq] at h
  ·obtain⟨h,_⟩:=h;simp at h
  ·obtain⟨h,_⟩:=h;rename_i y _ _ _;cases y<;>simp[aV] at h
 | const c =>
  simp only[take,ak,mQ,cq] at h;obtain⟨u,hu,rfl,_⟩:=h;exact Wd hu (.sl sz xs .lock) (by simp[V.cells]) sz xs .lock rfl
 | global k=>simp[take,ak] at h
 | func f=>simp[take,ak] at h
theorem zji{v:V}(h:dz v=true):(∃cs,v=.agg cs/\v.laid=cs.map aV)\/(v.one=true/\v.laid=[v]/\v.cells=[v]):=by
 cases v<;>first
  |exact .inl ⟨_,rfl,rfl⟩
  |exact .inr ⟨rfl,rfl,rfl⟩
  |(simp[dz] at h)
theorem We{n b off:Nat}{v:V}{cv:bt}(hr:aR g v cv)(hc:dz v=true)(ho:cL g n w (.cell b off) v cv)(lf:∀sz xs,v≠.sl sz xs .lock)(dx:v.top<=n) :
  bK g v.laid cv.cells.toList/\aI v.laid<=n/\∀(j:Nat)(x:V)(u:bt),v.laid[j]?=some x->cv.cells[j]?=some u->cL g n w (.cell b (off+j)) x u/\∀sz xs,x≠.sl sz xs .lock:=by
 have ef:=vr hr hc;rcases zji hc with⟨cs,rfl,hl⟩|⟨h1,hl,G4⟩
 ·rw[hl];refine⟨ef.Af,by rw[eO];exact dx,λj x u hx hu=>?_⟩
  simp only[iX,mQ] at hx;obtain⟨y,_,rfl⟩:=hx;exact⟨vm _ _ _ _ _ _,λsz xs e=>by cases y<;>simp[aV] at e⟩
 ·rw[hl];rw[G4] at ef;refine⟨ef,by simp only[aI];omega,λj x u hx hu=>?_⟩
  cases j with
  | zero =>
   simp at hx;subst hx;have e:cv.cells=#[cv]:=by
    have:=hr.nT h1;cases cv<;>first
     |rfl
     |(simp[Value.oneCell'] at this)
   rw[e] at hu;simp at hu;subst hu;exact⟨ho,lf⟩
  | succ j=>simp at hx
end
section
variable{P:aQ}{B:dR}{g:Gh}{s:St}{a:Act}{w:aP}
theorem qE{α:Type}:∀(vs cs:List α)(off j:Nat),off+vs.length<=cs.length->(storeCells cs off vs)[j]?=if off<=j/\j<off+vs.length then vs[j - off]? else cs[j]?
 | [],cs,off,j,_=>by
  have:¬(off<=j/\j<off+0):=by omega
  simp[storeCells];intro h1 h2;omega
 | v::vs,cs,off,j,h=>by
  simp only[storeCells];rw[qE vs (cs.set off v) (off+1) j (by simp at h ⊢;omega)]
  simp only[aX] at h ⊢
  by_cases h1:j=off
  ·subst h1;have:¬(j+1<=j/\j<j+1+vs.length):=by omega
   have h2:j<=j/\j<j+(vs.length+1):=by omega
   simp only[if_neg this,if_pos h2,Cu];rw[Cn (by omega)]
   rfl
  ·by_cases h2:off+1<=j/\j<off+1+vs.length
   ·have h3:off<=j/\j<off+(vs.length+1):=by omega
    rw[if_pos h2,if_pos h3];have:j - off=(j - (off+1))+1:=by omega
    rw[this];rfl
   ·have h3:¬(off<=j/\j<off+(vs.length+1)):=by omega
    rw[if_neg h2,if_neg h3,su (by omega)]
theorem Wg{lk:aO}{b:Nat}:∀{n off:Nat}{cs:aD},wz lk b off n cs=true->∀j x,j<n->cs[j]?=some x->locked x=true->(b,off+j)∈lk
 | 0,_,_,_,j,x,hj,_,_=>by omega
 | n+1,off,[],h,j,x,_,hx,_=>by simp at hx
 | n+1,off,c::cs,h,j,x,hj,hx,q_=>by
  simp only[wz,d_,p7,Dd] at h;cases j with
  | zero =>
   simp at hx;subst hx;rcases h.1 with h1|h1
   ·rw[q_] at h1;cases h1
   ·obtain⟨p,hp,h2⟩:=Fc.1 h1;simp only[d_,Nat.beq_eq] at h2;obtain⟨h3,h4⟩:=h2;cases p;simp only at h3 h4;subst h3;subst h4;simpa using hp
  | succ j =>
   have:=Wg h.2 j x (by omega) (by simpa using hx) q_
   rw[show off+(j+1)=off+1+j by omega]
   exact this
theorem Rel.write(h:Rel B g s a w){b:Nat}{x0 x:aY}{v:V}{l:aO}{w':aP}{N:Nat}(hN:N=g.bO b)(hb:s.H.get b=some x0)(ov:∀c,c≠N->w'.heap[c]?=w.heap[c]?)(fq:w'.heap.size=w.heap.size)(pN:w'.os=w.os)(ht:w'.tape=w.tape)(nK:w'.output=w.output)
  (ej:fU g s.H.az.length w' b x) (dx:x.top<=s.H.az.length) (gH:x.top<=b+1\/x.top<=v.top\/x.top<=x0.top\/x.top<=max x0.top v.top)
  (q_:∀off,D6 B b off->∃cs t sz xs,x=.cells cs t/\cs[off]?=some (.sl sz xs .lock)) (hl:∀p∈l,¬D6 B p.1 p.2) :
  Rel B g { s with H:=(s.H.set b x).bQ b v,lk:=l } a w':=by
 subst hN;simp only[Hp.get,zg] at hb;have iU:b<s.H.az.length:=(cZ.1 hb).1;have m_:((s.H.set b x).bQ b v).az=s.H.az.set b x:=by
  simp only[Hp.bQ,Hp.set];split<;>rfl
 have hlen:((s.H.set b x).bQ b v).az.length=s.H.az.length:=by rw[m_];simp
 have iJ:gK B.d (some b) none s.H.az.length g w g w' :=
  ⟨.refl _ _,λc _ hc _=>ov c (λe=>hc b rfl e.symm),λ_ _ _=>rfl,λ_ _ _ _=>rfl,by omega,λ_ _ _=>rfl,λl hl=>(by cases hl),λb' cY=>(by cases cY;exact iU),λ_ _ _ _=>rfl,pN,ht,nK⟩
 refine h.i_ (s':={ s with H:=(s.H.set b x).bQ b v,lk:=l }) iJ (by rw[hlen];exact dA _) (λb' cY cH=>?_) (λb' y Ik hy=>?_) (λb' h1 h2=>?_) (λb1 b2 h1 h2=>?_) (λc o u hu=>?_) (λc l hc=>?_)
  (λb j e=>by cases e) rfl rfl (λt y hy=>⟨y,hy,.inl ⟨rfl,λe=>by cases e⟩⟩) (λb' y hy=>?_) (λb' off Il=>?_) hl (λ_ e=>by cases e)
 ·rw[m_,su (λe=>cH (by rw[e]))]
 ·have cY:b'=b:=by
   rcases Ik with Ik|Ik
   ·cases Ik;rfl
   ·have:=(cZ.1 hy).1;rw[hlen] at this;omega
  subst cY;rw[m_,Cn iU] at hy;cases hy;rw[hlen];exact⟨ej,dx⟩
 ·rw[hlen] at h2;omega
 ·rw[hlen] at h2;omega
 ·have hc:c≠g.bO b:=by rintro rfl;rw[h.cX.apart b iU o] at hu;cases hu
  rw[yz (ov c hc)];exact h.cX.mem c o u hu
 ·have:=h.cX.eD c l hc;omega
 ·rw[show({ s with H:=(s.H.set b x).bQ b v,lk:=l }:St).H.az=s.H.az.set b x from m_] at hy;have dI:∀p∈s.H.bG,p∈((s.H.set b x).bQ b v).bG:=by
   intro p hp;simp only[Hp.bQ,Hp.set];split
   ·exact hp
   ·exact dU _ hp
  by_cases e:b'=b
  ·subst e;rw[Cn iU] at hy;cases hy;have G5:=h.bG b' x0 hb;have hv:v.top<=b'+1\/(b',v.top)∈((s.H.set b' x).bQ b' v).bG:=by
    simp only[Hp.bQ,Hp.set];split
    next h1=>exact .inl h1
    ·exact .inr (eK ..)
   have old:∀k,k<=x0.top->k<=b'+1\/(∃m,(b',m)∈((s.H.set b' x).bQ b' v).bG/\k<=m)\/∃y:aY,B.bs[b']?=some y/\k<=y.top:=by
    intro k hk;rcases G5 with h1|⟨m,h1,h2⟩|⟨y,h1,h2⟩
    ·exact .inl (cN hk h1)
    ·exact .inr (.inl ⟨m,dI _ h1,cN hk h2⟩)
    ·exact .inr (.inr ⟨y,h1,cN hk h2⟩)
   have new:∀k,k<=v.top->k<=b'+1\/(∃m,(b',m)∈((s.H.set b' x).bQ b' v).bG/\k<=m)\/∃y:aY,B.bs[b']?=some y/\k<=y.top:=by
    intro k hk;rcases hv with h1|h1
    ·exact .inl (cN hk h1)
    ·exact .inr (.inl ⟨_,h1,hk⟩)
   rcases gH with h1|h1|h1|h1
   ·exact .inl h1
   ·exact new _ h1
   ·exact old _ h1
   ·rcases Nat.le_total x0.top v.top with h2|h2
    ·rw[Nat.max_eq_right h2] at h1;exact new _ h1
    ·rw[Nat.max_eq_left h2] at h1;exact old _ h1
  ·rw[su (λe'=>e e'.symm)] at hy;rcases h.bG b' y hy with h1|⟨m,h1,h2⟩|h1
   ·exact .inl h1
   ·exact .inr (.inl ⟨m,dI _ h1,h2⟩)
   ·exact .inr (.inr h1)
 ·rw[show({ s with H:=(s.H.set b x).bQ b v,lk:=l }:St).H.az=s.H.az.set b x from m_]
  by_cases e:b'=b
  ·subst e;obtain⟨cs,t,sz,xs,h1,h2⟩:=q_ off Il;exact⟨cs,t,sz,xs,by rw[Cn iU,h1],h2⟩
  ·obtain⟨cs,t,sz,xs,h1,h2⟩:=h.lP b' off Il;exact⟨cs,t,sz,xs,by rw[su (λe'=>e e'.symm)];exact h1,h2⟩
theorem y5{vs cs:aD}{off:Nat}:aI (storeCells cs off vs)<=max (aI cs) (aI vs):=vA (D2 _ _) (HV _ _)
theorem zlr(h:Rel B g s a w){t:aB}{p x:aW}{b off n:Nat}{v:V}{cW:aD}{cs:aD}{ty:aB}(hp:ak s.env p=some (.ptr b off))(ht:take s.env x=some (v,cW))(hn:z4 P t=some n)
  (hb:s.H.get b=some (.cells cs ty)) (ej:dz v=true) (hl:v.laid.length=n) (hle:off+n<=cs.length) (oO:wz s.lk b off n (cs.drop off)=true) :
  ∃g' w',(Instr.storeAt t (a.eval p) (a.eval x)).run P w=.ok () w'/\Rel B g' { s with env:=cW,H:=(s.H.set b (.cells (storeCells cs off v.laid) ty)).bQ b v } a w':=by
 obtain⟨p1,p2,_⟩:=zI h hp;generalize Pr:a.eval p=cp at p1;cases p1;obtain⟨g',h1,v1,v2,v3,sQ⟩:=vG h ht (.cell b off);have cY:({ s with env:=cW }:St).H.get b=some (.cells cs ty):=hb;obtain⟨arr,a1,a2,a3,a4⟩:=xh h1 cY;obtain⟨l1,l2,l3⟩:=We v1 ej v2 (y4 ht) v3;have od:cs.length=arr.size:=by have:=a2.len;simpa using this
 have nL:(a.eval x).cells.size=n:=by rw[<- hl,l1.len];simp
 have n_:g'.bO b=g.bO b:=by rw[sQ.bO]
 have iU:b<s.H.az.length:=by simp only[Hp.get,zg] at hb;exact(cZ.1 hb).1
 have nq:arr.toList.take off++(a.eval x).cells.toList++arr.toList.drop (off+(a.eval x).cells.toList.length)=storeCells arr.toList off (a.eval x).cells.toList:=by
  have oP:arr.toList=arr.toList.take off++(arr.toList.drop off).take n++arr.toList.drop (off+n):=by
   rw[a_,<- List.drop_drop,Co,Co]
  have hlen:(arr.toList.take off).length=off:=by simp;omega
  have:=kR (a.eval x).cells.toList ((arr.toList.drop off).take n) (arr.toList.take off) (arr.toList.drop (off+n)) (by simp;omega)
  rw[hlen,<- oP] at this;rw[this];simp[nL]
 have cw:(Instr.storeAt t (.pointer (some ⟨g.bO b,off,none⟩)) (a.eval x)).run P w=.ok () (w.setRow (g.bO b) (storeCells arr.toList off (a.eval x).cells.toList).toArray):=by
  have eZ:=run_storeCells_at P (g.bO b) off ty (a.eval x).cells.toList 0 arr w (by rw[<- n_];exact a1) (by simp;omega) (λu hu=>by
   obtain⟨j,hj⟩:=List.getElem?_of_mem hu;have sO:j<v.laid.length:=by rw[l1.len];exact(cZ.1 hj).1
   have hx:=gj sO
   exact(l1.rel j _ u hx hj).nT (l1.one j _ hx))
  simp only[nZ] at eZ;rw[nq] at eZ;unfold Instr.storeAt storeVar;simp[Instr.sureAddr,jv hn,nL,eZ]
 refine⟨g',_,cw,?_⟩;have CE:(w.setRow (g.bO b) (storeCells arr.toList off (a.eval x).cells.toList).toArray).heap[g'.bO b]?=some (.cells (storeCells arr.toList off (a.eval x).cells.toList).toArray ty (0,0)):=by
  rw[n_];exact setRow_heap w _ _ _ ty _ (by rw[<- n_];exact a1)
 have iJ:gK B.d (some b) none s.H.az.length g' w g' (w.setRow (g.bO b) (storeCells arr.toList off (a.eval x).cells.toList).toArray) :=
  ⟨.refl _ _,λc _ hc _=>setRow_other w _ c _ (λe=>hc b rfl (by rw[n_,e])),λ_ _ _=>rfl,λ_ _ _ _=>rfl,by simp[World.setRow],λ_ _ _=>rfl,λl hl=>(by cases hl),λb' cY=>(by cases cY;exact iU),λ_ _ _ _=>rfl,rfl,rfl,rfl⟩
 have key:=Rel.write (l:=s.lk) (v:=v) h1 (b:=b) (x0:=.cells cs ty) (x:=.cells (storeCells cs off v.laid) ty) (N:=g.bO b) n_.symm cY (λc hc=>setRow_other w _ c _ hc) (by simp[World.setRow]) rfl rfl rfl
  ⟨_,CE,by simp[kC,od],λj y u hy hu=>?_⟩ (vA a3 l2) (.inr (.inr (.inr (cN y5 (uf.2 ⟨D2 _ _,?_⟩))))) (λo iy=>?_) h.ou
 ·exact key
 ·have eZ:=a2.store off l1;have hr:=eZ.rel j y u hy (by simpa using hu)
  refine⟨eZ.one j y hy,hr,?_,?_⟩
  ·rw[qE _ _ _ _ (by omega)] at hy
   have ny:(storeCells arr.toList off (a.eval x).cells.toList)[j]?=some u:=by simpa using hu
   rw[qE _ _ _ _ (by rw[AJ,AJ,nL,<- od];exact hle)] at ny
   by_cases hj:off<=j/\j<off+v.laid.length
   ·rw[if_pos hj] at hy;rw[if_pos (by simp[nL];omega)] at ny
    have:=(l3 (j - off) y u hy (by simpa using ny)).1
    rw[show off+(j - off)=j by omega] at this
    exact cL.same iJ (λe=>by cases e) (λb1 h2 h3=>absurd (show b1<s.H.az.length from h3) (Nat.not_lt.2 h2)) this
   ·rw[if_neg hj] at hy;rw[if_neg (by simp[nL];omega)] at ny
    exact cL.same iJ (λe=>by cases e) (λb1 h2 h3=>absurd (show b1<s.H.az.length from h3) (Nat.not_lt.2 h2)) (a4 j y u hy (by simpa using ny)).1
  ·rw[qE _ _ _ _ (by omega)] at hy
   have ny:(storeCells arr.toList off (a.eval x).cells.toList)[j]?=some u:=by simpa using hu
   rw[qE _ _ _ _ (by rw[AJ,AJ,nL,<- od];exact hle)] at ny
   by_cases hj:off<=j/\j<off+v.laid.length
   ·rw[if_pos hj] at hy;rw[if_pos (by simp[nL];omega)] at ny
    have:=(l3 (j - off) y u hy (by simpa using ny)).2
    cases y with
    | sl sz xs o=>cases o with
     | lock=>exact absurd rfl (this sz xs)
     | _=>trivial
    | _=>trivial
   ·rw[if_neg hj] at hy;rw[if_neg (by simp[nL];omega)] at ny
    exact(a4 j y u hy (by simpa using ny)).2
 ·have:aI v.laid<=v.top:=by
   rcases zji ej with⟨cs',rfl,e⟩|⟨_,e,_⟩
   ·rw[e,eO];exact dA _
   ·rw[e];simp[aI]
  exact cN this (HV _ _)
 ·obtain⟨Wh,t2,sz,xs,c1,c2⟩:=h.lP b o iy;have oe:s.H.az[b]?=some (.cells cs ty):=by simpa[Hp.get,zg] using hb
  rw[oe] at c1;cases c1;refine⟨_,_,sz,xs,rfl,?_⟩;rw[qE _ _ _ _ (by omega)]
  by_cases hj:off<=o/\o<off+v.laid.length
  ·have:=Wg oO (o - off) (.sl sz xs .lock) (by omega) (by rw[HT,show off+(o - off)=o by omega];exact c2) rfl
   rw[show off+(o - off)=o by omega] at this
   exact absurd iy (h.ou _ this)
  ·rw[if_neg hj];exact c2
end
end Go.Vm
