/- The abstract machine Vm: Go data by value, a small heap for variables and maps, an interpreter over the model's own Code. Conditions: none but those named. -/
import GoSem.Step
import Derived.Calls
import Derived.Laws.AppendOwn
import Derived.Laws.OwnMore
import Derived.Laws.MakeOwn
import Derived.Laws.NewBlocks
import Derived.Laws.Rows
import Derived.Deep.Draws
import Derived.Tactics
import Derived.Laws.Cells
import Derived.Laws.Entries
import Derived.Laws.CopyRow
import Derived.Laws.StructEq
import Derived.Laws.Cover3
import Derived.WalkKit
import Derived.Laws.BytesString
import Derived.Laws.RangeString
import Derived.Laws.IdiomStrings
set_option linter.defProp false
namespace Go
def aR:∀{α:Type _}(val Br:α),(some val=some Br)=(val=Br):=@Option.some.injEq
def bq:∀{α:Type _}{a:α}{as:List α},List.length (a::as)=List.length as+1:=@List.length_cons
def bC:∀{α:Type _}{β:Type _}(a:α)(f:α->Option β),Option.bind (some a) f=f a:=@Option.bind_some
def bG:∀{α:Type _}{β:Type _}(a:α)(f:α->β),Option.map f (some a)=some (f a):=@Option.map_some
def bY:∀{α:Type _}{as bs:List α},List.length (as++bs)=List.length as+List.length bs:=@List.length_append
def b_:∀{α:Type _}(as bs cs:List α),as++bs++cs=as++(bs++cs):=@List.append_assoc
def cF:∀{α:Type _}{a:α}{as bs:List α},a::as++bs=a::(as++bs):=@List.cons_append
def cq:∀{α:Type _}(as:List α),[]++as=as:=@List.nil_append
def dB:∀{α:Type _}(y:α){a:α}{l:List α},a∈l->a∈y::l:=@List.mem_cons_of_mem
def eE:∀{α:Type _}{i:Nat}{a:α}{l:List α},l[i]?=some a↔∃h,l[i]=a:=@List.getElem?_eq_some_iff
def bS:∀{α:Type _}{β:Type _}(fst:α)(snd:β)(Kf:α)(Kg:β),((fst,snd)=(Kf,Kg))=(fst=Kf/\snd=Kg):=@Prod.mk.injEq
def cY:(¬False)=True:=@not_false_eq_true
def cR:∀(a b:Bool),((a&&b)=true)=(a=true/\b=true):=@Bool.and_eq_true
def bW:∀{α:Type _}{β:Type _}{f:α->β}{a:α}{l:List α},List.map f (a::l)=f a::List.map f l:=@List.map_cons
def dF:(false=true)=False:=@Bool.false_eq_true
def dJ:∀{α:Type _}{x:α}{xs:List α}{a:α},List.set (x::xs) 0 a=a::xs:=@List.set_cons_zero
def dM:∀{α:Type _}{x:α}{xs:List α}{i:Nat}{a:α},List.set (x::xs) (i+1) a=x::List.set xs i a:=@List.set_cons_succ
def cK:∀(n:Nat),0+n=n:=@Nat.zero_add
def cL:∀(n:Nat),n+0=n:=@Nat.add_zero
def cU:∀(n m k:Nat),n+m+k=n+(m+k):=@Nat.add_assoc
def dL:∀{α:Type _}(l:List α),l<+:l:=@List.prefix_refl
def fJ:∀{α:Type _}{b:α}{FL:Type _}{x:Option FL}{f:FL->Option α},Option.bind x f=some b↔∃a,x=some a/\f a=some b:=@Option.bind_eq_some_iff
def cM:∀{α:Type _}{β:Type _}{f:α->β},List.map f []=[]:=@List.map_nil
def dh:∀{α:Type _}{b:α}{l:List α}{a:α},a∈b::l↔a=b\/a∈l:=@List.mem_cons
def cZ:∀{n m k:Nat},n<=m->m<=k->n<=k:=@Nat.le_trans
def eS:∀{α:Type _}{a:α}{l:List α},a∈a::l:=@List.mem_cons_self
def ee:∀{α:Type _}{as:List α}{i:Nat}{a:α},List.length (List.set as i a)=List.length as:=@List.length_set
def gy:∀{n m:Nat},Nat.beq n m=true->n=m:=@Nat.eq_of_beq_eq_true
def eF:∀{α:Type _}{β:Type _}{as:List α}(f:α->β),List.length (List.map f as)=List.length as:=@List.length_map
def cg:∀(p:Prop),(True/\p)=p:=@true_and
def dW:∀(a:Nat),Nat.beq a a=true:=@Nat.beq_refl
def eH:∀(b:Bool),(true&&b)=b:=@Bool.true_and
def eI:∀(b:Bool),(false||b)=b:=@Bool.false_or
def eU:(!true)=false:=@Bool.not_true
def fm:∀(b:Bool),(false&&b)=false:=@Bool.false_and
def fz:(!false)=true:=@Bool.not_false
def ek:∀(n:Nat),n<=n:=@Nat.le_refl
def fo:∀(b:Bool),(b&&b)=b:=@Bool.and_self
def fD:∀(b:Bool),(b||false)=b:=@Bool.or_false
def fY:∀(b:Bool),(b&&false)=false:=@Bool.and_false
def mz:∀{α:Type _}{l₁ l₂:List α}{i:Nat},i<List.length l₁->(l₁++l₂)[i]?=l₁[i]?:=@List.getElem?_append_left
def fR:∀(b:Bool),(b&&true)=b:=@Bool.and_true
def mq:∀{α:Type _}{l:List α}{i:Nat}(h:i<List.length l),l[i]?=some l[i]:=@List.getElem?_eq_getElem
def fO:∀(b:Bool),(true||b)=true:=@Bool.true_or
def fP:∀(b:Bool),(b||true)=true:=@Bool.or_true
def l8:∀{α:Type _}{b:α}{FL:Type _}{x:Option FL}{f:FL->α},Option.map f x=some b↔∃a,x=some a/\f a=b:=@Option.map_eq_some_iff
def oe:∀{α:Type _}{l₁ l₂:List α}{i:Nat},List.length l₁<=i->(l₁++l₂)[i]?=l₂[i - List.length l₁]?:=@List.getElem?_append_right
def ga:∀(n:Nat),0<=n:=@Nat.zero_le
def l9:∀(n:Nat),Int.toNat ↑n=n:=@Int.toNat_natCast
def nF:∀{α:Type _}{l:List α}{i:Nat}{a:α},l[i]?=some a->a∈l:=@List.mem_of_getElem?
def mS:∀{α:Type _}{β:Type _}{f:α->β}{l:List α}{i:Nat},(List.map f l)[i]?=Option.map f l[i]?:=@List.getElem?_map
def sQ:∀{α:Type _}{i:Nat}{b:α}{xs:Array α},xs[i]?=some b↔∃h,xs[i]=b:=@Array.getElem?_eq_some_iff
def mT:∀(a b:Bool),((a||b)=true)=(a=true\/b=true):=@Bool.or_eq_true
def lP:∀(n m:Nat),n<m\/n ≥ m:=@Nat.lt_or_ge
def oY:∀{n m k:Nat},n<m->m<=k->n<k:=@Nat.lt_of_lt_of_le
def sE:∀{n m:Nat},Nat.ble n m=true->n<=m:=@Nat.le_of_ble_eq_true
def ni:∀{α:Type _}{β:Type _}{b:β}{f:α->β}{l:List α},b∈List.map f l↔∃a,a∈l/\f a=b:=@List.mem_map
def oZ:∀{α:Type _}(as:List α),as++[]=as:=@List.append_nil
def uj:∀{α:Type _}{l:List α}{i:Nat},List.length l<=i->l[i]?=none:=@List.getElem?_eq_none
def Ba:∀{α:Type _}{a:α}{l:List α},(a::l)[0]?=some a:=@List.getElem?_cons_zero
def sR:∀(b:Bool),((!b)=true)=(b=false):=@Bool.not_eq_true'
def tZ:∀{α:Type _}(l₁ l₂:List α),l₁<+:l₁++l₂:=@List.prefix_append
def s7:∀{α:Type _}{l:List α}{i j:Nat}{a:α},(List.set l i a)[j]?=if i=j then if i<List.length l then some a else none else l[j]?:=@List.getElem?_set
def uk:∀{α:Type _}{a b:α},a∈[b]↔a=b:=@List.mem_singleton
def um:∀{α:Type _}{l:List α}{i j:Nat},(List.take i l)[j]?=if j<i then l[j]? else none:=@List.getElem?_take
def t_:∀{α:Type _}{a b:α},Option.getD (some a) b=a:=@Option.getD_some
def Bs:∀{α:Type _}{l:List α}{i j:Nat},i ≠ j->∀{a:α},(List.set l i a)[j]?=l[j]?:=@List.getElem?_set_ne
def Dr:∀{α:Type _}{a:α}{i:Nat}{l:List α},(a::l)[i+1]?=l[i]?:=@List.getElem?_cons_succ
def Cj:∀{α:Type _}{a:α}{i:Nat}{l:List α},a∈List.drop i l->a∈l:=@List.mem_of_mem_drop
def Ck:∀{α:Type _}{a:α}{as:List α}(bs:List α),a∈as->a∈as++bs:=@List.mem_append_left
def uo:∀{α:Type _}{a:α}{s t:List α},a∈s++t↔a∈s\/a∈t:=@List.mem_append
def CA:∀{α:Type _}{b:α}(as:List α){bs:List α},b∈bs->b∈as++bs:=@List.mem_append_right
def ur:∀{α:Type _}{val Br:α},some val=some Br->val=Br:=@Option.some.inj
def CB:∀{α:Type _}{i:Nat}{a:α}{l:List α},a∈List.take i l->a∈l:=@List.mem_of_mem_take
def Ds:∀{α:Type _}{a:α},List.length [a]=1:=@List.length_singleton
def Bb:∀{α:Type _}{i:Nat}{l:List α},List.length (List.take i l)=min i (List.length l):=@List.length_take
def En:∀{α:Type _}{i:Nat}{l:List α},List.length l<=i->List.take i l=l:=@List.take_of_length_le
def CC:∀{α:Type _}{xs:Array α},List.length (Array.toList xs)=Array.size xs:=@Array.length_toList
def FM:∀{α:Type _}{xs:Array α}{i:Nat}(h:i<Array.size xs),xs[i]?=some xs[i]:=@Array.getElem?_eq_getElem
def HP:∀{α:Type _}{l:List α}{i:Nat}{a:α},List.getD l i a=Option.getD l[i]? a:=@List.getD_eq_getElem?_getD
def FN:∀{α:Type _}{l:List α}{i:Nat}{a:α},i<List.length l->(List.set l i a)[i]?=some a:=@List.getElem?_set_self
def Dt:∀{α:Type _}{l₁ l₂:List α},(∀(i:Nat),l₁[i]?=l₂[i]?)->l₁=l₂:=@List.ext_getElem?
def Kh:∀{α:Type _}{l:List α},List.length l=0->l=[]:=@List.eq_nil_of_length_eq_zero
def FO:∀{α:Type _}(i:Nat)(l:List α),List.take i l++List.drop i l=l:=@List.take_append_drop
def uS:∀(n m k:Nat),(n+m) * k=n * k+m * k:=@Nat.add_mul
def uu:∀{a b c:Nat},max a b<=c↔a<=c/\b<=c:=@Nat.max_le
def Fb:∀{α:Type _}{β:Type _}{x:α}{xs:List α}{f:α->List β},List.flatMap f (x::xs)=f x++List.flatMap f xs:=@List.flatMap_cons
def FP:∀{α:Type _}{xs:List α}{i j:Nat},(List.drop i xs)[j]?=xs[i+j]?:=@List.getElem?_drop
def Eo:∀(a b:Nat),a<=max a b:=@Nat.le_max_left
def Fc:∀{α:Type _}{p:α->Bool}{l:List α},List.all l p=true↔∀(x:α),x∈l->p x=true:=@List.all_eq_true
def HQ:∀{α:Type _}{β:Type _}{l:List α}{a:α}{f:α->β},a∈l->f a∈List.map f l:=@List.mem_map_of_mem
def Ki:∀{n:Nat}{α:Type _}{a:α}{i:Nat},(List.replicate n a)[i]?=if i<n then some a else none:=@List.getElem?_replicate
def IG:∀{n:Nat},List.range n=List.range' 0 n:=@List.range_eq_range'
def uT:∀{α:Sort _}(a b:α),(bif true then a else b)=a:=@cond_true
def HR:∀(b:Bool),(¬b=false)=(b=true):=@Bool.not_eq_false
def Kj:∀{n m:Nat},n<=m->Nat.ble n m=true:=@Nat.ble_eq_true_of_le
def HS:∀{a b:Nat},a<b->a % b=a:=@Nat.mod_eq_of_lt
def FQ:∀{m n:Nat},m∈List.range n↔m<n:=@List.mem_range
def Kk:∀{α:Type _}{l:List α},0<List.length l↔l ≠ []:=@List.length_pos_iff
def HT:∀{a b:Bool},a=b↔(a=true↔b=true):=@Bool.eq_iff_iff
def LH:∀{α:Type _}{xs:Array α}{i:Nat},(Array.toList xs)[i]?=xs[i]?:=@Array.getElem?_toList
def LI:∀{α:Type _}{n:Nat}{a:α},List.length (List.replicate n a)=n:=@List.length_replicate
def II:∀(a b:Nat),b<=max a b:=@Nat.le_max_right
def LJ:∀{x y:Bool},(x||y)=false↔x=false/\y=false:=@Bool.or_eq_false_iff
def N0:∀{α:Type _}{l:List α},List.length l=0↔l=[]:=@List.length_eq_zero_iff
def Bt:∀(p:Prop),(p/\True)=p:=@and_true
def Ep:∀{x y:Nat},(Nat.blt x y=true)=(x<y):=@Nat.blt_eq
def IJ:∀{α:Type _}{l:List α},List.drop 0 l=l:=@List.drop_zero
def N1:∀{a m n:Nat},1<a->m<n->a ^ m<a ^ n:=@Nat.pow_lt_pow_right
def P2:∀(n m:Nat),n+m - n=m:=@Nat.add_sub_cancel_left
def N2:∀{n m:Nat},Nat.testBit (2 ^ n) m=decide (n=m):=@Nat.testBit_two_pow
def N3:∀(n:Nat),n=0\/n > 0:=@Nat.eq_zero_or_pos
def P3:(true=false)=False:=@Bool.true_eq_false
def LL:∀(n:Nat),n * 1=n:=@Nat.mul_one
end Go
namespace Go.Vm
open Go
section
def aU{α:Sort _}{h:Decidable True}(t e:α):@ite α True h t e=t:=if_true ..
def bZ{α:Sort _}{h:Decidable False}(t e:α):@ite α False h t e=e:=if_false ..
inductive Own where
 |no|yes (e:TypeId)|lock
 deriving DecidableEq,Inhabited
inductive V where
 |bool (b:Bool)
 |int (k:IntKind) (n:Int)
 |str (s:List Nat)
 |ef|ptr (b off:Nat)|gI (g off:Nat)|obj (k:Nat)|vp (cs:List V)
 |aJ|sl (sz:Nat) (xs:List V) (o:Own)|sr (b off len cap:Nat)
 |oo|map (b:Nat)
 |o9|fn (f:Fn) (first cap:List V)
 |cV|fq (t:TypeId) (v:V)
 |eo (b u len:Nat)|gY (b u k:Nat)
 |agg (cs:List V)
 |bz (vs:List V)
 |mU
 deriving Inhabited
abbrev bk:=List (Nat×Nat)
abbrev bH:=List (V×List V)
abbrev oq:=Option (Nat×Bool)
abbrev dY:=List Value
abbrev dI:=Array Value
abbrev ot:=Array Operand
abbrev bP:=List Tmp
abbrev fQ:=Option Tmp
abbrev aA:=List V
abbrev cP:=Option V
abbrev bR:=List Nat
abbrev aq:=TypeId
abbrev aM:=Program
abbrev aK:=World
abbrev aS:=Value
abbrev aO:=Operand
def fH:V->Bool
 | .bz _|.mU=>false
 | _=>true
def V.cells:V->aA
 | .agg cs=>cs
 | v=>[v]
def aT:V->V
 | .sl sz xs _=>.sl sz xs .no
 | v=>v
def V.laid:V->aA
 | .agg cs=>cs.map aT
 | v=>[v]
mutual
def V.top:V->Nat
 | .ptr b _|.sr b _ _ _|.map b=>b+1
 | .eo b _ _|.gY b _ _=>b+1
 | .vp cs|.sl _ cs _|.agg cs|.bz cs=>aI cs
 | .fn _ a c=>max (aI a) (aI c)
 | .fq _ v=>v.top
 | _=>0
def aI:aA->Nat
 | []=>0
 | v::vs=>max v.top (aI vs)
end
def nth{α:Type}:List α->Nat->Option α
 | [],_=>none
 | x::_,0=>some x
 | _::xs,n+1=>nth xs n
def vg{β:Type}(n:Nat)(k:Nat->β):β :=
 match n with
 | 0=>k 0
 | m+1=>k (m+1)
def Xp{β:Type}(n:Int)(k:Int->β):β :=
 match n with
 | .ofNat m=>vg m λm=>k (.ofNat m)
 | .negSucc m=>vg m λm=>k (.negSucc m)
def T4{β:Type}:bR->(bR->β)->β
 | [],k=>k []
 | x::xs,k=>vg x λx=>T4 xs λys=>k (x::ys)
def fL{α β:Type}:List α->(List α->β)->β
 | [],k=>k []
 | x::xs,k=>fL xs λys=>k (x::ys)
def fC{β:Type}(v:V)(k:V->β):β :=
 match v with
 | .bool true=>k (.bool true)
 | .bool false=>k (.bool false)
 | .int kd n=>Xp n λn=>k (.int kd n)
 | .str s=>T4 s λs=>k (.str s)
 | .ptr b o=>vg b λb=>vg o λo=>k (.ptr b o)
 | .sr b o n c=>vg b λb=>vg o λo=>vg n λn=>vg c λc=>k (.sr b o n c)
 | .map b=>vg b λb=>k (.map b)
 | .eo b u n=>vg b λb=>vg u λu=>vg n λn=>k (.eo b u n)
 | .gY b u j=>vg b λb=>vg u λu=>vg j λj=>k (.gY b u j)
 | .sl sz xs o=>fL xs λxs=>k (.sl sz xs o)
 | .vp cs=>fL cs λcs=>k (.vp cs)
 | v=>k v
def CD{β:Type}:aA->(aA->β)->β
 | [],k=>k []
 | x::xs,k=>fC x λx=>CD xs λys=>k (x::ys)
def fV{β:Type}(v:V)(k:V->β):β :=
 match v with
 | .agg cs=>CD cs λcs=>k (.agg cs)
 | .bz cs=>CD cs λcs=>k (.bz cs)
 | .fn f a c=>CD a λa=>CD c λc=>k (.fn f a c)
 | v=>fC v k
def Kl{α β:Type}:List α->Nat->α->(List α->β)->β
 | [],_,_,k=>k []
 | _::xs,0,v,k=>k (v::xs)
 | x::xs,n+1,v,k=>Kl xs n v λys=>k (x::ys)
inductive br where
 |cells (cs:aA) (t:aq)
 |map (es:List (V×V))
 |iter (s:bR) (pos:Nat)
 |ul (fE sz:Nat) (cs:aA) (e:aq)
 deriving Inhabited
structure Hp where
 aj:List br
 aW:bk
 deriving Inhabited
def Hp.push(H:Hp)(b:br):Hp:={ H with aj:=H.aj++[b] }
def Hp.get(H:Hp)(b:Nat):Option br:=nth H.aj b
def Hp.set(H:Hp)(b:Nat)(x:br):Hp:={ H with aj:=H.aj.set b x }
def Hp.bI(H:Hp)(b:Nat)(v:V):Hp:=if v.top<=b+1 then H else { H with aW:=(b,v.top)::H.aW }
inductive Out where
 |ret (v:V)
 |p7 (v:V)
inductive Ex where
 |normal|exit (id:Nat)|goto (l:Nat)|ret|p7 (v:V)
inductive OR where
 |val (v:V)
 |skip
 |p7 (v:V)
def oJ:V->Bool
 | .agg _|.bz _|.mU=>false
 | _=>true
mutual
def aH:aS->cP
 | .bool b=>some (.bool b)
 | .int k n=>some (.int k n)
 | .string s=>some (.str (s.data.toList.map UInt8.toNat))
 | .pointer none=>some .ef
 | .slice none 0 0=>some .aJ
 | .map none=>some .oo
 | .nilFunc=>some .o9
 | .func f ⟨[]⟩ ⟨[]⟩=>some (.fn f [] [])
 | .nilIface=>some .cV
 | .agg ⟨cs⟩=>(nJ cs).bind λl=>if l.all oJ then some (.agg l) else none
 | .tuple ⟨[]⟩=>some (.bz [])
 | _=>none
def nJ:dY->Option aA
 | []=>some []
 | v::vs=>match aH v,nJ vs with
  | some x,some xs=>some (x::xs)
  | _,_=>none
end
section
variable(P:aM)
def jh(t:aq):Option Nat:=(P.info? t).map (·.size)
def ka(t:aq):Option Bool:=(P.underlying t).map λ|.struct _|.array _ _=>true|_=>false
def kf(t:aq):cP:=(P.info? t).bind λi=>i.zero.bind aH
def wk(t:aq)(cs:aA)(off:Nat):cP:=do
 if <- ka P t then
  let n <- jh P t
  if off+n<=cs.length then some (.agg ((cs.drop off).take n)) else none
 else nth cs off
def IK(isAgg:Bool)(sz:Nat):Nat->aA->aA
 | 0,_=>[]
 | n+1,cs=>(if isAgg then .agg (cs.take sz) else cs.headD .mU)::IK isAgg sz n (cs.drop sz)
def vq(H:Hp)(elem:aq):V->Option aA
 | .aJ=>some []
 | .sl sz xs _=>do
  let n <- jh P elem
  if n=sz then some xs else none
 | .sr b off len _=>do
  let .cells cs _ <- H.get b|none
  let n <- jh P elem
  let ag <- ka P elem
  if Nat.ble (off+len * n) cs.length && (ag || Nat.beq n 1) then some (IK ag n len ((cs.drop off).map aT)) else none
 | _=>none
def l_:aA->Option bR
 | []=>some []
 | .int .u8 n::r=>(l_ r).map ((n.toNat % 256)::·)
 | _=>none
def rZ:bR->bR->Bool
 | [],[]=>true
 | a::x,b::y=>Nat.beq a b && rZ x y
 | _,_=>false
def FR:bR->bR->Bool
 | _,[]=>false
 | [],_::_=>true
 | a::x,b::y=>Nat.blt a b || (Nat.beq a b && FR x y)
def LM(eq:aq->V->V->Option Bool):List Field->aA->aA->Option Bool
 | [],_,_=>some true
 | f::fs,xs,ys =>
  if f.name= "_" then none else do
   let a <- wk P f.type xs f.offset
   let b <- wk P f.type ys f.offset
   if <- eq f.type a b then LM eq fs xs ys else some false
def LN(eq:aq->V->V->Option Bool)(e:aq)(n:Nat)(xs ys:aA):Nat->Nat->Option Bool
 | _,0=>some true
 | i,k+1=>do
  let a <- wk P e xs (i * n)
  let b <- wk P e ys (i * n)
  if <- eq e a b then LN eq e n xs ys (i+1) k else some false
def Cl(ds:TypeDesc)(x y:V):Option Bool :=
 match ds with
 | .bool=>match x,y with
  | .bool a,.bool b=>some (a == b)
  | _,_=>none
 | .int _=>match x,y with
  | .int k a,.int k' b=>if k=k' then some (a == b) else none
  | _,_=>none
 | .string=>match x,y with
  | .str a,.str b=>some (rZ a b)
  | _,_=>none
 | .pointer _=>match x,y with
  | .ef,.ef=>some true
  | .ef,.ptr _ _=>some false
  | .ptr _ _,.ef=>some false
  | .ef,.obj _=>some false
  | .obj _,.ef=>some false
  | _,_=>none
 | .interface _=>match x,y with
  | .cV,.cV=>some true
  | .cV,.fq _ _=>some false
  | .fq _ _,.cV=>some false
  | .fq tx _,.fq ty _=>if tx=ty then none else some false
  | _,_=>none
 | .slice _=>match x,y with
  | .aJ,.aJ=>some true
  | .aJ,.sl _ (_::_) _=>some false
  | .sl _ (_::_) _,.aJ=>some false
  | .aJ,.sr _ _ _ _=>some false
  | .sr _ _ _ _,.aJ=>some false
  | _,_=>none
 | .map _ _=>match x,y with
  | .oo,.oo=>some true
  | .oo,.map _=>some false
  | .map _,.oo=>some false
  | _,_=>none
 | .func _ _ _=>match x,y with
  | .o9,.o9=>some true
  | .o9,.fn _ _ _=>some false
  | .fn _ _ _,.o9=>some false
  | _,_=>none
 | _=>none
def r8:Nat->aq->V->V->Option Bool
 | 0,_,_,_=>none
 | d+1,t,x,y=>match P.underlying t with
  | none=>none
  | some ds=>match x,y with
   | .agg xs,.agg ys=>match ds with
    | .struct fs=>if P.stoodInHeld t then none else LM P (r8 d) fs.toList xs ys
    | .array len e=>match jh P e with
     | some n=>LN P (r8 d) e n xs ys 0 len
     | none=>none
    | _=>none
   | x,y=>Cl ds x y
def isConst:aO->Bool
 | .const _=>true
 | _=>false
def wR(t:aq)(x y:aO)(u v:V):Bool :=
 match u,v with
 | .cV,.cV=>isConst x || isConst y
 | .agg _,.agg _=>!P.eqGuardType P.depth t
 | .mU,_=>false
 | _,.mU=>false
 | _,_=>true
def kb(op:BinOp)(t:aq)(x y:aO)(u v:V):Bool :=
 match op with
 | .eql=>wR P t x y u v
 | .neq=>wR P t x y u v
 | _=>true
def N4(op:BinOp)(k:IntKind)(x y:Int):cP :=
 if y<0 then none else
 let n:=min y.toNat k.bits
 match op with
 | .shl=>some (.int k (k.wrap (x * 2 ^ n)))
 | .shr=>some (.int k (x.fdiv (2 ^ n)))
 | _=>none
def wl(op:BinOp)(k:IntKind)(x y:Int):cP :=
 match op with
 | .add=>some (.int k (k.wrap (x+y)))
 | .sub=>some (.int k (k.wrap (x - y)))
 | .mul=>some (.int k (k.wrap (x * y)))
 | .quo=>if y=0 then none else some (.int k (k.wrap (x.tdiv y)))
 | .rem=>if y=0 then none else some (.int k (x.tmod y))
 | .and=>some (.int k (k.wrap ((BitVec.ofInt k.bits x &&& BitVec.ofInt k.bits y).toNat)))
 | .or=>some (.int k (k.wrap ((BitVec.ofInt k.bits x ||| BitVec.ofInt k.bits y).toNat)))
 | .xor=>some (.int k (k.wrap ((BitVec.ofInt k.bits x ^^^ BitVec.ofInt k.bits y).toNat)))
 | .andNot=>some (.int k (k.wrap ((BitVec.ofInt k.bits x &&& ~~~ (BitVec.ofInt k.bits y)).toNat)))
 | .eql=>some (.bool (x == y))
 | .neq=>some (.bool (x != y))
 | .lss=>some (.bool (x<y))
 | .leq=>some (.bool (x<=y))
 | .gtr=>some (.bool (x > y))
 | .geq=>some (.bool (x ≥ y))
 | _=>none
def P4(op:BinOp)(x y:bR):cP :=
 match op with
 | .add=>if x.length+y.length<=140737488355328 then some (.str (x++y)) else none
 | .eql=>some (.bool (rZ x y))
 | .neq=>some (.bool !(rZ x y))
 | .lss=>some (.bool (FR x y))
 | .leq=>some (.bool (FR x y || rZ x y))
 | .gtr=>some (.bool !(FR x y || rZ x y))
 | .geq=>some (.bool !(FR x y))
 | _=>none
def wT(op:BinOp)(t:aq)(x y:V):cP :=
 match op,x,y with
 | .shl,.int k a,.int _ b|.shr,.int k a,.int _ b=>N4 op k a b
 | _,.int k a,.int k' b=>if k=k' then wl op k a b else none
 | _,.str a,.str b=>P4 op a b
 | .eql,x,y=>(r8 P 100 t x y).map .bool
 | .neq,x,y=>(r8 P 100 t x y).map λb=>.bool !b
 | _,_,_=>none
def FU(op:UnOp)(x:V):cP :=
 match op,x with
 | .neg,.int k n=>some (.int k (k.wrap (0 - n)))
 | .xor,.int k n=>wl .xor k (if k.signed then -1 else k.max) n
 | .not,.bool b=>some (.bool !b)
 | _,_=>none
def vw(src dst:aq)(x:V):cP:=do
 match <- P.underlying src,<- P.underlying dst,x with
 | _,.int k,.int _ n=>some (.int k (k.wrap n))
 | _,.string,.int _ n=>some (.str ((Utf8.encode n).data.toList.map UInt8.toNat))
 | _,.string,.str s=>some (.str s)
 | .slice e,.string,.aJ=>do
  let .int .u8 <- P.underlying e|none
  some (.str [])
 | .slice e,.string,.sl 1 xs _=>do
  let .int .u8 <- P.underlying e|none
  (l_ xs).map .str
 | .string,.slice e,.str s=>do
  let .int .u8 <- P.underlying e|none
  some (.sl 1 (s.map λ(b:Nat)=>.int .u8 b) .no)
 | _,_,_=>none
def kE(v:cP)(d:Nat):Option Nat :=
 match v with
 | none=>some d
 | some (.int _ n)=>if 0<=n then some n.toNat else none
 | _=>none
def yK(t:aq)(x:V)(lo hi:cP):cP:=do
 match <- P.underlying t,x with
 | .string,.str s=>do
  let h <- kE hi s.length
  let l <- kE lo 0
  if l<=h/\h<=s.length then some (.str ((s.take h).drop l)) else none
 | .slice e,.sl sz xs _=>do
  let h <- kE hi xs.length
  let l <- kE lo 0
  let n <- jh P e
  if l<=h/\h<=xs.length/\n=sz then some (.sl sz ((xs.take h).drop l) .no) else none
 | .slice e,.aJ=>do
  let h <- kE hi 0
  let l <- kE lo 0
  let _ <- jh P e
  if l=0/\h=0 then some .aJ else none
 | .slice e,.sr b off len cap=>do
  let h <- kE hi len
  let l <- kE lo 0
  let n <- jh P e
  if l<=h/\h<=cap/\l<cap then some (.sr b (off+l * n) (h - l) (cap - l)) else
  if l=h/\h<=cap then some (.sl n [] .no) else none
 | _,_=>none
def qJ(H:Hp)(gl:Nat->Nat->cP)(t:aq)(a:V):cP:=do
 match a with
 | .ptr b off=>do
  let .cells cs _ <- H.get b|none
  wk P t cs off
 | .vp cs=>wk P t cs 0
 | .gY b u k=>do
  let .ul fE _ cs _ <- H.get b|none
  if Nat.beq fE u then wk P t cs k else none
 | .gI g off=>if <- ka P t then none else gl g off
 | _=>none
def N5(a b:V):Option Bool :=
 match a,b with
 | .int k x,.int k' y=>if k=k' then some (x == y) else none
 | .str x,.str y=>some (rZ x y)
 | .bool x,.bool y=>some (x == y)
 | _,_=>none
def Fe(ds:TypeDesc)(k:V):Bool :=
 match ds,k with
 | .int _,.int _ _=>true
 | .string,.str _=>true
 | .bool,.bool _=>true
 | _,_=>false
def N6(k:V):List (V×V)->Option cP
 | []=>some none
 | (a,v)::r=>match N5 k a with
  | some true=>some (some v)
  | some false=>N6 k r
  | none=>none
def N7(k x:V):List (V×V)->Option (List (V×V))
 | []=>some [(k,x)]
 | (a,v)::r=>match N5 k a with
  | some true=>some ((k,x)::r)
  | some false=>(N7 k x r).map ((a,v)::·)
  | none=>none
def IL(l:bR):Nat×Nat :=
 let at' (k:Nat):Nat:=l.getD k 0
 let cont (k:Nat):Bool:=Nat.blt k l.length && Nat.beq (at' k / 64) 2
 let b0:=at' 0
 if b0<0x80 then (b0,1)
 else if b0 / 32 == 6 && cont 1 then
  let c:=(b0 % 32) * 64+at' 1 % 64
  if c ≥ 0x80 then (c,2) else (Utf8.runeError,1)
 else if b0 / 16 == 14 && cont 1 && cont 2 then
  let c:=(b0 % 16) * 4096+(at' 1 % 64) * 64+at' 2 % 64
  if c ≥ 0x800 && Utf8.valid c then (c,3) else (Utf8.runeError,1)
 else if b0 / 8 == 30 && cont 1 && cont 2 && cont 3 then
  let c:=(b0 % 8) * 262144+(at' 1 % 64) * 4096+(at' 2 % 64) * 64+at' 3 % 64
  if c ≥ 0x10000 && Utf8.valid c then (c,4) else (Utf8.runeError,1)
 else (Utf8.runeError,1)
def Xq(t:aq)(v:V)(name:String):Option (FuncId×V):=do
 let i <- P.info? t
 let m <- i.methods.find? (·.name == name)
 if !m.path.isEmpty then none else
 let (f,pr) <- m.func
 match <- P.underlying t,pr with
 | .pointer _,true=>some (f,v)
 | .pointer _,false=>none
 | _,true=>none
 | _,false=>some (f,v)
def storeCells{α:Type}(cs:List α)(off:Nat):List α->List α
 | []=>cs
 | v::vs=>storeCells (cs.set off v) (off+1) vs
def locked:V->Bool
 | .sl _ _ .lock=>true
 | _=>false
def Xr(name:String)(args:aA):cP :=
 match name,args with
 | "internal/bytealg.IndexByteString",[.str s,.int .u8 c]=>if 0<=c/\c<256 then some (.int .i64 (match s.findIdx? (λ(b:Nat)=>Nat.beq b c.toNat) with|some i=>i|none=>-1)) else none
 | _,_=>none
end
def Er:List Oper->bP
 | [a,b]=>match a.dst,b.dst,b.op with
  | some k,some r,.assign (.tmp x)=>match Nat.beq k 19 && Nat.beq x 19 && Nat.beq r 2 with
   | true=>[k]
   | false=>[]
  | _,_,_=>[]
 | _=>[]
def Es:List Oper->bP
 | [a,b,c]=>match a.dst,a.op,b.dst,b.op,c.op with
  | some k,.load _ _,some r,.slice _ (.tmp x) (some _) none none,.store _ _ (.tmp y)=>match Nat.beq k x && Nat.beq r y with
   | true=>[k,1048576+k]
   | false=>[]
  | _,_,_,_,_=>[]
 | _=>[]
def kX(ops:Array Oper):bP :=
 (ops.toList.filterMap λo=>match o.op with
  | .call { callee:=.builtin .append,args,.. }=>match (args[0]?:Option aO) with
   | some (.tmp t)=>some t
   | _=>none
  | _=>none)++Er ops.toList++Es ops.toList
structure Cx where
 P:aM
 gl:Nat->Nat->cP
 call:FuncId->aA->Hp->Option (Out×Hp)
 uq:aq->Bool
def aB(env:aA):aO->cP
 | .tmp t=>match nth env t with
  | some v=>some (aT v)
  | none=>none
 | .const v=>aH v
 | .global g=>some (.gI g 0)
 | .func f=>some (.fn (.func f) [] [])
def dU(env:aA):Option aO->Option cP
 | none=>some none
 | some x=>match aB env x with
  | some v=>some (some v)
  | none=>none
def take(env:aA):aO->Option (V×aA)
 | .tmp t=>match nth env t with
  | some (.sl sz xs (.yes e))=>Kl env t (.sl sz xs .no) λenv=>some (.sl sz xs (.yes e),env)
  | some v=>some (aT v,env)
  | none=>none
 | x=>(aB env x).map (·,env)
def aL(env:aA):List aO->Option aA
 | []=>some []
 | x::xs=>match aB env x with
  | none=>none
  | some v=>fV v λv=>match aL env xs with
   | none=>none
   | some vs=>some (v::vs)
structure St where
 env:aA
 H:Hp
 lk:bk
 defers:bH
def IM{β:Type}(H:Hp)(b:br)(k:Nat->Hp->β):β :=
 match H with
 | ⟨bs,es⟩=>vg bs.length λn=>fL (bs++[b]) λbs=>k n ⟨bs,es⟩
def FV{β:Type}(H:Hp)(b:Nat)(x:br)(v:V)(k:Hp->β):β :=
 match H with
 | ⟨bs,es⟩=>Kl bs b x λbs=>if v.top<=b+1 then k ⟨bs,es⟩ else vg v.top λt=>k ⟨bs,(b,t)::es⟩
def IN:Out×Hp->OR×Hp
 | (.ret v,H)=>(.val v,H)
 | (.p7 v,H)=>(.p7 v,H)
def Cx.dZ(cx:Cx)(f:FuncId)(args:aA)(H:Hp):Option (OR×Hp) :=
 match cx.P.funcs[f]? with
 | none=>none
 | some fn=>match fn.body with
  | none=>match Xr fn.name args with
   | none=>none
   | some v=>some (.val v,H)
  | some _=>match cx.call f args H with
   | none=>none
   | some r=>some (IN r)
def Cx.s8(cx:Cx)(fv:V)(args:aA)(H:Hp):Option (OR×Hp) :=
 match fv with
 | .fn (.func f) first cap=>fL ((first++args++cap).map aT) λargs=>cx.dZ f args H
 | .fn (.method name) first _ =>
  match first++args with
  | .fq t v::rest=>match Xq cx.P t v name with
   | none=>none
   | some (f,r)=>fL ((r::rest).map aT) λargs=>cx.dZ f args H
  | _=>none
 | _=>none
def kr(n bytes:Nat):Bool:=Nat.ble n 140737488355328 && Nat.ble (n * bytes) 140737488355328
def kG(P:aM)(H:Hp)(t:aq)(v y:V):cP:=do
 let .slice e <- P.underlying t|none
 let n <- jh P e
 let i <- P.info? e
 let z <- i.zero
 if !Nat.beq z.cells.size n then none else
 let ys <- vq P H e y
 match v with
 | .aJ=>match ys with
  | []=>some .aJ
  | ys=>if kr ys.length i.bytes && !Nat.beq n 0 then some (.sl n ys (.yes e)) else none
 | .sl sz xs (.yes e')=>if Nat.beq e e' && Nat.beq n sz && !Nat.beq n 0 && kr (xs.length+ys.length) i.bytes then some (.sl n (xs++ys) (.yes e)) else none
 | _=>none
def kU(P:aM)(H:Hp)(t:aq)(v:V):Option Int :=
 match P.underlying t,v with
 | some .string,.str l=>some l.length
 | some (.slice _),.aJ=>some 0
 | some (.slice _),.sl _ xs _=>some xs.length
 | some (.slice _),.sr _ _ n _=>some n
 | some (.slice _),.eo _ _ n=>some n
 | some (.map _ _),.oo=>some 0
 | some (.map _ _),.map b=>match H.get b with
  | some (.map es)=>some es.length
  | _=>none
 | _,_=>none
def Cx.builtin(cx:Cx)(b:Builtin)(argTypes:Array aq)(args:ot)(env:aA)(H:Hp):Option (OR×aA) :=
 match b,args.toList,argTypes.toList with
 | .len,[x],[t]=>do some (.val (.int .i64 (<- kU cx.P H t (<- aB env x))),env)
 | .append,[x,y],[t,u]=>do
  if !Nat.beq t u then none else
  let y <- aB env y
  let (v,env) <- take env x
  some (.val (<- kG cx.P H t v y),env)
 | .min,[x,y],_=>do
  match <- aB env x,<- aB env y with
  | .int k a,.int _ b=>some (.val (.int k (if b<a then b else a)),env)
  | _,_=>none
 | .max,[x,y],_=>do
  match <- aB env x,<- aB env y with
  | .int k a,.int _ b=>some (.val (.int k (if b > a then b else a)),env)
  | _,_=>none
 | _,_,_=>none
def xJ(cells:aA)(place:Nat->Option (Nat×Nat))(env:aA):List (Nat×aO)->Option aA
 | []=>some cells
 | (i,x)::r=>do
  let v <- aB env x
  let (off,n) <- place i
  if fH v && Nat.beq v.cells.length n && Nat.ble (off+n) cells.length then xJ (storeCells cells off v.cells) place env r else none
def P5(P:aM)(fs:Array Field):Option bk:=fs.toList.mapM (λf=>(P.info? f.type).map λi=>(f.offset,i.size))
def wx(P:aM)(t:aq)(parts:Array (Nat×aO))(env:aA):cP :=
 match kf P t with
 | none=>none
 | some z=>if !fH z then none else match P.underlying t with
  | some (.struct fs)=>match P5 P fs with
   | some ps=>(xJ z.cells (nth ps) env parts.toList).map .agg
   | none=>none
  | some (.array _ e)=>match P.info? e with
   | some ie=>(xJ z.cells (λi=>some (i * ie.size,ie.size)) env parts.toList).map .agg
   | none=>none
  | _=>none
def CE(n len:Nat)(env:aA):aA->List (Nat×aO)->Option aA
 | xs,[]=>some xs
 | xs,(i,x)::r=>do
  let v <- aB env x
  if fH v && Nat.beq v.cells.length n && Nat.blt i len then fV v λv=>Kl xs i v λxs=>CE n len env xs r else none
def Xs(P:aM)(t:aq)(k:V):Bool :=
 match P.underlying t with
 | some (.map kt _)=>match P.underlying kt with
  | some kd=>Fe kd k
  | none=>false
 | _=>false
def q7(P:aM)(t:aq)(x:V)(i:Int):cP :=
 match P.underlying t with
 | some (.array len e)=>match jh P e with
  | none=>none
  | some n=>match x with
   | .ptr b off=>if 0<=i/\i<len then some (.ptr b (off+i.toNat * n)) else none
   | .gI g off=>if 0<=i/\i<len then some (.gI g (off+i.toNat * n)) else none
   | .gY b u k=>if 0<=i/\i<len then some (.gY b u (k+i.toNat * n)) else none
   | .vp cs=>if 0<=i/\i<len then some (.vp (cs.drop (i.toNat * n))) else none
   | _=>none
 | some (.slice e)=>match jh P e with
  | none=>none
  | some n=>match x with
   | .sl sz xs _=>if Nat.beq n sz then (if i<0 then none else match nth xs i.toNat with
    | some x=>some (.vp x.cells)
    | none=>none) else none
   | .sr b off len _=>if 0<=i/\i<len then some (.ptr b (off+i.toNat * n)) else none
   | .eo b u len=>if 0<=i/\i<len then some (.gY b u (i.toNat * n)) else none
   | _=>none
 | _=>none
def N8(P:aM)(t:aq)(x:V)(i:Int):cP :=
 match P.underlying t with
 | some (.array len e)=>match jh P e with
  | none=>none
  | some n=>match x with
   | .agg cs=>if 0<=i/\i<len then (wk P e cs (i.toNat * n)).map aT else none
   | _=>none
 | some .string=>match x with
  | .str l=>if i<0 then none else match nth l i.toNat with
   | some b=>some (.int .u8 b)
   | none=>none
  | _=>none
 | _=>none
def aG:V->cP
 | .ptr b o=>some (.ptr b o)
 | .gI b o=>some (.gI b o)
 | .gY b u k=>some (.gY b u k)
 | .vp cs=>some (.vp cs)
 | .obj k=>some (.obj k)
 | .fn (.func f) a c=>some (.fn (.func f) a c)
 | .fq t v=>some (.fq t v)
 | _=>none
def P6(P:aM)(t:aq):Bool :=
 match P.underlying t with
 | none=>true
 | some (.interface _)=>true
 | _=>false
def Xt(H:Hp):V->Option (List (V×V))
 | .oo=>some []
 | .map b=>match H.get b with
  | some (.map es)=>some es
  | _=>none
 | _=>none
def Xu(P:aM)(e:aq)(k:V)(es:List (V×V)):Option (V×Bool) :=
 match N6 k es with
 | some (some v)=>some (v,true)
 | some none=>(kf P e).map (·,false)
 | none=>none
def N9(P:aM)(H:Hp)(a:aq)(v:V):cP :=
 match P.underlying a,v with
 | some (.slice e),.sr b o l c=>match vq P H e (.sr b o l c) with
  | some xs=>some (.sl 1 xs .no)
  | none=>none
 | _,v=>some v
def Km(a:aq):aq:=549755813888+a
def T5(P:aM)(H:Hp)(a b:aq)(v:cP):cP :=
 match v with
 | none=>none
 | some v=>match N9 P H a v with
  | none=>none
  | some v=>vw P a b v
def jA(P:aM)(gl:Nat->Nat->cP)(o:Oper)(env:aA)(H:Hp):cP:=do
 let ρ:=aB env
 match o.op with
 | .move x=>ρ x
 | .pick c a b=>do
  let .bool t <- ρ c|none
  match t with
  | true=>ρ a
  | false=>ρ b
 | .build t parts=>wx P t parts env
 | .buildSlice t len parts=>do
  let .slice e <- P.underlying t|none
  let n <- jh P e
  let z <- kf P e
  if Nat.beq n 0 || Nat.blt 16777216 (len * n) || !Nat.beq z.cells.length n || !fH z then none else
  let xs <- CE n len env (List.replicate len z) parts.toList
  some (.sl n xs (.yes e))
 | .load t a=>do
  let v <- qJ P H gl t (<- ρ a)
  some (aT v)
 | .nilCheck x=>do
  aG (<- ρ x)
 | .binOp op t x y _=>do
  let u <- ρ x
  let v <- ρ y
  if kb P op t x y u v then wT P op t u v else none
 | .unOp op _ x=>do FU op (<- ρ x)
 | .convert a b x=>do vw P a b (<- ρ x)
 | .makeInterface t x=>do
  let v <- ρ x
  if P6 P t then none else some (.fq t v)
 | .makeFunc fn first cap=>do some (.fn fn (<- aL env first.toList) (<- aL env cap.toList))
 | .slice t x lo hi mx=>do
  let T6 <- dU env lo
  let FW <- dU env hi
  let v <- ρ x
  match mx with
  | none=>yK P t v T6 FW
  | some m=>match <- ρ m,v,FW with
   | .int _ k,.sl sz xs o,some (.int _ h)=>if h<=k/\k<=xs.length then yK P t (.sl sz xs o) T6 FW else none
   | _,_,_=>none
 | .fieldAddr t x f=>do
  let .struct fs <- P.underlying t|none
  let fd <- fs[f]?
  if Nat.beq (<- jh P fd.type) 0 then none else
  match <- ρ x with
  | .ptr b off=>some (.ptr b (off+fd.offset))
  | .gI g off=>some (.gI g (off+fd.offset))
  | .gY b u k=>some (.gY b u (k+fd.offset))
  | .vp cs=>some (.vp (cs.drop fd.offset))
  | _=>none
 | .field t x f=>do
  let .struct fs <- P.underlying t|none
  let fd <- fs[f]?
  let .agg cs <- ρ x|none
  (wk P fd.type cs fd.offset).map aT
 | .indexAddr t x ix=>do
  let .int _ i <- ρ ix|none
  q7 P t (<- ρ x) i
 | .index t x ix=>do
  let .int _ i <- ρ ix|none
  N8 P t (<- ρ x) i
 | .lookup t m k ok=>do
  let .map kt e <- P.underlying t|none
  let kd <- P.underlying kt
  let k <- ρ k
  if !Fe kd k then none else
  let es <- Xt H (<- ρ m)
  let (v,f) <- Xu P e k es
  some (if ok then .bz [aT v,.bool f] else aT v)
 | .typeAssert x _ t ok=>do
  if P6 P t then none else
  match <- ρ x with
  | .cV=>if ok then do some (.bz [<- kf P t,.bool false]) else none
  | .fq u v=>if Nat.beq u t then some (if ok then .bz [aT v,.bool true] else aT v) else if ok then do some (.bz [<- kf P t,.bool false]) else none
  | _=>none
 | .extract x i=>do
  let .bz vs <- ρ x|none
  match nth vs i with
  | some v=>some (aT v)
  | none=>none
 | _=>none
def wQ(lk:bk)(b:Nat):Nat->Nat->aA->Bool
 | _,0,_=>true
 | _,_,[]=>false
 | off,n+1,c::cs=>(!locked c || lk.any λp=>Nat.beq p.1 b && Nat.beq p.2 off) && wQ lk b (off+1) n cs
def dz:aA->aA
 | []=>[]
 | v::vs=>v.cells++dz vs
def sS(P:aM)(uq:aq->Bool)(t:aq):Bool :=
 match P.underlying t with
 | some (.slice e)=>uq e
 | _=>false
def vJ(P:aM)(a b:aq)(x:aO)(env:aA):Option (V×aA) :=
 match Nat.beq a b,P.underlying a with
 | true,some (.slice e)=>match P.underlying e,take env x with
  | some (.int .u8),some (.sl sz (y::ys) (.yes _),env)=>some (.sl sz (y::ys) .no,env)
  | _,_=>none
 | _,_=>none
def xX(takes:bP)(x:aO)(lo hi:Option aO):Bool :=
 match x,lo,hi with
 | .tmp k,some _,none=>takes.any (Nat.beq (1048576+k))
 | _,_,_=>false
def N_(P:aM)(t:aq)(x:aO)(lo:Option aO)(env:aA):Option (V×aA) :=
 match P.underlying t,take env x,dU env lo with
 | some (.slice e'),some (.sl sz xs (.yes e),env),some (some (.int _ i))=>match jh P e' with
  | some n=>match Nat.beq n sz && decide (0<=i) && Nat.ble i.toNat xs.length with
   | true=>some (.sl sz (xs.drop i.toNat) (.yes e),env)
   | false=>none
  | none=>none
 | _,_,_=>none
def Cx.mV(cx:Cx)(t:aq)(x y:aO)(env:aA)(H:Hp)(lk:bk)(df:bH):Option (OR×St):=do
 let .slice e <- cx.P.underlying t|none
 let n <- jh cx.P e
 let i <- cx.P.info? e
 let z <- i.zero
 let ys <- vq cx.P H e (<- aB env y)
 if !Nat.beq z.cells.size n || Nat.beq n 0 then none else
 match <- aB env x with
 | .aJ=>match ys with
  | []=>some (.val .aJ,⟨env,H,lk,df⟩)
  | _=>if kr ys.length i.bytes then CD (dz ys) λcs=>vg ys.length λlen=>IM H (.ul 0 n cs e) λb H=>some (.val (.eo b 0 len),⟨env,H,lk,df⟩) else none
 | .eo b u len=>match H.get b with
  | some (.ul fE sz cs e') =>
   if Nat.beq e e' && Nat.beq n sz && Nat.beq fE u && kr (len+ys.length) i.bytes then
    CD (cs++dz ys) λcs=>vg (fE+1) λu=>vg (len+ys.length) λlen=>FV H b (.ul u sz cs e) (.bz ys) λH=>some (.val (.eo b u len),⟨env,H,lk,df⟩)
   else none
  | _=>none
 | .sr b off len cap=>match H.get b with
  | some (.cells cs ty) =>
   let new:=(dz ys).map aT
   if Nat.beq off 0 && Nat.beq n 1 && Nat.beq ty e && Nat.beq new.length ys.length && Nat.ble (len+ys.length) cap && Nat.ble (len+ys.length) cs.length && wQ lk b len ys.length (cs.drop len) then
    CD (storeCells cs len new) λcs=>vg (len+ys.length) λlen=>FV H b (.cells cs ty) (.bz new) λH=>some (.val (.sr b 0 len cap),⟨env,H,lk,df⟩)
   else none
  | _=>none
 | _=>none
def Cx.oK(cx:Cx)(t:aq)(x:aO)(lo hi:Option aO)(env:aA)(H:Hp)(lk:bk)(df:bH):Option (OR×St) :=
 match cx.P.underlying t,aB env x,dU env lo,dU env hi with
 | some (.slice e'),some (.eo b u len),some none,some (some (.int _ h))=>match jh cx.P e',H.get b with
  | some _,some (.ul fE sz cs e) =>
   if Nat.beq fE u && decide (0<=h) && Nat.ble h.toNat len then
    fL (cs.take (h.toNat * sz)) λcs=>vg (fE+1) λu=>vg h.toNat λlen=>FV H b (.ul u sz cs e) .ef λH=>some (.val (.eo b u len),⟨env,H,lk,df⟩)
   else none
  | _,_=>none
 | _,some (.sr b off len cap),some lo,some hi=>match yK cx.P t (.sr b off len cap) lo hi with
  | some v=>some (.val v,⟨env,H,lk,df⟩)
  | none=>none
 | _,_,_,_=>none
def Cx.s9(cx:Cx)(t:aq)(x y:aO)(env:aA)(H:Hp)(lk:bk)(df:bH):Option (OR×St):=do
 let .slice e <- cx.P.underlying t|none
 let n <- jh cx.P e
 let ys <- vq cx.P H e (<- aB env y)
 match <- aB env x with
 | .sr b off len _=>match H.get b with
  | some (.cells cs ty) =>
   let m:=min len ys.length
   let new:=(dz (ys.take m)).map aT
   if Nat.beq n 1 && Nat.beq new.length m && Nat.ble (off+m) cs.length && wQ lk b off m (cs.drop off) then
    CD (storeCells cs off new) λcs=>FV H b (.cells cs ty) (.bz new) λH=>some (.val (.int .i64 (m:Nat)),⟨env,H,lk,df⟩)
   else none
  | _=>none
 | _=>none
def Cx.op(cx:Cx)(takes:bP)(o:Oper)(env:aA)(H:Hp)(lk:bk)(df:bH):Option (OR×St) :=
  let P:=cx.P
  let taken:=match o.dst with
    | some d=>takes.any (Nat.beq d)
    | none=>false
  let read (_:Unit):Option (OR×St):=match jA P cx.gl o env H with
    | none=>none
    | some v=>some (.val v,⟨env,H,lk,df⟩)
  match o.op with
  | .move x=>match taken with
    | true=>match take env x with
      | none=>none
      | some (v,env)=>some (.val v,⟨env,H,lk,df⟩)
    | false=>read ()
  | .assign x=>match take env x with
    | none=>none
    | some (v,env)=>some (.val v,⟨env,H,lk,df⟩)
  | .load t a=>match taken with
    | false=>read ()
    | true=>match ka P t,aB env a with
      | some false,some (.ptr b off)=>match H.get b with
        | some (.cells cs ty)=>match nth cs off with
          | some (.sl sz xs (.yes e))=>Kl cs off (.sl sz xs .lock) λcs=>FV H b (.cells cs ty) .ef λH=>some (.val (.sl sz xs (.yes e)),⟨env,H,(b,off)::lk,df⟩)
          | some .aJ=>some (.val .aJ,⟨env,H,lk,df⟩)
          | some (.eo c u n)=>some (.val (.eo c u n),⟨env,H,lk,df⟩)
          | _=>none
        | _=>none
      | _,_=>none
  | .alloc t=>match kf P t with
    | none=>none
    | some z=>if !fH z then none else fV z λz=>IM H (.cells z.cells t) λn H=>some (.val (.ptr n 0),⟨env,H,lk,df⟩)
  | .box t x=>match take env x with
    | none=>none
    | some (v,env)=>if !fH v then none else fV v λv=>CD v.laid λcs=>IM H (.cells cs t) λn H=>some (.val (.ptr n 0),⟨env,H,lk,df⟩)
  | .store t a x=>match aB env a with
    | some (.ptr b off)=>match take env x,jh P t,H.get b with
      | some (v,env),some n,some (.cells cs ty) =>
        fV v λv=>CD v.laid λvs =>
          if fH v && Nat.beq vs.length n && Nat.ble (off+n) cs.length && wQ lk b off n (cs.drop off) then
            fL (storeCells cs off vs) λcs=>FV H b (.cells cs ty) v λH=>some (.skip,⟨env,H,lk,df⟩)
          else none
      | _,_,_=>none
    | some (.gY b u k)=>match take env x,jh P t,H.get b with
      | some (x,env),some n,some (.ul fE sz cs e) =>
        fV (aT x) λx=>if Nat.beq fE u && fH x && Nat.beq x.cells.length n && Nat.ble (k+n) cs.length then
          fL (storeCells cs k x.cells) λcs=>FV H b (.ul fE sz cs e) x λH=>some (.skip,⟨env,H,lk,df⟩)
        else none
      | _,_,_=>none
    | _=>none
  | .makeMap _ r=>match r with
    | some _=>none
    | none=>IM H (.map []) λn H=>some (.val (.map n),⟨env,H,lk,df⟩)
  | .makeSlice t l c=>match P.underlying t,aB env l,aB env c with
    | some (.slice e),some (.int _ l),some (.int _ c)=>match jh P e,P.info? e,kf P e with
      | some n,some i,some z =>
        if Nat.beq n 0 || l<0 || c<l || !kr c.toNat i.bytes || !Nat.beq z.cells.length n || !fH z then none else
        match cx.uq e && Nat.blt 0 c.toNat with
        | true=>CD (List.replicate c.toNat z.cells).flatten λcs=>IM H (.cells cs e) λn H=>vg l.toNat λl=>vg c.toNat λc=>some (.val (.sr n 0 l c),⟨env,H,lk,df⟩)
        | false =>
        if l=0 then some (.val (.sl n [] (.yes e)),⟨env,H,lk,df⟩) else
        if l=c then CD (List.replicate c.toNat z.cells).flatten λcs=>IM H (.cells cs e) λn H=>some (.val (.sr n 0 l.toNat c.toNat),⟨env,H,lk,df⟩) else none
      | _,_,_=>none
    | _,_,_=>none
  | .mapUpdate t m k x|.insert t m k x=>match aB env m,aB env k,aB env x with
    | some (.map b),some k,some x=>if !Xs P t k then none else fV k λk=>fV x λx=>match H.get b with
      | some (.map es)=>match N7 k x es with
        | some es=>fL es λes=>FV H b (.map es) (.bz [k,x]) λH=>some (.skip,⟨env,H,lk,df⟩)
        | none=>none
      | _=>none
    | _,_,_=>none
  | .range t x=>match P.underlying t,aB env x with
    | some .string,some (.str l)=>IM H (.iter l 0) λn H=>some (.val (.ptr n 0),⟨env,H,lk,df⟩)
    | _,_=>none
  | .next it true=>match aB env it with
    | some (.ptr b 0)=>match H.get b with
      | some (.iter l pos) =>
        if Nat.blt pos l.length then
          let (c,w):=IL (l.drop pos)
          vg (pos+w) λq=>FV H b (.iter l q) .ef λH=>some (.val (.bz [.bool true,.int .i64 pos,.int .i32 c]),⟨env,H,lk,df⟩)
        else some (.val (.bz [.bool false]),⟨env,H,lk,df⟩)
      | _=>none
    | _=>none
  | .convert a b x=>match vJ P a b x env with
    | some (v,env)=>some (.val v,⟨env,H,lk,df⟩)
    | none=>match cx.uq (Km a) with
      | true=>match T5 P H a b (aB env x) with
        | some v=>some (.val v,⟨env,H,lk,df⟩)
        | none=>none
      | false=>read ()
  | .slice t x lo hi none=>match xX takes x lo hi with
    | true=>match N_ P t x lo env with
      | some (v,env)=>some (.val v,⟨env,H,lk,df⟩)
      | none=>none
    | false=>match sS P cx.uq t with
      | true=>cx.oK t x lo hi env H lk df
      | false=>read ()
  | .call c=>match c.callee with
    | .builtin b=>match b,c.args.toList,c.argTypes.toList with
     | .copy,[x,y],t::_=>cx.s9 t x y env H lk df
     | .append,[x,y],[t,u]=>match sS P cx.uq t with
       | true=>if Nat.beq t u then cx.mV t x y env H lk df else none
       | false=>match cx.builtin b c.argTypes c.args env H with
        | none=>none
        | some (r,env)=>some (r,⟨env,H,lk,df⟩)
     | _,_,_=>match cx.builtin b c.argTypes c.args env H with
      | none=>none
      | some (r,env)=>some (r,⟨env,H,lk,df⟩)
    | .value f=>match aB env f,aL env c.args.toList with
      | some f,some args=>match cx.s8 f args H with
        | none=>none
        | some (r,H)=>some (r,⟨env,H,lk,df⟩)
      | _,_=>none
    | .invoke r m=>match aB env r,aL env c.args.toList with
      | some r,some args=>match cx.s8 (.fn (.method m) [] []) (r::args) H with
        | none=>none
        | some (r,H)=>some (r,⟨env,H,lk,df⟩)
      | _,_=>none
  | .defer c=>match c.callee with
    | .value f=>match aB env f,aL env c.args.toList with
      | some (.fn (.func f) first cap),some args=>some (.skip,⟨env,H,lk,(.fn (.func f) first cap,args)::df⟩)
      | _,_=>none
    | _=>none
  | .panic x=>match aB env x with
    | some (.fq t v)=>some (.p7 (.fq t v),⟨env,H,lk,df⟩)
    | _=>none
  | _=>read ()
def qb(env:aA)(dst:fQ)(v:V):aA :=
 match dst with
 | some d=>env.set d v
 | none=>env
def FX{β:Type}(env:aA)(dst:fQ)(v:V)(k:aA->β):β :=
 match dst with
 | some d=>fV v λv=>Kl env d v k
 | none=>k env
def q8(ops:Array Oper)(o:Oper)(env:aA):Option Bool :=
 match o.guard with
 | none=>some true
 | some (j,want)=>match (ops[j]?).bind (·.dst) with
  | none=>none
  | some d=>match nth env d with
   | some (.bool b)=>some (b == want)
   | some (.bz _)=>some false
   | _=>none
def Cx.ops(cx:Cx)(all:Array Oper)(takes:bP):List Oper->St->Option (Ex×St)
 | [],s=>some (.normal,s)
 | o::os,⟨env,H,lk,df⟩ =>
  match q8 all o env with
  | none=>none
  | some false=>FX env o.dst (.bz []) λenv=>cx.ops all takes os ⟨env,H,lk,df⟩
  | some true=>match cx.op takes o env H lk df with
   | none=>none
   | some (.val v,⟨env,H,lk,df⟩)=>FX env o.dst v λenv=>cx.ops all takes os ⟨env,H,lk,df⟩
   | some (.skip,⟨env,H,lk,df⟩)=>FX env o.dst (.bz []) λenv=>cx.ops all takes os ⟨env,H,lk,df⟩
   | some (.p7 v,s)=>some (.p7 v,s)
mutual
def V.same:V->V->Bool
 | .bool a,.bool b=>a == b
 | .int k n,.int k' n'=>if k=k' then n == n' else false
 | .str a,.str b=>rZ a b
 | .ef,.ef=>true
 | .ptr a b,.ptr c d=>Nat.beq a c && Nat.beq b d
 | .gI a b,.gI c d=>Nat.beq a c && Nat.beq b d
 | .obj a,.obj b=>Nat.beq a b
 | .vp a,.vp b=>gV a b
 | .aJ,.aJ=>true
 | .sl s a o,.sl s' b o'=>Nat.beq s s' && (if o=o' then gV a b else false)
 | .sr a b c d,.sr a' b' c' d'=>Nat.beq a a' && Nat.beq b b' && Nat.beq c c' && Nat.beq d d'
 | .oo,.oo=>true
 | .map a,.map b=>Nat.beq a b
 | .o9,.o9=>true
 | .fn f a c,.fn f' a' c'=>(if f=f' then true else false) && gV a a' && gV c c'
 | .cV,.cV=>true
 | .fq t v,.fq t' v'=>Nat.beq t t' && V.same v v'
 | .agg a,.agg b=>gV a b
 | .bz a,.bz b=>gV a b
 | .mU,.mU=>true
 | .eo a b n,.eo c d m=>Nat.beq a c && Nat.beq b d && Nat.beq n m
 | .gY a b e,.gY c d f=>Nat.beq a c && Nat.beq b d && Nat.beq e f
 | _,_=>false
def gV:aA->aA->Bool
 | [],[]=>true
 | x::xs,y::ys=>V.same x y && gV xs ys
 | _,_=>false
end
def jT(P:aM)(uq:aq->Bool)(takes:bP)(o:Oper):Bool :=
 match o.op with
 | .alloc _|.box ..|.store ..|.makeMap ..|.makeSlice ..|.mapUpdate ..|.insert ..|.range ..|.next ..|.defer _|.panic _=>true
 | .load ..=>match o.dst with
  | some d=>takes.any (Nat.beq d)
  | none=>false
 | .slice t _ _ _ none=>sS P uq t
 | .call c=>match c.callee with
  | .builtin .copy=>true
  | .builtin .append=>match c.argTypes.toList with
   | t::_=>sS P uq t
   | _=>false
  | .builtin _=>false
  | _=>true
 | _=>false
def wM(P:aM)(uq:aq->Bool)(o:Oper):Bool :=
 match o.op with
 | .slice t _ _ _ none=>sS P uq t
 | .convert a _ _=>uq (Km a)
 | .load ..|.lookup ..|.call _=>true
 | _=>false
def kV(takes:bP)(o:Oper):Option aO :=
 match o.op with
 | .move x=>if (match o.dst with|some d=>takes.any (Nat.beq d)|none=>false) then some x else none
 | .assign x|.box _ x|.store _ _ x=>some x
 | .convert a b x=>if Nat.beq a b then some x else none
 | .slice _ x lo hi none=>if xX takes x lo hi then some x else none
 | .call c=>match c.callee with
  | .builtin .append=>c.args.toList.head?
  | _=>none
 | _=>none
def gZ:List aO->Nat
 | []=>0
 | .tmp t::xs=>Nat.lor (Nat.pow 2 t) (gZ xs)
 | _::xs=>gZ xs
structure Rec where
 idx:Nat
 o:Oper
 m:Nat
 tm:Nat
 lm:Nat
 hp:Bool
 free:Bool
 env:aA
 v:V
structure eT where
 D:Nat
 H:Hp
 lk:bk
 df:bH
def bit(m i:Nat):Bool:=Nat.beq (Nat.mod (Nat.shiftRight m i) 2) 1
def kW(a b:Nat):Bool:=Nat.beq (Nat.land a b) a
def maskAt:List Rec->Nat->Option Nat
 | [],_=>none
 | r::rs,j=>if Nat.beq r.idx j then some r.m else maskAt rs j
def wd(rs:List Rec):List Edge->Option Nat
 | []=>some 0
 | e::es=>match Region.binds .any e with
  | false=>wd rs es
  | true=>match maskAt rs e.on with
   | none=>none
   | some m=>match wd rs es with
    | none=>none
    | some k=>some (Nat.lor k (Nat.lor m (Nat.pow 2 e.on)))
def Cx.dO(cx:Cx)(takes:bP)(o:Oper)(env:aA)(c:eT)(D:Nat):Option (V×eT) :=
 match cx.op takes o env c.H c.lk c.df with
 | some (.val v,s)=>some (v,⟨D,s.H,s.lk,s.defers⟩)
 | some (.skip,s)=>some (.bz [],⟨D,s.H,s.lk,s.defers⟩)
 | _=>none
def Cx.gj(cx:Cx)(takes:bP)(o:Oper)(env:aA)(v:V)(c:eT):Bool :=
 match cx.dO takes o env c 0 with
 | some (u,_)=>V.same u v
 | none=>false
def o_:List (V×V)->List (V×V)->Bool
 | [],[]=>true
 | (a,b)::x,(c,d)::y=>V.same a c && V.same b d && o_ x y
 | _,_=>false
def fA:br->br->Bool
 | .cells a t,.cells b u=>Nat.beq t u && gV a b
 | .map a,.map b=>o_ a b
 | .iter a i,.iter b j=>Nat.beq i j && rZ a b
 | .ul a b c d,.ul a' b' c' d'=>Nat.beq a a' && Nat.beq b b' && Nat.beq d d' && gV c c'
 | _,_=>false
def lF:List br->List br->Bool
 | [],[]=>true
 | a::x,b::y=>fA a b && lF x y
 | _,_=>false
def iV:bk->bk->Bool
 | [],[]=>true
 | (a,b)::x,(c,d)::y=>Nat.beq a c && Nat.beq b d && iV x y
 | _,_=>false
def mb:bH->bH->Bool
 | [],[]=>true
 | (a,b)::x,(c,d)::y=>V.same a c && gV b d && mb x y
 | _,_=>false
def yU(a b:eT):Bool:=iV a.lk b.lk && mb a.df b.df && iV a.H.aW b.H.aW && lF a.H.aj b.H.aj
def yV(D:Nat):List eT->Option eT
 | []=>none
 | c::cs=>if Nat.beq c.D D then some c else yV D cs
def cE:List Rec->Nat
 | []=>0
 | r::rs=>match r.hp with
  | true=>Nat.lor (Nat.pow 2 r.idx) (cE rs)
  | false=>cE rs
def kH{α:Type}(f:α->Bool):List α->Bool
 | []=>true
 | q::qs=>match f q with
  | true=>kH f qs
  | false=>false
def ku(D:Nat)(q:Rec):List Rec->Bool
 | []=>false
 | c::cs=>(c.hp && bit D c.idx && bit c.m q.idx) || ku D q cs
def kx(r q:Rec):Bool :=
 match bit r.m q.idx with
 | true=>true
 | false=>Nat.beq (Nat.land q.tm r.lm) 0 && Nat.beq (Nat.land r.tm q.lm) 0
def Cx.g_(cx:Cx)(takes:bP)(o:Oper)(env:aA)(v:V)(m b:Nat):List eT->Option (List eT)
 | []=>some []
 | c::cs=>match kW m c.D with
  | false=>cx.g_ takes o env v m b cs
  | true=>match cx.dO takes o env c (Nat.lor c.D b) with
   | none=>none
   | some (u,c2)=>match V.same u v with
    | false=>none
    | true=>match cx.g_ takes o env v m b cs with
     | none=>none
     | some l=>some (c2::l)
def Cx.nK(cx:Cx)(takes:bP)(rs:List Rec)(Kn:Nat)(r:Rec)(all:List eT)(c:eT):Bool :=
 kH (λq=>match kW (Nat.land q.m Kn) c.D with
  | false=>true
  | true=>match q.hp with
   | true=>match bit c.D q.idx with
    | true=>true
    | false=>match cx.dO takes q.o q.env c 0,yV (Nat.lor c.D (Nat.pow 2 q.idx)) all with
     | some (u,c2),some c3=>V.same u q.v && yU c2 c3
     | _,_=>false
   | false=>q.free || bit r.m q.idx || ku c.D q rs || cx.gj takes q.o q.env q.v c) rs
def zgv(all:Array Oper)(o:Oper):Nat :=
 match o.guard with
 | none=>0
 | some (j,_)=>match (all[j]?).bind (·.dst) with
  | none=>0
  | some d=>Nat.pow 2 d
def lC(takes:bP)(o:Oper):Nat :=
 match o.dst with
 | some d=>Nat.lor (Nat.pow 2 d) (gZ (match kV takes o with|some x=>[x]|none=>[]))
 | none=>gZ (match kV takes o with|some x=>[x]|none=>[])
def r9(all:Array Oper)(o:Oper):Nat:=Nat.lor (gZ o.op.operands.toList) (zgv all o)
def Cx.fS(cx:Cx)(takes:bP)(rs:List Rec)(r:Rec)(c0 c1:eT)(cs:List eT)(k:List eT->Option (Ex×St)):Option (Ex×St) :=
 let Kn:=cE rs
 match r.hp with
 | false=>match r.free || kH (λc=>match kW (Nat.land r.m Kn) c.D with
   | true=>cx.gj takes r.o r.env r.v c
   | false=>true) cs with
  | true=>k (c0::cs)
  | false=>none
 | true=>match cx.g_ takes r.o r.env r.v (Nat.land r.m Kn) (Nat.pow 2 r.idx) cs with
  | none=>none
  | some l =>
   let all:=c1::l++c0::cs
   match kH (λc=>cx.nK takes rs Kn r all c) (c1::l) with
   | true=>k all
   | false=>none
def Cx.gk(cx:Cx)(all:Array Oper)(takes:bP):Nat->List Rec->List eT->List Oper->St->Option (Ex×St)
 | _,_,_,[],s=>some (.normal,s)
 | i,rs,cs,o::os,⟨env,H,lk,df⟩ =>
  match wd rs o.after.toList with
  | none=>none
  | some m=>vg m λm=>vg (lC takes o) λtm=>vg (Nat.lor tm (r9 all o)) λlm =>
   let next (hp free:Bool) (v:V) (s1:St):Option (Ex×St) :=
    match s1 with
    | ⟨de,H1,eA,eZ⟩=>fV v λv=>FX de o.dst v λde =>
     match kH (kx ⟨i,o,m,tm,lm,hp,free,env,v⟩) rs,cs with
     | true,c0::cs=>cx.fS takes rs ⟨i,o,m,tm,lm,hp,free,env,v⟩ c0 ⟨Nat.lor c0.D (Nat.pow 2 i),H1,eA,eZ⟩ cs λcs =>
      cx.gk all takes (i+1) (⟨i,o,m,tm,lm,hp,free,env,v⟩::rs) cs os ⟨de,H1,eA,eZ⟩
     | _,_=>none
   match q8 all o env with
   | none=>none
   | some false=>next false true (.bz []) ⟨env,H,lk,df⟩
   | some true=>match cx.op takes o env H lk df with
    | none=>none
    | some (.val v,s1)=>next (jT cx.P cx.uq takes o) (!wM cx.P cx.uq o) v s1
    | some (.skip,s1)=>next (jT cx.P cx.uq takes o) false (.bz []) s1
    | some (.p7 _,_)=>none
def Cx.draw(cx:Cx)(ops:Array Oper):St->Option (Ex×St)
 | ⟨env,H,_,df⟩=>cx.gk ops (kX ops) 0 [] [⟨0,H,[],df⟩] ops.toList ⟨env,H,[],df⟩
def xK(step:St->Option (Ex×St)):Nat->St->Option (Ex×St)
 | 0,_=>none
 | n+1,s=>match step s with
  | none=>none
  | some (.normal,s)=>xK step n s
  | some (e,s)=>some (e,s)
def Ko(o:Oper):Bool:=match o.op with|.defer _=>false|_=>true
def calm:Code->Bool
 | .region _ ops _=>ops.toList.all Ko
 | .seq x y|.cond _ x y=>calm x && calm y
 | .block _ c|.loop c=>calm c
 | .scope _=>false
 | .rangeFunc _ _ _ _=>false
 | _=>true
def br.LO:br->Bool
 | .cells _ _|.ul _ _ _ _=>true
 | _=>false
def Ff(f:FuncId)(back:Bool)(t:aq):aq:=1099511627776+2 * (f * 1048576+t)+(if back then 1 else 0)
def oL:V->Bool
 | .agg _=>true
 | _=>false
def vK(back:Bool)(xs:aA):List aA:=if back then (List.range xs.length).map λk=>[V.int .i64 ((xs.length - 1 - k:Nat):Int),(nth xs (xs.length - 1 - k)).getD .ef] else xs.map λx=>[x]
def Cx.LP(cx:Cx)(f:V)(H:Hp):Option (Nat×aq×Option (Nat×aA)×Bool):=match f with
 | .fn (.func gf) [] [.ptr b 0]=>match H.get b with
  | some (.cells [lv] ty)=>match cx.P.underlying ty with
   | some (.slice e)=>match jh cx.P e,ka cx.P e with
    | some sz,some ag =>
     let back:=cx.uq (Ff gf true ty)
     if !(back || cx.uq (Ff gf false ty)) || Nat.beq sz 0 || !Nat.blt ty 1048576 then none else
     match lv with
     | .aJ=>some (b,ty,none,back)
     | .sl mc xs .no=>if Nat.beq sz mc && xs.all (λx=>oL x == ag) && Nat.ble xs.length 140737488355328 then some (b,ty,some (mc,xs),back) else none
     | _=>none
    | _,_=>none
   | _=>none
  | _=>none
 | _=>none
def dV(b:Nat)(ty:aq)(sz:Nat)(xs:aA)(bs:List br):List br:=bs.set b (.cells [.sl sz xs .lock] ty)
def sU(b:Nat)(H:Hp):Option Hp:=match nth H.aj b with
 | some (.cells [.sl sz xs .lock] ty)=>some ⟨H.aj.set b (.cells [.sl sz xs .no] ty),H.aW⟩
 | _=>none
def br.isCells:br->Bool
 | .cells _ _=>true
 | _=>false
def vi(n0:Nat)(bs:List br):Bool:=(bs.drop n0).all br.isCells
def LQ(P7:aA->List br->Option (Ex×St))(bd:aA->List br->Option (Ex×St))(ok:List br->Bool):List aA->Hp->Option (Ex×Hp)
 | [],H=>some (.normal,H)
 | x::xs,⟨bs,es⟩=>match P7 x bs with
  | some (.normal,⟨e,⟨Fg,Bu⟩,_,[]⟩)=>if !ok Fg then none else fL (e.map aT) λe=>match bd e Fg with
   | some (.normal,⟨_,⟨uU,p8⟩,_,[]⟩)=>if !ok uU then none else LQ P7 bd ok xs ⟨uU,p8++(Bu++es)⟩
   | some (.ret,⟨_,⟨uU,p8⟩,_,[]⟩)=>if !ok uU then none else some (.ret,⟨uU,p8++(Bu++es)⟩)
   | some (.exit i,⟨_,⟨uU,p8⟩,_,[]⟩)=>if !ok uU then none else some (.exit i,⟨uU,p8++(Bu++es)⟩)
   | _=>none
  | _=>none
def Oa(env:aA)(ps:bP)(xs:aA):aA:=(ps.zip xs).foldl (λe p=>e.set p.1 (aT p.2)) env
def Cx.code(cx:Cx)(n:Nat):Code->St->Option (Ex×St)
 | .skip,s=>some (.normal,s)
 | .label _,s=>some (.normal,s)
 | .region _ ops false,⟨env,H,_,df⟩=>cx.ops ops (kX ops) ops.toList ⟨env,H,[],df⟩
 | .region _ ops true,s=>cx.draw ops s
 | .seq a b,s=>match cx.code n a s with
  | none=>none
  | some (.normal,s)=>cx.code n b s
  | some (e,s)=>some (e,s)
 | .cond c a b,s=>match aB s.env c with
  | some (.bool true)=>cx.code n a s
  | some (.bool false)=>cx.code n b s
  | _=>none
 | .block id c,s=>match cx.code n c s with
  | none=>none
  | some (.exit i,s)=>some (if Nat.beq i id then .normal else .exit i,s)
  | some (e,s)=>some (e,s)
 | .loop c,s=>xK (cx.code n c) n s
 | .exit id,s=>some (.exit id,s)
 | .ret,s=>some (.ret,s)
 | .scope c,s=>match cx.code n c s with
  | none=>none
  | some (.goto _,_)=>none
  | some (e,s)=>some (e,s)
 | .rangeFunc f ps as bd,⟨env,H,_,df⟩=>match aB env f with
  | none=>none
  | some fv=>match cx.LP fv H with
   | none=>none
   | some (b,ty,lv,back) =>
    if !(calm as && calm bd && Nat.beq ps.size (if back then 2 else 1)) then none else
    fL (env.map aT) λe_=>match lv with
    | none=>some (.normal,⟨e_,H,[],(.ef,[])::df⟩)
    | some (sz,ys)=>match H with
     | ⟨bs,es⟩=>match LQ (λx bs=>cx.code n as ⟨Oa e_ ps.toList x,⟨bs,[]⟩,[],[]⟩) (λe bs=>cx.code n bd ⟨e,⟨bs,[]⟩,[],[]⟩) (vi bs.length) (vK back ys) ⟨dV b ty sz ys bs,es⟩ with
      | none=>none
      | some (ex,H)=>match sU b H with
       | none=>none
       | some H=>some (ex,⟨e_,H,[],(.ef,[])::df⟩)
 | _,_=>none
def ja(P:aM)(H:Hp)(env:aA):List ResultVar->Option aA
 | []=>some []
 | .tmp t::r=>match nth env t,ja P H env r with
  | some v,some vs=>some (v::vs)
  | _,_=>none
 | .cell a t::r=>match nth env a with
  | some p=>match qJ P H (λ_ _=>none) t p,ja P H env r with
   | some v,some vs=>some (aT v::vs)
   | _,_=>none
  | none=>none
def iI:aA->V
 | [v]=>v
 | vs=>.bz (vs.map aT)
def P8{β:Type}(n0:Nat)(es:bk)(top:Nat)(H:Hp)(k:Hp->β):β :=
 match H with
 | ⟨bs,new⟩ =>
  if Nat.ble top n0 && new.all (λe=>Nat.ble n0 e.1 || Nat.ble e.2 n0) then
   fL (bs.take n0) λbs=>fL (new.filter (λe=>Nat.blt e.1 n0)) λnew=>k ⟨bs,new++es⟩
  else k ⟨bs,new++es⟩
def zri(o:Oper):Bool :=
 match o.op with
 | .call c=>match c.callee with
  | .builtin .recover=>true
  | _=>false
 | _=>false
def Cx.uw(cx:Cx)(i_:cP)(all:Array Oper)(takes:bP):List Oper->Bool->St->Option (Ex×Bool×St)
 | [],r,s=>some (.normal,r,s)
 | o::os,r,⟨env,H,lk,df⟩ =>
  match q8 all o env with
  | none=>none
  | some false=>FX env o.dst (.bz []) λenv=>cx.uw i_ all takes os r ⟨env,H,lk,df⟩
  | some true=>match zri o with
   | true=>match i_,r with
    | some v,false=>FX env o.dst (aT v) λenv=>cx.uw i_ all takes os true ⟨env,H,lk,df⟩
    | _,_=>FX env o.dst .cV λenv=>cx.uw i_ all takes os r ⟨env,H,lk,df⟩
   | false=>match cx.op takes o env H lk df with
    | none=>none
    | some (.val v,⟨env,H,lk,df⟩)=>FX env o.dst v λenv=>cx.uw i_ all takes os r ⟨env,H,lk,df⟩
    | some (.skip,⟨env,H,lk,df⟩)=>FX env o.dst (.bz []) λenv=>cx.uw i_ all takes os r ⟨env,H,lk,df⟩
    | some (.p7 v,s)=>some (.p7 v,r,s)
def Cx.nj(cx:Cx)(n:Nat)(i_:cP):Code->Bool->St->Option (Ex×Bool×St)
 | .seq a b,r,s=>match cx.nj n i_ a r s with
  | none=>none
  | some (.normal,r,s)=>cx.nj n i_ b r s
  | some x=>some x
 | .cond c a b,r,s=>match aB s.env c with
  | some (.bool true)=>cx.nj n i_ a r s
  | some (.bool false)=>cx.nj n i_ b r s
  | _=>none
 | .region _ ops false,r,⟨env,H,_,df⟩=>cx.uw i_ ops (kX ops) ops.toList r ⟨env,H,[],df⟩
 | c,r,s=>match cx.code n c s with
  | none=>none
  | some (e,s)=>some (e,r,s)
def LR(P:aM)(gl:Nat->Nat->cP)(uq:aq->Bool)(call:FuncId->aA->Hp->Option (Out×Hp))(n:Nat)(i_:cP)(f:FuncId)(args:aA)(H:Hp):Option (Bool×Hp) :=
 match H with
 | ⟨bs,es⟩ =>
  match P.funcs[f]? with
  | none=>none
  | some fn=>match fn.body with
   | none=>none
   | some body =>
    vg bs.length λn0 =>
    fL (args++List.replicate (fn.ntmps - args.length) (.bz [])) λenv =>
    match Cx.nj { P,gl,call,uq } n i_ body false ⟨env,⟨bs,[]⟩,[],[]⟩ with
    | some (.normal,r,⟨env,H,_,[]⟩)|some (.ret,r,⟨env,H,_,[]⟩)=>match ja P H env fn.results.toList with
     | none=>none
     | some _=>P8 n0 es 0 H λH=>some (r,H)
    | _=>none
def fZ:bH->bH
 | (.ef,[])::ds=>fZ ds
 | ds=>ds
def vM(call:cP->FuncId->aA->Hp->Option (Bool×Hp)):cP->bH->Hp->Option (cP×Hp)
 | i_,[],H=>some (i_,H)
 | i_,(.fn (.func f) first cap,args)::ds,H=>fL ((first++args++cap).map aT) λargs=>match call i_ f args H with
  | none=>none
  | some (true,H)=>vM call none ds H
  | some (false,H)=>vM call i_ ds H
 | _,_,_=>none
def T7(call:cP->FuncId->aA->Hp->Option (Bool×Hp))(i_:cP)(ds:bH)(H:Hp):Option (cP×Hp):=vM call i_ (fZ ds) H
def Bv:Ex->Option cP
 | .normal|.ret=>some none
 | .p7 v=>some (some v)
 | _=>none
structure Gl where
 g:Nat->Nat->cP
 hk:FuncId->aA->cP:=λ_ _=>none
 uq:aq->Bool:=λ_=>false
 iA:Nat->FuncId->aA->Hp->Option (Out×Hp):=λ_ _ _ _=>none
instance : CoeFun Gl (λ_=>Nat->Nat->cP):=⟨Gl.g⟩
instance : Coe Gl (Nat->Nat->cP):=⟨Gl.g⟩
def qt(P:aM)(gl:Gl):Nat->FuncId->aA->Hp->Option (Out×Hp)
 | 0,_,_,_=>none
 | n+1,f,args,⟨bs,es⟩ =>
  match gl.hk f args with
  | some v=>some (.ret v,⟨bs,es⟩)
  | none =>
  match gl.iA n f args ⟨bs,es⟩ with
  | some r=>some r
  | none =>
  match P.funcs[f]? with
  | none=>none
  | some fn=>match fn.body with
   | none=>none
   | some body =>
    vg bs.length λn0 =>
    fL (args++List.replicate (fn.ntmps - args.length) (.bz [])) λenv =>
    match Cx.code { P,gl:=gl.g,call:=qt P gl n,uq:=gl.uq } n body ⟨env,⟨bs,[]⟩,[],[]⟩ with
    | none=>none
    | some (ex,⟨env,H,_,df⟩)=>match Bv ex with
     | none=>none
     | some i_=>match T7 (LR P gl.g gl.uq (qt P gl n) n) i_ df H with
      | none=>none
      | some (some v,H)=>P8 n0 es v.top H λH=>some (.p7 v,H)
      | some (none,H)=>match ja P H env fn.results.toList with
       | none=>none
       | some vs=>fV (iI vs) λv=>P8 n0 es v.top H λH=>some (.ret v,H)
end
section
inductive Loc where
 |slot (d t:Nat)
 |cell (b off:Nat)
 |ret
 deriving DecidableEq
structure Ob where
 adr:Nat->Addr
 lo:Nat->Prop
instance : CoeFun Ob (λ_=>Nat->Addr):=⟨Ob.adr⟩
structure Gh where
 M:Nat->Nat->Option aS
 bM:Nat->Nat
 obj:Ob
 own:Nat->Option Loc
 lk:Nat->Nat->aS
 gC:Nat->Nat->Option aS
abbrev V.one(v:V):Bool:=oJ v
def zV{α:Type}:∀(l:List α)(n:Nat),nth l n=l[n]?
 | [],_=>by simp[nth]
 | _::_,0=>by simp[nth]
 | _::xs,n+1=>by simp[nth,zV xs n]
section force
variable{α β:Type}
def jr(n:Nat)(k:Nat->β):vg n k=k n:=by cases n<;>rfl
def zpV(n:Int)(k:Int->β):Xp n k=k n:=by cases n<;>simp[Xp,jr]
def Bw:∀(l:bR)(k:bR->β),T4 l k=k l
 | [],_=>rfl
 | x::xs,k=>by simp[T4,jr,Bw xs]
def fj:∀(l:List α)(k:List α->β),fL l k=k l
 | [],_=>rfl
 | x::xs,k=>by simp[fL,fj xs]
def zrj(v:V)(k:V->β):fC v k=k v:=by
 unfold fC;split<;>simp[zpV,Bw,jr,fj]
def ep:∀(l:aA)(k:aA->β),CD l k=k l
 | [],_=>rfl
 | x::xs,k=>by simp[CD,zrj,ep xs]
def qd(v:V)(k:V->β):fV v k=k v:=by
 unfold fV;split<;>simp[ep,zrj]
def fB:∀(l:List α)(n:Nat)(v:α)(k:List α->β),Kl l n v k=k (l.set n v)
 | [],_,_,_=>rfl
 | _::_,0,_,_=>rfl
 | x::xs,n+1,v,k=>by simp[Kl,fB xs]
def jv(H:Hp)(b:br)(k:Nat->Hp->β):IM H b k=k H.aj.length (H.push b):=by
 cases H;simp[IM,jr,fj,Hp.push]
def jU(H:Hp)(b:Nat)(x:br)(v:V)(k:Hp->β):FV H b x v k=k ((H.set b x).bI b v):=by
 cases H;simp only[FV,fB,jr,Hp.set,Hp.bI];split<;>rfl
def jX(env:aA)(dst:fQ)(v:V)(k:aA->β):FX env dst v k=k (qb env dst v):=by
 cases dst<;>simp[FX,qb,qd,fB]
end force
def Xv{P:aM}{H:Hp}{a:aq}{v:V}(hv:∀b o l c,v≠.sr b o l c):N9 P H a v=some v:=by
 unfold N9;split
 ·exact absurd rfl (hv _ _ _ _)
 ·rfl
def zpW{P:aM}{H:Hp}{a:aq}{sz:Nat}{xs:aA}{o:Own}:N9 P H a (.sl sz xs o)=some (.sl sz xs o):=Xv (by simp)
def q9(xs:aA):aA:=xs.flatMap V.cells
def bytes(s:bR):ByteArray:=⟨(s.map UInt8.ofNat).toArray⟩
inductive aQ(g:Gh):V->aS->Prop where
 |bool (b:Bool):aQ g (.bool b) (.bool b)
 |int (k:IntKind) (n:Int):aQ g (.int k n) (.int k n)
 |str {s:bR}:(∀b:Nat,b∈s->b<256)->aQ g (.str s) (.string (bytes s))
 |ef:aQ g .ef (.pointer none)
 |ptr (b off:Nat):aQ g (.ptr b off) (.pointer (some ⟨g.bM b,off,none⟩))
 |gI (k off:Nat):aQ g (.gI k off) (.pointer (some ⟨k,off,none⟩))
 |obj (k:Nat):aQ g (.obj k) (.pointer (some (g.obj k)))
 |vp {cs:aA} {c o:Nat} (f:Nat->aS):(∀(j:Nat)(x:V),cs[j]?=some x->x.one=true)->(∀(j:Nat)(x:V),cs[j]?=some x->g.M c (o+j)=some (f j))->(∀(j:Nat)(x:V),cs[j]?=some x->aQ g x (f j)) ->
   aQ g (.vp cs) (.pointer (some ⟨c,o,none⟩))
 |aJ:aQ g .aJ (.slice none 0 0)
 |sl {sz:Nat} {xs:aA} {ow:Own} {a:Option Addr} {cap c o:Nat} (f:Nat->aS):(∀x:V,x∈xs->x.cells.length=sz)->xs.length<=cap->(xs≠[]->a=some ⟨c,o,none⟩) ->
   (∀(j:Nat)(x:V),(q9 xs)[j]?=some x->x.one=true)->(∀(j:Nat)(x:V),(q9 xs)[j]?=some x->g.M c (o+j)=some (f j))->(∀(j:Nat)(x:V),(q9 xs)[j]?=some x->aQ g x (f j)) ->
   aQ g (.sl sz xs ow) (.slice a xs.length cap)
 |sr {b off len cap:Nat}:len<=cap->aQ g (.sr b off len cap) (.slice (some ⟨g.bM b,off,none⟩) len cap)
 |oo:aQ g .oo (.map none)
 |map (b:Nat):aQ g (.map b) (.map (some (g.bM b)))
 |o9:aQ g .o9 .nilFunc
 |fn {f:Fn} {as cs:aA} {fa fc:dI}:as.length=fa.size->cs.length=fc.size->(∀(j:Nat)(x:V)(v:aS),as[j]?=some x->fa[j]?=some v->aQ g x v) ->
   (∀(j:Nat)(x:V)(v:aS),cs[j]?=some x->fc[j]?=some v->aQ g x v)->aQ g (.fn f as cs) (.func f fa fc)
 |cV:aQ g .cV .nilIface
 |fq {t:aq} {v:V} {cv:aS}:aQ g v cv->aQ g (.fq t v) (.iface t cv)
 |agg {cs:aA} {arr:dI}:cs.length=arr.size->(∀(j:Nat)(x:V),cs[j]?=some x->x.one=true)->(∀(j:Nat)(x:V)(v:aS),cs[j]?=some x->arr[j]?=some v->aQ g x v)->aQ g (.agg cs) (.agg arr)
 |bz {cs:aA} {arr:dI}:cs.length=arr.size->(∀(j:Nat)(x:V)(v:aS),cs[j]?=some x->arr[j]?=some v->aQ g x v)->aQ g (.bz cs) (.tuple arr)
 |eo {b u len cap c o:Nat}:g.gC b u=some (.slice (some ⟨c,o,none⟩) len cap)->aQ g (.eo b u len) (.slice (some ⟨c,o,none⟩) len cap)
 |gY {b u len cap c o:Nat} (k:Nat):g.gC b u=some (.slice (some ⟨c,o,none⟩) len cap)->aQ g (.gY b u k) (.pointer (some ⟨c,o+k,none⟩))
 |mU (v:aS):aQ g .mU v
def qg{x:V}:∀{cs:aA},x∈cs->x.top<=aI cs
 | c::cs,h=>by
  simp only[aI];rcases dh.1 h with rfl|h
  ·exact Eo _ _
  ·exact cZ (qg h) (II _ _)
def j7{n:Nat}:∀{cs:aA},(∀x∈cs,x.top<=n)->aI cs<=n
 | [],_=>ga _
 | c::cs,h=>by
  simp only[aI];exact uu.2 ⟨h c (eS ..),j7 λx hx=>h x (dB _ hx)⟩
def T8{x y:V}(h:y∈x.cells):y.top<=x.top:=by
 cases x<;>simp only[V.cells,uk] at h<;>try (subst h;exact ek _)
 simp only[V.top];exact qg h
def Xw{xs:aA}{y:V}(h:y∈q9 xs):y.top<=aI xs:=by
 obtain⟨x,hx,hy⟩:=List.mem_flatMap.1 h;exact cZ (T8 hy) (qg hx)
def dx(v:V):(aT v).top=v.top:=by
 cases v<;>rfl
def kL:∀(cs:aA),aI (cs.map aT)=aI cs
 | []=>rfl
 | c::cs=>by simp[aI,dx,kL cs]
def Xx(v:V):(aT v).one=v.one:=by cases v<;>rfl
def aQ.aT{g:Gh}{v:V}{cv:aS}(h:aQ g v cv):aQ g (aT v) cv:=by
 cases h<;>first
  |constructor<;>assumption
  |(rename_i f h1 h2 h3 h4 h5 h6;exact .sl f h1 h2 h3 h4 h5 h6)
  |(rename_i f h1 h2 h3;exact .vp f h1 h2 h3)
structure Gh.Le(n:Nat)(g g':Gh):Prop where
 M:∀c o v,g.M c o=some v->g'.M c o=some v
 bM:∀b,b<n->g'.bM b=g.bM b
 obj:g'.obj=g.obj
 gC:∀b u v,b<n->g.gC b u=some v->g'.gC b u=some v
def Gh.Le.refl(n:Nat)(g:Gh):Gh.Le n g g:=⟨λ_ _ _ h=>h,λ_ _=>rfl,rfl,λ_ _ _ _ h=>h⟩
def Gh.Le.trans{n:Nat}{a b c:Gh}(h:Gh.Le n a b)(k:Gh.Le n b c):Gh.Le n a c :=
 ⟨λ_ _ _ e=>k.M _ _ _ (h.M _ _ _ e),λi hi=>(k.bM i hi).trans (h.bM i hi),k.obj.trans h.obj,λb u v hb e=>k.gC b u v hb (h.gC b u v hb e)⟩
def Gh.Le.mono{n m:Nat}{a b:Gh}(h:Gh.Le n a b)(hm:m<=n):Gh.Le m a b:=⟨h.M,λi hi=>h.bM i (oY hi hm),h.obj,λb u v hb e=>h.gC b u v (oY hb hm) e⟩
def qI{α:Type}{l:List α}{j:Nat}{x:α}(h:l[j]?=some x):x∈l:=nF h
def aQ.le{n:Nat}{g g':Gh}(hg:Gh.Le n g g'){v:V}{cv:aS}(h:aQ g v cv):v.top<=n->aQ g' v cv:=by
 induction h with
 | bool b=>intro _;exact .bool b
 | int k m=>intro _;exact .int k m
 | str h=>intro _;exact .str h
 | ef=>intro _;exact .ef
 | ptr b off=>intro ht;simp only[V.top] at ht;rw[<- hg.bM b (by omega)];exact .ptr b off
 | gI k off=>intro _;exact .gI k off
 | obj k=>intro _;rw[<- hg.obj];exact .obj k
 | vp f h1 h2 _ ih=>intro ht;exact .vp f h1 (λj x hx=>hg.M _ _ _ (h2 j x hx)) λj x hx=>ih j x hx (cZ (qg (qI hx)) ht)
 | aJ=>intro _;exact .aJ
 | sl f h1 h2 h3 h4 h5 _ ih=>intro ht;exact .sl f h1 h2 h3 h4 (λj x hx=>hg.M _ _ _ (h5 j x hx)) λj x hx=>ih j x hx (cZ (Xw (qI hx)) ht)
 | sr hl=>intro ht;simp only[V.top] at ht;rw[<- hg.bM _ (by omega)];exact .sr hl
 | oo=>intro _;exact .oo
 | map b=>intro ht;simp only[V.top] at ht;rw[<- hg.bM b (by omega)];exact .map b
 | o9=>intro _;exact .o9
 | fn h1 h2 _ _ iha ihc =>
  intro ht;simp only[V.top] at ht;have:=uu.1 ht;exact .fn h1 h2 (λj x v hx hv=>iha j x v hx hv (cZ (qg (qI hx)) this.1)) (λj x v hx hv=>ihc j x v hx hv (cZ (qg (qI hx)) this.2))
 | cV=>intro _;exact .cV
 | fq _ ih=>intro ht;exact .fq (ih ht)
 | agg h1 h2 _ ih=>intro ht;exact .agg h1 h2 λj x v hx hv=>ih j x v hx hv (cZ (qg (qI hx)) ht)
 | bz h1 _ ih=>intro ht;exact .bz h1 λj x v hx hv=>ih j x v hx hv (cZ (qg (qI hx)) ht)
 | eo h=>intro ht;simp only[V.top] at ht;exact .eo (hg.gC _ _ _ (by omega) h)
 | gY k h=>intro ht;simp only[V.top] at ht;exact .gY k (hg.gC _ _ _ (by omega) h)
 | mU v=>intro _;exact .mU v
def aQ.pg{g:Gh}{v:V}{cv:aS}(h:aQ g v cv)(h1:v.one=true):cv.oneCell'=true:=by
 cases h<;>first|rfl|(simp[V.one,oJ] at h1)
def rowAt(w:aK)(e sz:Nat)(cv:aS)(n:Nat)(xs:dY):Prop :=
 xs.length=n * sz/\((cv=.slice none 0 0/\n=0)\/∃c o cap cur,cv=.slice (some ⟨c,o,none⟩) n cap/\w.heap[c]?=some (.cells cur e (0,0))/\n<=cap/\cap<=maxLen/\(cap=0\/cur.size=o+cap * sz)/\(cur.toList.drop o).take (n * sz)=xs)
def pq(sz len:Nat)(M:Nat->Option aS):aS->Prop
 | .slice (some a) _ cap=>∀j,a.off+len * sz<=j->j<a.off+cap * sz->M j=none
 | _=>True
def iy(g:Gh)(n:Nat)(w:aK)(l:Loc)(e sz len:Nat)(cv:aS):Prop :=
 ∃xs,rowAt w e sz cv len xs/\∀c,cv.ownBlock=some c->g.own c=some l/\pq sz len (g.M c) cv/\(∀b,b<n->g.bM b≠c)
def pq.eq{sz len:Nat}{M M':Nat->Option aS}{cv:aS}(h:pq sz len M cv)(hm:∀j,M' j=M j):pq sz len M' cv:=by
 unfold pq at *;split
 next a _ cap=>intro j h1 h2;rw[hm];exact h j h1 h2
 ·trivial
def ziz{w:aK}{e sz n:Nat}{cv:aS}{xs:dY}(h:w.ownsRow 0 e sz cv n xs):rowAt w e sz cv n xs:=by
 obtain⟨h1,h|⟨c,cap,cur,h2,_,h3,h4,h5,h6,h7⟩⟩:=h
 ·exact⟨h1,.inl h⟩
 ·exact⟨h1,.inr ⟨c,0,cap,cur,h2,h3,h4,h5,.inr (by omega),by rw[IJ];exact h7⟩⟩
def rowAt.lt{w:aK}{e sz n:Nat}{cv:aS}{xs:dY}(h:rowAt w e sz cv n xs):∀c,cv.ownBlock=some c->c<w.heap.size:=by
 obtain⟨_,⟨rfl,_⟩|⟨c,o,cap,cur,rfl,h3,_⟩⟩:=h
 ·intro c hc;cases hc
 ·intro c' hc;cases hc;exact(sQ.1 h3).1
def rowAt.cells{w:aK}{e sz n:Nat}{c o cap:Nat}{xs:dY}(h:rowAt w e sz (.slice (some ⟨c,o,none⟩) n cap) n xs):∀j u,xs[j]?=some u->w.cell? ⟨c,o+j,none⟩=some u:=by
 obtain⟨_,⟨h,_⟩|⟨c,o,cap,cur,h,h3,_,_,_,rfl⟩⟩:=h
 ·cases h
 ·cases h;intro j u hu;rw[cell_of_row w _ _ cur _ _ h3];rw[um] at hu;split at hu
  ·rw[FP] at hu;simpa using hu
  ·cases hu
def c_(g:Gh)(n:Nat)(w:aK)(l:Loc):V->aS->Prop
 | .sl sz xs (.yes e),cv=>iy g n w l e sz xs.length cv
 | _,_=>True
def LS(g:Gh)(b off:Nat):V->aS->Prop
 | .sl _ _ .lock,cv=>cv=g.lk b off
 | _,_=>True
def br.top:br->Nat
 | .cells cs _=>aI cs
 | .map es=>max (aI (es.map (·.1))) (aI (es.map (·.2)))
 | .iter _ _=>0
 | .ul _ _ cs _=>aI cs
structure IP(g:Gh)(n:Nat)(w:aK)(b fE sz:Nat)(cs:aA)(e:aq)(c len cap:Nat)(vs:dY):Prop where
 gC:g.gC b fE=some (.slice (some ⟨c,0,none⟩) len cap)
 pos:0<sz
 row:w.ownsRow 0 e sz (.slice (some ⟨c,0,none⟩) len cap) len vs
 An:c=g.bM b\/g.own c=some (.cell b 0)
 M:∀o,g.M c o=none
 others:∀b',b'<n->b'≠b->g.bM b'≠c
 len:cs.length=vs.length
 cells:∀(j:Nat)(x:V)(v:aS),cs[j]?=some x->vs[j]?=some v->x.one=true/\aQ g x v
 fresh:∀u,fE<u->g.gC b u=none
def gG(g:Gh)(n:Nat)(w:aK)(b:Nat):br->Prop
 | .cells cs t=>∃arr,w.heap[g.bM b]?=some (.cells arr t (0,0))/\cs.length=arr.size /\
   ∀(j:Nat)(x:V)(v:aS),cs[j]?=some x->arr[j]?=some v->x.one=true/\aQ g x v/\c_ g n w (.cell b j) x v/\LS g b j x v
 | .map es=>∃en ck,w.heap[g.bM b]?=some (.map en ck)/\es.length=en.size/\∀(j:Nat)(x:V×V)(me:MapEntry),es[j]?=some x->en[j]?=some me->aQ g x.1 me.key/\aQ g x.2 me.val
 | .iter s pos=>w.heap[g.bM b]?=some (.stringIter (bytes s) pos)/\∀b:Nat,b∈s->b<256
 | .ul fE sz cs e=>∃c len cap vs,IP g n w b fE sz cs e c len cap vs
structure rj(g:Gh)(bs:List br)(w:aK):Prop where
 mem:∀c o v,g.M c o=some v->w.cell? ⟨c,o,none⟩=some v
 lt:∀b,b<bs.length->g.bM b<w.heap.size
 inj:∀b b',b<bs.length->b'<bs.length->g.bM b=g.bM b'->b=b'
 apart:∀b,b<bs.length->∀o,g.M (g.bM b) o=none
 eK:∀c l,g.own c=some l->c<w.heap.size
 dN:∀b,b<bs.length->g.own (g.bM b)=none
 ok:∀(b:Nat)(x:br),bs[b]?=some x->gG g bs.length w b x
 aI:∀(b:Nat)(x:br),bs[b]?=some x->x.top<=bs.length
 laid:∀c,g.obj.lo c->(∃cs t,w.heap[c]?=some (.cells cs t (0,0)))/\g.own c=none/\∀b,b<bs.length->g.bM b≠c
def rm(d n:Nat)(g:Gh)(w:aK)(c:Nat):Prop :=
 c<w.heap.size/\(∀b,b<n->g.bM b≠c)/\(g.own c=none\/∃d' t,g.own c=some (.slot d' t)/\d<d')
def j8(bs:List br)(b off:Nat):Prop:=∃cs t sz xs,bs[b]?=some (.cells cs t)/\cs[off]?=some (.sl sz xs .lock)
structure Fr(d:Nat)(bs:List br)(g:Gh)(w:aK)(g':Gh)(w':aK):Prop where
 le:Gh.Le bs.length g g'
 heap:∀c,rm d bs.length g w c->w'.heap[c]?=w.heap[c]?
 own:∀c,rm d bs.length g w c->g'.own c=g.own c
 M:∀c,rm d bs.length g w c->∀o,g'.M c o=g.M c o
 size:w.heap.size<=w'.heap.size
 lk:∀b off,j8 bs b off->g'.lk b off=g.lk b off
 os:w'.os=w.os
 tape:w'.tape=w.tape
 output:w'.output=w.output
def Fr.refl(d:Nat)(bs:List br)(g:Gh)(w:aK):Fr d bs g w g w :=
 ⟨.refl _ _,λ_ _=>rfl,λ_ _=>rfl,λ_ _ _=>rfl,ek _,λ_ _ _=>rfl,rfl,rfl,rfl⟩
def Fr.trans{d:Nat}{Fh bs:List br}{g0 g g':Gh}{w0 w w':aK}(h1:Fr d Fh g0 w0 g w)(hlen:Fh.length<=bs.length)
  (gm:∀b,Fh.length<=b->b<bs.length->w0.heap.size<=g.bM b) (nk:∀b off,j8 Fh b off->j8 bs b off) (h2:Fr d bs g w g' w'):Fr d Fh g0 w0 g' w':=by
 have hp:∀c,rm d Fh.length g0 w0 c->rm d bs.length g w c:=λc hc=>by
  refine⟨oY hc.1 h1.size,λb hb e=>?_,by rw[h1.own c hc];exact hc.2.2⟩
  rcases lP b Fh.length with bD|Du
  ·exact hc.2.1 b bD ((h1.le.bM b bD).symm.trans e)
  ·have:=gm b Du hb;have:=hc.1;omega
 exact⟨h1.le.trans (h2.le.mono hlen),λc hc=>(h2.heap c (hp c hc)).trans (h1.heap c hc),λc hc=>(h2.own c (hp c hc)).trans (h1.own c hc),
  λc hc o=>(h2.M c (hp c hc) o).trans (h1.M c hc o),cZ h1.size h2.size,λb off hl=>(h2.lk b off (nk b off hl)).trans (h1.lk b off hl),
  h2.os.trans h1.os,h2.tape.trans h1.tape,h2.output.trans h1.output⟩
def T9(Fh:List br)(H:Hp):Prop :=
 ∀(b:Nat)(x:br),H.aj[b]?=some x->x.top<=b+1\/(∃m,(b,m)∈H.aW/\x.top<=m)\/∃y:br,Fh[b]?=some y/\x.top<=y.top
structure Xy where
 t:Nat
 v:V
 cv:aS
 at_:Option (Nat×Nat)
structure eu where
 d:Nat
 bs:List br
 g:Gh
 w:aK
 cQ:List Xy
def FY(B:eu)(b off:Nat):Prop:=j8 B.bs b off\/∃q∈B.cQ,q.at_=some (b,off)
def Dv(g:Gh)(n:Nat)(x:V×aA)(d:Deferred):Prop :=
 ∃(f:FuncId)(as cs:aA)(fc:dI),x.1=.fn (.func f) as cs/\d.target=.fn (.func f) fc/\(as++x.2).length=d.args.size/\cs.length=fc.size/\(∀(j:Nat)(y:V)(v:aS),(as++x.2)[j]?=some y->d.args[j]?=some v->aQ g y v) /\
  (∀(j:Nat)(y:V)(v:aS),cs[j]?=some y->fc[j]?=some v->aQ g y v)/\aI (as++x.2)<=n/\aI cs<=n
def Ao(g:Gh)(n:Nat)(x:V×aA)(d:Deferred):Prop:=Dv g n x d\/(x=(.ef,[])/\∃D,d={ target:=.collected D,args:=#[] })
def ztc(g:Gh)(n:Nat)(w:aK)(D:Nat):Prop:=w.heap[D]?=some (.deferred (some []))/\(∀b,b<n->g.bM b≠D)/\g.own D=none
structure Rel(B:eu)(g:Gh)(s:St)(a:Act)(w:aK):Prop where
 cN:rj g s.H.aj w
 len:s.env.length=a.tmps.size
 env:∀(t:Nat)(x:V)(v:aS),s.env[t]?=some x->a.tmps[t]?=some v->aQ g x v/\c_ g s.H.aj.length w (.slot B.d t) x v
 cW:∀(t:Nat)(x:V),s.env[t]?=some x->x.top<=s.H.aj.length
 n0:B.bs.length<=s.H.aj.length
 aW:T9 B.bs s.H
 dA:∀b,B.bs.length<=b->b<s.H.aj.length->B.w.heap.size<=g.bM b
 fr:Fr B.d B.bs B.g B.w g w
 gR:∀b off,FY B b off->j8 s.H.aj b off
 nw:∀p∈s.lk,¬FY B p.1 p.2
 cQ:∀p∈B.cQ,s.env.length<p.t/\aQ g p.v p.cv/\c_ g s.H.aj.length w (.slot B.d p.t) p.v p.cv/\p.v.top<=s.H.aj.length/\∀b off,p.at_=some (b,off)->g.lk b off=p.cv
 dD:s.defers.length=a.defers.length
 defers:∀(j:Nat)(x:V×aA)(d:Deferred),s.defers[j]?=some x->a.defers[j]?=some d->Ao g s.H.aj.length x d
 marks:∀d∈a.defers,∀D,d.target=.collected D->B.w.heap.size<=D/\ztc g s.H.aj.length w D
 iJ:a.defers.Pairwise λd d'=>∀D,d.target=.collected D->d'.target≠.collected D
structure lS(d:Nat)(b0:Option Nat)(l0:Option Loc)(n:Nat)(g:Gh)(w:aK)(g':Gh)(w':aK):Prop where
 le:Gh.Le n g g'
 heap:∀c,c<w.heap.size->(∀b,b0=some b->g.bM b≠c)->(∀l,l0=some l->g.own c≠some l)->w'.heap[c]?=w.heap[c]?
 own:∀c,c<w.heap.size->(∀l,l0=some l->g.own c≠some l)->g'.own c=g.own c
 M:∀c,c<w.heap.size->(∀l,l0=some l->g.own c≠some l)->∀o,g'.M c o=g.M c o
 size:w.heap.size<=w'.heap.size
 lk:∀b off,(∀l,l0=some l->l≠.cell b off)->g'.lk b off=g.lk b off
 P9:∀l,l0=some l->(∃t,l=.slot d t)\/∃b j,l=.cell b j/\b0=some b
 Et:∀b,b0=some b->b<n
 gC:∀b u,b<n->b0≠some b->g'.gC b u=g.gC b u
 os:w'.os=w.os
 tape:w'.tape=w.tape
 output:w'.output=w.output
def zew{w w':aK}{base e sz:Nat}{cv:aS}{n:Nat}{xs:dY}(h:w.ownsRow base e sz cv n xs)(hh:∀c,cv.ownBlock=some c->w'.heap[c]?=w.heap[c]?) :
  w'.ownsRow base e sz cv n xs:=by
 refine⟨h.1,h.2.imp id ?_⟩;rintro⟨c,cap,cur,rfl,hb,hc,r⟩;exact⟨c,cap,cur,rfl,hb,by rw[hh c rfl];exact hc,r⟩
def zb0{w w':aK}{e sz:Nat}{cv:aS}{n:Nat}{xs:dY}(h:rowAt w e sz cv n xs)(hh:∀c,cv.ownBlock=some c->w'.heap[c]?=w.heap[c]?):rowAt w' e sz cv n xs:=by
 refine⟨h.1,h.2.imp id ?_⟩;rintro⟨c,o,cap,cur,rfl,hc,r⟩;exact⟨c,o,cap,cur,rfl,by rw[hh c rfl];exact hc,r⟩
def iy.lt{g:Gh}{n:Nat}{w:aK}{l:Loc}{e sz len:Nat}{cv:aS}(h:iy g n w l e sz len cv):∀c,cv.ownBlock=some c->c<w.heap.size:=by
 obtain⟨xs,ho,_⟩:=h;exact λc hc=>ho.lt c hc
def iy.same{d:Nat}{b0:Option Nat}{l0:Option Loc}{n n':Nat}{g g':Gh}{w w':aK}(hs:lS d b0 l0 n g w g' w'){l:Loc}(hl:l0≠some l)
  (hn:∀b,n<=b->b<n'->w.heap.size<=g'.bM b) {e sz len:Nat} {cv:aS} (h:iy g n w l e sz len cv):iy g' n' w' l e sz len cv:=by
 have bD:=h.lt;obtain⟨xs,ho,hc⟩:=h;have cG:∀c,cv.ownBlock=some c->∀l',l0=some l'->g.own c≠some l':=λc pz l' lD e=>by
  rw[(hc c pz).1] at e;cases e;exact hl lD
 refine⟨xs,zb0 ho λc pz=>hs.heap c (bD c pz) (λb hb=>(hc c pz).2.2 b (hs.Et b hb)) (cG c pz),λc pz=>⟨?_,?_,?_⟩⟩
 ·rw[hs.own c (bD c pz) (cG c pz)];exact(hc c pz).1
 ·exact(hc c pz).2.1.eq λo=>hs.M c (bD c pz) (cG c pz) o
 ·intro b hb e;rcases lP b n with h1|h1
  ·exact(hc c pz).2.2 b h1 ((hs.le.bM b h1).symm.trans e)
  ·have:=hn b h1 hb;have:=bD c pz;omega
def c_.same{d:Nat}{b0:Option Nat}{l0:Option Loc}{n n':Nat}{g g':Gh}{w w':aK}(hs:lS d b0 l0 n g w g' w'){l:Loc}(hl:l0≠some l)
  (hn:∀b,n<=b->b<n'->w.heap.size<=g'.bM b) {x:V} {cv:aS} (h:c_ g n w l x cv):c_ g' n' w' l x cv:=by
 unfold c_ at *;split
 ·exact iy.same hs hl hn h
 ·trivial
def wG(g:Gh)(n:Nat)(w:aK)(l:Loc)(x:V)(cv:aS):c_ g n w l (aT x) cv:=by
 cases x<;>simp[aT,c_]
def gG.same{d:Nat}{b0:Option Nat}{l0:Option Loc}{n n':Nat}{g g':Gh}{w w':aK}(hs:lS d b0 l0 n g w g' w'){b:Nat}(hb:b0≠some b)(Fi:b<n)
  (bD:g.bM b<w.heap.size) (lG:g.own (g.bM b)=none) (LU:∀b',b0=some b'->g.bM b'≠g.bM b)
  (hn:∀b,n<=b->b<n'->w.heap.size<=g'.bM b) {x:br} (cS:x.top<=n) (h:gG g n w b x):gG g' n' w' b x:=by
 have cG:∀l,l0=some l->g.own (g.bM b)≠some l:=by
  intro l _;rw[lG];simp
 have r_:w'.heap[g'.bM b]?=w.heap[g.bM b]?:=by
  rw[hs.le.bM b Fi];exact hs.heap _ bD LU cG
 have eC:∀j,l0≠some (.cell b j):=λj e=>by
  rcases hs.P9 _ e with⟨t,ht⟩|⟨b',j',he,dK⟩
  ·cases ht
  ·cases he;exact hb dK
 cases x with
 | cells cs t =>
  obtain⟨arr,ha,hl,hj⟩:=h;refine⟨arr,r_.trans ha,hl,λj x v hx hv=>?_⟩;obtain⟨h1,h2,h3,h4⟩:=hj j x v hx hv;have Eu:x.top<=n:=cZ (qg (qI hx)) cS;refine⟨h1,h2.le hs.le Eu,c_.same hs (eC j) hn h3,?_⟩;unfold LS at *;split
  ·rw[hs.lk b j λl hl e=>eC j (e ▸ hl)];exact h4
  ·trivial
 | map es =>
  obtain⟨en,ck,ha,hl,hj⟩:=h;have ht:=uu.1 (show max (aI (es.map (·.1))) (aI (es.map (·.2)))<=n from cS);refine⟨en,ck,r_.trans ha,hl,λj x me hx hme=>?_⟩;obtain⟨h1,h2⟩:=hj j x me hx hme;exact⟨h1.le hs.le (cZ (qg (HQ (f:=(·.1)) (qI hx))) ht.1),h2.le hs.le (cZ (qg (HQ (f:=(·.2)) (qI hx))) ht.2)⟩
 | iter s pos=>exact⟨r_.trans h.1,h.2⟩
 | ul fE sz cs e =>
  obtain⟨c,len,cap,vs,hu⟩:=h;have bD:c<w.heap.size:=(hu.row.lt c rfl).2;have mu:∀l,l0=some l->g.own c≠some l:=λl lD e'=>by
   rcases hu.An with h1|h1
   ·exact cG l lD (h1 ▸ e')
   ·rw[h1] at e';cases e';exact eC 0 lD
  have T_:∀b',b0=some b'->g.bM b'≠c:=λb' dK=>hu.others b' (hs.Et b' dK) λe'=>hb (e' ▸ dK);refine⟨c,len,cap,vs,?_,hu.pos,zew hu.row λk hk=>?_,?_,λo=>?_,λb' dK Xz e'=>?_,hu.len,λj x v hx hv=>?_,λu hlu=>?_⟩
  ·rw[hs.gC b fE Fi hb];exact hu.gC
  ·cases hk;exact hs.heap c bD T_ mu
  ·rw[hs.le.bM b Fi,hs.own c bD mu];exact hu.An
  ·rw[hs.M c bD mu];exact hu.M o
  ·rcases lP b' n with h1|h1
   ·exact hu.others b' h1 Xz ((hs.le.bM b' h1).symm.trans e')
   ·have:=hn b' h1 dK;omega
  ·obtain⟨h1,h2⟩:=hu.cells j x v hx hv;exact⟨h1,h2.le hs.le (cZ (qg (qI hx)) cS)⟩
  ·rw[hs.gC b u Fi hb];exact hu.fresh u hlu
def lS.fr{d:Nat}{b0:Option Nat}{l0:Option Loc}{bs:List br}{g g':Gh}{w w':aK}(hs:lS d b0 l0 bs.length g w g' w')(hl:∀b j,l0=some (.cell b j)->¬j8 bs b j) :
  Fr d bs g w g' w':=by
 have cG:∀c,rm d bs.length g w c->∀l,l0=some l->g.own c≠some l:=by
  intro c hc l lD e;rcases hc.2.2 with h0|⟨d',t,h1,hd⟩
  ·rw[h0] at e;cases e
  ·rw[h1] at e;cases e;rcases hs.P9 _ lD with⟨t',ht⟩|⟨b,j,hj,_⟩
   ·cases ht;omega
   ·cases hj
 exact⟨hs.le,λc hc=>hs.heap c hc.1 (λb hb=>hc.2.1 b (hs.Et b hb)) (cG c hc),λc hc=>hs.own c hc.1 (cG c hc),λc hc=>hs.M c hc.1 (cG c hc),hs.size,
  λb off nk=>hs.lk b off λl lD e=>hl b off (e ▸ lD) nk,hs.os,hs.tape,hs.output⟩
def Dv.le{n n':Nat}{g g':Gh}(hg:Gh.Le n g g')(hn:n<=n'){x:V×aA}{d:Deferred}(h:Dv g n x d):Dv g' n' x d:=by
 obtain⟨f,as,cs,fc,h1,h2,h3,h4,h5,h6,h7,h8⟩:=h
 exact⟨f,as,cs,fc,h1,h2,h3,h4,λj y v hy hv=>(h5 j y v hy hv).le hg (cZ (qg (qI hy)) h7),λj y v hy hv=>(h6 j y v hy hv).le hg (cZ (qg (qI hy)) h8),
  cZ h7 hn,cZ h8 hn⟩
def Ao.le{n n':Nat}{g g':Gh}(hg:Gh.Le n g g')(hn:n<=n'){x:V×aA}{d:Deferred}(h:Ao g n x d):Ao g' n' x d:=h.imp (λh=>h.le hg hn) id
def Rel.iB{B:eu}{g:Gh}{s:St}{a:Act}{w:aK}(h:Rel B g s a w){b0:Option Nat}{l0:Option Loc}{g':Gh}{w':aK}(hs:lS B.d b0 l0 s.H.aj.length g w g' w'){s':St}
  (hlen:s.H.aj.length<=s'.H.aj.length)
  (hold:∀b,b<s.H.aj.length->b0≠some b->s'.H.aj[b]?=s.H.aj[b]?)
  (IQ:∀(b:Nat)(x:br),(b0=some b\/s.H.aj.length<=b)->s'.H.aj[b]?=some x->gG g' s'.H.aj.length w' b x/\x.top<=s'.H.aj.length)
  (gm:∀b,s.H.aj.length<=b->b<s'.H.aj.length->w.heap.size<=g'.bM b/\g'.bM b<w'.heap.size/\g'.own (g'.bM b)=none/\∀o,g'.M (g'.bM b) o=none)
  (LU:∀b b',s.H.aj.length<=b->b<s'.H.aj.length->s.H.aj.length<=b'->b'<s'.H.aj.length->g'.bM b=g'.bM b'->b=b')
  (eL:∀c o v,g'.M c o=some v->w'.cell? ⟨c,o,none⟩=some v)
  (CF:∀c l,g'.own c=some l->c<w'.heap.size)
  (Oc:∀b j,l0=some (.cell b j)->¬j8 s.H.aj b j)
  (Kq:s'.env.length=s.env.length) (IS:s'.defers=s.defers)
  (mW:∀(t:Nat)(x:V),s'.env[t]?=some x->∃y,s.env[t]?=some y/\(x=y/\l0≠some (.slot B.d t)\/x=aT y))
  (LV:T9 B.bs s'.H) (IT:∀b off,FY B b off->j8 s'.H.aj b off) (IU:∀p∈s'.lk,¬FY B p.1 p.2) (Cm:∀t,l0=some (.slot B.d t)->t<=s.env.length):Rel B g' s' a w':=by
 have hn:∀b,s.H.aj.length<=b->b<s'.H.aj.length->w.heap.size<=g'.bM b:=λb h1 h2=>(gm b h1 h2).1;have cG:∀b,b<s.H.aj.length->∀l,l0=some l->g.own (g.bM b)≠some l:=λb hb l _=>by rw[h.cN.dN b hb];simp
 have mX:∀b,b<s.H.aj.length->g'.bM b=g.bM b:=λb hb=>hs.le.bM b hb;refine { cN:=?_,len:=Kq.trans h.len,env:=?_,cW:=?_,n0:=cZ h.n0 hlen,aW:=LV,dA:=?_,fr:=?_,gR:=IT,nw:=IU,cQ:=?_,dD:=by rw[IS];exact h.dD,defers:=?_,marks:=λd hd D hD=>?_,iJ:=h.iJ }
 ·refine { mem:=eL,lt:=?_,inj:=?_,apart:=?_,eK:=CF,dN:=?_,ok:=?_,aI:=?_,laid:=?_ }
  ·intro b hb;rcases lP b s.H.aj.length with h1|h1
   ·rw[mX b h1];exact oY (h.cN.lt b h1) hs.size
   ·exact(gm b h1 hb).2.1
  ·intro b b' hb dK e;rcases lP b s.H.aj.length with h1|h1<;>rcases lP b' s.H.aj.length with h2|h2
   ·rw[mX b h1,mX b' h2] at e;exact h.cN.inj b b' h1 h2 e
   ·have:=hn b' h2 dK;have:=h.cN.lt b h1;rw[mX b h1] at e;omega
   ·have:=hn b h1 hb;have:=h.cN.lt b' h2;rw[mX b' h2] at e;omega
   ·exact LU b b' h1 hb h2 dK e
  ·intro b hb o;rcases lP b s.H.aj.length with h1|h1
   ·rw[mX b h1,hs.M _ (h.cN.lt b h1) (cG b h1)];exact h.cN.apart b h1 o
   ·exact(gm b h1 hb).2.2.2 o
  ·intro b hb;rcases lP b s.H.aj.length with h1|h1
   ·rw[mX b h1,hs.own _ (h.cN.lt b h1) (cG b h1)];exact h.cN.dN b h1
   ·exact(gm b h1 hb).2.2.1
  ·intro b x hx
   by_cases hc:b0=some b\/s.H.aj.length<=b
   ·exact(IQ b x hc hx).1
   ·have h1:b<s.H.aj.length:=by omega
    have h2:b0≠some b:=λe=>hc (.inl e);rw[hold b h1 h2] at hx;exact gG.same hs h2 h1 (h.cN.lt b h1) (h.cN.dN b h1) (λb' dK e=>h2 (by rw[dK,h.cN.inj b' b (hs.Et b' dK) h1 e])) hn (h.cN.aI b x hx) (h.cN.ok b x hx)
  ·intro b x hx
   by_cases hc:b0=some b\/s.H.aj.length<=b
   ·exact(IQ b x hc hx).2
   ·have h1:b<s.H.aj.length:=by omega
    rw[hold b h1 (λe=>hc (.inl e))] at hx;exact cZ (h.cN.aI b x hx) hlen
  ·intro c hc;rw[hs.le.obj] at hc;obtain⟨⟨cs,t,h1⟩,h2,h3⟩:=h.cN.laid c hc;have bD:c<w.heap.size:=(sQ.1 h1).1;have mu:∀l,l0=some l->g.own c≠some l:=λl _=>by rw[h2];simp
   refine⟨⟨cs,t,by rw[hs.heap c bD (λb hb=>h3 b (hs.Et b hb)) mu];exact h1⟩,by rw[hs.own c bD mu];exact h2,λb hb e=>?_⟩
   rcases lP b s.H.aj.length with h4|h4
   ·rw[mX b h4] at e;exact h3 b h4 e
   ·have:=hn b h4 hb;omega
 ·intro t x v hx hv;obtain⟨y,hy,IV⟩:=mW t x hx;obtain⟨h1,h2⟩:=h.env t y v hy hv;have h3:=h.cW t y hy;rcases IV with⟨rfl,hl⟩|rfl
  ·exact⟨h1.le hs.le h3,c_.same hs hl hn h2⟩
  ·exact⟨(h1.le hs.le h3).aT,wG _ _ _ _ _ _⟩
 ·intro t x hx;obtain⟨y,hy,IV⟩:=mW t x hx;have h3:=h.cW t y hy;rcases IV with⟨rfl,_⟩|rfl
  ·exact cZ h3 hlen
  ·rw[dx];exact cZ h3 hlen
 ·intro b h1 h2;rcases lP b s.H.aj.length with h3|h3
  ·rw[mX b h3];exact h.dA b h1 h3
  ·exact cZ h.fr.size (hn b h3 h2)
 ·exact h.fr.trans h.n0 h.dA (λb off hl=>h.gR b off (.inl hl)) (hs.fr Oc)
 ·intro p hp;obtain⟨p1,p2,p3,p4,p5⟩:=h.cQ p hp;refine⟨by rw[Kq];exact p1,p2.le hs.le p4,c_.same hs (λe=>?_) hn p3,cZ p4 hlen,λb off e=>?_⟩
  ·have:=Cm _ e;omega
  ·rw[hs.lk b off λl hl e'=>Oc b off (e' ▸ hl) (h.gR b off (.inr ⟨p,hp,e⟩))];exact p5 b off e
 ·intro j x d hx hd;rw[IS] at hx;exact(h.defers j x d hx hd).le hs.le hlen
 ·obtain⟨h0,h1,h2,h3⟩:=h.marks d hd D hD;have bD:D<w.heap.size:=(sQ.1 h1).1;have mu:∀l,l0=some l->g.own D≠some l:=λl _=>by rw[h3];simp
  refine⟨h0,by rw[hs.heap D bD (λb hb=>h2 b (hs.Et b hb)) mu];exact h1,λb hb e=>?_,by rw[hs.own D bD mu];exact h3⟩
  rcases lP b s.H.aj.length with h4|h4
  ·rw[mX b h4] at e;exact h2 b h4 e
  ·have:=hn b h4 hb;omega
end
section
mutual
def XA(g:Gh):∀(v:aS)(x:V),aH v=some x->aQ g x v/\x.top=0
 | .bool b,x,h=>by simp only[aH,aR] at h;subst h;exact⟨.bool b,rfl⟩
 | .int k n,x,h=>by simp only[aH,aR] at h;subst h;exact⟨.int k n,rfl⟩
 | .float _ _,x,h=>by simp[aH] at h
 | .complex _ _ _,x,h=>by simp[aH] at h
 | .string s,x,h=>by
  simp only[aH,aR] at h;subst h;have e:s=bytes (s.data.toList.map UInt8.toNat):=by
   cases s;simp[bytes,Function.comp_def]
  refine⟨?_,rfl⟩
  conv=>rhs;rw[e]
  exact .str λb hb=>by
   obtain⟨c,_,rfl⟩:=ni.1 hb;exact c.toNat_lt
 | .pointer a,x,h=>by
  cases a with
  | none=>simp only[aH,aR] at h;subst h;exact⟨.ef,rfl⟩
  | some _=>simp[aH] at h
 | .slice a n c,x,h=>by
  unfold aH at h;split at h<;>first|(rename_i e;cases e;done)|skip
  all_goals first
   |(simp only[aR] at h;subst h;rename_i e;cases e;first|exact⟨.aJ,rfl⟩)
   |(cases h;done)
   |(rename_i e;cases e)
 | .map r,x,h=>by
  cases r with
  | none=>simp only[aH,aR] at h;subst h;exact⟨.oo,rfl⟩
  | some _=>simp[aH] at h
 | .chan _,x,h=>by simp[aH] at h
 | .func f ⟨as⟩ ⟨cs⟩,x,h=>by
  cases as with
  | nil=>cases cs with
   | nil =>
    simp only[aH,aR] at h;subst h;exact⟨.fn rfl rfl (λj x v hx=>by simp at hx) (λj x v hx=>by simp at hx),rfl⟩
   | cons _ _=>simp[aH] at h
  | cons _ _=>simp[aH] at h
 | .nilFunc,x,h=>by simp only[aH,aR] at h;subst h;exact⟨.o9,rfl⟩
 | .iface _ _,x,h=>by simp[aH] at h
 | .nilIface,x,h=>by simp only[aH,aR] at h;subst h;exact⟨.cV,rfl⟩
 | .agg ⟨cs⟩,x,h=>by
  simp only[aH,fJ] at h;obtain⟨l,hl,h⟩:=h;split at h
  ·rename_i eD;simp only[aR] at h;subst h;obtain⟨h1,h2,h3⟩:=zfa g cs l hl;refine⟨.agg (by simpa using h1) (λj x hx=>Fc.1 eD x (qI hx)) (λj x v hx hv=>h2 j x v hx (by simpa using hv)),?_⟩
   simp only[V.top];exact h3
  ·cases h
 | .tuple ⟨vs⟩,x,h=>by
  cases vs with
  | nil=>simp only[aH,aR] at h;subst h;exact⟨.bz rfl (λj x v hx=>by simp at hx),rfl⟩
  | cons _ _=>simp[aH] at h
def zfa(g:Gh):∀(vs:dY)(xs:aA),nJ vs=some xs->xs.length=vs.length/\(∀(j:Nat)(x:V)(v:aS),xs[j]?=some x->vs[j]?=some v->aQ g x v)/\aI xs=0
 | [],xs,h=>by simp only[nJ,aR] at h;subst h;exact⟨rfl,λj x v hx=>by simp at hx,rfl⟩
 | v::vs,xs,h=>by
  simp only[nJ] at h;split at h
  ·rename_i x ys hx ua;simp only[aR] at h;subst h;obtain⟨h1,h2⟩:=XA g v x hx;obtain⟨h3,h4,h5⟩:=zfa g vs ys ua;refine⟨by simp[h3],λj y u hy hu=>?_,by simp[aI,h2,h5]⟩
   cases j with
   | zero=>simp at hy hu;subst hy;subst hu;exact h1
   | succ j=>simp at hy hu;exact h4 j y u hy hu
  ·cases h
end
variable{B:eu}{g:Gh}{s:St}{a:Act}{w:aK}
def Rel.slot(h:Rel B g s a w){t:Nat}{x:V}(hx:s.env[t]?=some x):∃v,a.tmps[t]?=some v/\a.eval (.tmp t)=v:=by
 have bD:t<a.tmps.size:=by rw[<- h.len];exact(eE.1 hx).1
 refine⟨a.tmps[t],FM bD,?_⟩;simp[Act.eval,Array.getD,bD]
def zgx{n:Nat}{l:Loc}{x:V}{v cv:aS}(h:aH v=some x):c_ g n w l x cv:=by
 unfold c_;split
 ·unfold aH at h;split at h<;>try (simp at h;done)
  all_goals (simp only[fJ] at h;obtain⟨l,_,h⟩:=h;split at h<;>simp at h)
 ·trivial
def qZ(h:Rel B g s a w){x:aO}{v:V}(hp:aB s.env x=some v) :
  aQ g v (a.eval x)/\v.top<=s.H.aj.length/\∀n l,c_ g n w l v (a.eval x):=by
 cases x with
 | tmp t =>
  simp only[aB,zV] at hp;split at hp<;>simp only[aR,reduceCtorEq] at hp;rename_i y hy;subst hp;obtain⟨cv,mY,he⟩:=h.slot hy;rw[he];exact⟨(h.env t y cv hy mY).1.aT,by rw[dx];exact h.cW t y hy,λ_ _=>wG _ _ _ _ _ _⟩
 | const c =>
  simp only[aB] at hp;obtain⟨h1,h2⟩:=XA g c v hp;exact⟨h1,by omega,λ_ _=>zgx hp⟩
 | global k =>
  simp only[aB,aR] at hp;subst hp;exact⟨.gI k 0,ga _,λ_ _=>trivial⟩
 | func f =>
  simp only[aB,aR] at hp;subst hp;exact⟨.fn rfl rfl (λj x v hx=>by simp at hx) (λj x v hx=>by simp at hx),ga _,λ_ _=>trivial⟩
def Rel.hand(h:Rel B g s a w){t:Nat}{v:V}(hv:s.env[t]?=some v)(c:Nat)(hc:g.own c=some (.slot B.d t))(hcw:c<w.heap.size)(l:Loc) :
  Rel B { g with own:=λx=>if x=c then some l else g.own x } { s with env:=s.env.set t (aT v) } a w:=by
 have ht:t<s.env.length:=(eE.1 hv).1;refine h.iB (b0:=none) (l0:=some (.slot B.d t)) ?_ (ek _) (λ_ _ _=>rfl) (λb x hb hx=>?_) (λb h1 h2=>?_) (λb b' h1 h2=>?_) h.cN.mem (λc' l' eY=>?_) (λb j e=>by cases e) (by simp) rfl (λt' x hx=>?_) h.aW h.gR h.nw ?_
 ·refine⟨⟨λ_ _ _ e=>e,λ_ _=>rfl,rfl,λ_ _ _ _ e=>e⟩,λ_ _ _ _=>rfl,λc' _ h'=>?_,λ_ _ _ _=>rfl,ek _,λ_ _ _=>rfl,λl' lD=>?_,λb hb=>(by cases hb),λ_ _ _ _=>rfl,rfl,rfl,rfl⟩
  ·show(if c'=c then some l else g.own c')=g.own c'
   rw[if_neg];rintro rfl;exact h' _ rfl hc
  ·cases lD;exact .inl ⟨t,rfl⟩
 ·rcases hb with hb|hb
  ·cases hb
  ·have:=(eE.1 hx).1;simp only at this;omega
 ·simp only at h2;omega
 ·simp only at h2;omega
 ·simp only at eY;split at eY
  next e=>rw[e];exact hcw
  ·exact h.cN.eK c' l' eY
 ·simp only[s7] at hx;split at hx
  next e=>subst e;simp only[aR] at hx;exact⟨v,hv,.inr hx.symm⟩
  next e=>exact⟨x,hx,.inl ⟨rfl,λe'=>e (by cases e';rfl)⟩⟩
 ·intro t' e;cases e;exact Nat.le_of_lt ht
def Rel.clear(h:Rel B g s a w){t:Nat}{v:V}(hv:s.env[t]?=some v):Rel B g { s with env:=s.env.set t (aT v) } a w:=by
 have ht:t<s.env.length:=(eE.1 hv).1;refine h.iB (b0:=none) (l0:=none) ?_ (ek _) (λ_ _ _=>rfl) (λb x hb hx=>?_) (λb h1 h2=>?_) (λb b' h1 h2=>?_) h.cN.mem h.cN.eK (λb j e=>by cases e) (by simp) rfl (λt' x hx=>?_) h.aW h.gR h.nw ?_
 ·exact⟨⟨λ_ _ _ e=>e,λ_ _=>rfl,rfl,λ_ _ _ _ e=>e⟩,λ_ _ _ _=>rfl,λ_ _ _=>rfl,λ_ _ _ _=>rfl,ek _,λ_ _ _=>rfl,λl' lD=>(by cases lD),λb hb=>(by cases hb),λ_ _ _ _=>rfl,rfl,rfl,rfl⟩
 ·rcases hb with hb|hb
  ·cases hb
  ·have:=(eE.1 hx).1;simp only at this;omega
 ·simp only at h2;omega
 ·simp only at h2;omega
 ·simp only[s7] at hx;split at hx
  next e=>subst e;simp only[aR] at hx;exact⟨v,hv,.inr hx.symm⟩
  ·exact⟨x,hx,.inl ⟨rfl,λe'=>by cases e'⟩⟩
 ·intro t' e;cases e
structure Gh.Alike(g g':Gh):Prop where
 M:g'.M=g.M
 bM:g'.bM=g.bM
 obj:g'.obj=g.obj
 lk:g'.lk=g.lk
 gC:g'.gC=g.gC
def Gh.Alike.refl(g:Gh):Gh.Alike g g:=⟨rfl,rfl,rfl,rfl,rfl⟩
def Gh.Alike.le{g g':Gh}(h:Gh.Alike g g')(n:Nat):Gh.Le n g g':=⟨λ_ _ _ e=>by rw[h.M];exact e,λ_ _=>by rw[h.bM],h.obj,λ_ _ _ _ e=>by rw[h.gC];exact e⟩
def Gh.Alike.rel{g g':Gh}(h:Gh.Alike g g'){v:V}{cv:aS}(hr:aQ g v cv):aQ g' v cv:=hr.le (h.le v.top) (ek _)
def gS(h:Rel B g s a w){x:aO}{v:V}{dy:aA}(ht:take s.env x=some (v,dy))(l:Loc) :
  ∃g',Rel B g' { s with env:=dy } a w/\aQ g' v (a.eval x)/\c_ g' s.H.aj.length w l v (a.eval x)/\v.top<=s.H.aj.length/\Gh.Alike g g':=by
 have plain:∀y,(∀t,y≠.tmp t)->take s.env y=some (v,dy)->∃g',Rel B g' { s with env:=dy } a w/\aQ g' v (a.eval y)/\c_ g' s.H.aj.length w l v (a.eval y)/\v.top<=s.H.aj.length/\Gh.Alike g g':=by
  intro y hy Aq;have hp:aB s.env y=some v/\s.env=dy:=by
   cases y with
   | tmp t=>exact absurd rfl (hy t)
   | _ =>
    simp only[take,l8,bS] at Aq;obtain⟨u,hu,rfl,rfl⟩:=Aq;exact⟨hu,rfl⟩
  obtain⟨h1,h2,h3⟩:=qZ h hp.1;rw[<- hp.2];exact⟨g,h,h1,h3 _ _,h2,.refl g⟩
 cases x with
 | tmp t =>
  simp only[take,zV,fB] at ht;split at ht<;>simp only[aR,bS,reduceCtorEq] at ht
  ·rename_i sz xs e hy;obtain⟨rfl,rfl⟩:=ht;obtain⟨cv,mY,he⟩:=h.slot hy;obtain⟨h1,h2⟩:=h.env t _ cv hy mY;have h3:=h.cW t _ hy;rw[he];have sg:iy g s.H.aj.length w (.slot B.d t) e sz xs.length cv:=h2;cases HU:cv.ownBlock with
   | none =>
    obtain⟨ys,ho,_⟩:=sg;exact⟨g,h.clear hy,h1,⟨ys,ho,λc hc=>by rw[HU] at hc;cases hc⟩,h3,.refl g⟩
   | some c =>
    have bD:=sg.lt c HU;obtain⟨ys,ho,hc⟩:=sg;obtain⟨c1,c2,c3⟩:=hc c HU;refine⟨_,h.hand hy c c1 bD l,?_,⟨ys,ho,λc' eY=>?_⟩,h3,⟨rfl,rfl,rfl,rfl,rfl⟩⟩
    ·exact Gh.Alike.rel (g:=g) (g':={ g with own:=λx=>if x=c then some l else g.own x }) ⟨rfl,rfl,rfl,rfl,rfl⟩ h1
    ·rw[HU] at eY;cases eY;exact⟨by simp,c2,c3⟩
  next y _ hy=>obtain⟨rfl,rfl⟩:=ht;obtain⟨cv,mY,he⟩:=h.slot hy;obtain⟨h1,h2⟩:=h.env t _ cv hy mY;rw[he];exact⟨g,h,h1.aT,wG _ _ _ _ _ _,by rw[dx];exact h.cW t _ hy,.refl g⟩
 | const c=>exact plain _ (λt=>by simp) ht
 | global k=>exact plain _ (λt=>by simp) ht
 | func f=>exact plain _ (λt=>by simp) ht
structure Ew(B:eu)(g:Gh)(s:St)(a:Act)(w:aK)(dst:fQ)(v:V)(cv:aS):Prop where
 rel:Rel B g s a w
 val:aQ g v cv
 own:∀t,dst=some t->c_ g s.H.aj.length w (.slot B.d t) v cv
 top:v.top<=s.H.aj.length
def xc{dst:fQ}{v:V}{cv:aS}(h:Ew B g s a w dst v cv):Rel B g { s with env:=qb s.env dst v } (a.put dst cv) w:=by
 cases dst with
 | none=>exact h.rel
 | some t =>
  have hr:=h.rel;refine { cN:=hr.cN,len:=by simpa[qb,Act.put] using hr.len,env:=?_,cW:=?_,n0:=hr.n0,aW:=hr.aW,dA:=hr.dA,fr:=hr.fr,gR:=hr.gR,nw:=hr.nw,cQ:=by simpa[qb] using hr.cQ,dD:=hr.dD,defers:=hr.defers,marks:=hr.marks,iJ:=hr.iJ }
  ·intro t' x u hx hu;simp only[qb,s7] at hx;simp only[Act.put,Array.getElem?_setIfInBounds] at hu
   by_cases e:t=t'
   ·subst e;simp only[aU] at hx hu;split at hx
    ·simp only[aR] at hx;split at hu
     ·simp only[aR] at hu;subst hx;subst hu;exact⟨h.val,h.own t rfl⟩
     ·cases hu
    ·cases hx
   ·simp only[e,bZ] at hx hu;exact hr.env t' x u hx hu
  ·intro t' x hx;simp only[qb,s7] at hx
   by_cases e:t=t'
   ·subst e;simp only[aU] at hx;split at hx
    ·simp only[aR] at hx;subst hx;exact h.top
    ·cases hx
   ·simp only[e,bZ] at hx;exact hr.cW t' x hx
end
section
variable{P:aM}{g:Gh}{w:aK}
def kA{t:aq}{n:Nat}(h:jh P t=some n)(w:aK):(sizeOf t).run P w=.ok n w:=by
 simp only[jh,l8] at h;obtain⟨i,hi,rfl⟩:=h;simp[sizeOf,typeInfo,hi]
def T'{t:aq}{b:Bool}(h:ka P t=some b)(w:aK):(isAgg t).run P w=.ok b w:=by
 simp only[ka,l8] at h;obtain⟨d,hd,rfl⟩:=h;unfold isAgg;simp only[Sem.run_bind,run_underlying hd,Result.andThen_ok];cases d<;>rfl
structure bN(g:Gh)(cs:aA)(vs:dY):Prop where
 len:cs.length=vs.length
 one:∀(j:Nat)(x:V),cs[j]?=some x->x.one=true
 rel:∀(j:Nat)(x:V)(v:aS),cs[j]?=some x->vs[j]?=some v->aQ g x v
def bN.get{cs:aA}{vs:dY}(h:bN g cs vs){j:Nat}{x:V}(hx:cs[j]?=some x):∃v,vs[j]?=some v/\aQ g x v:=by
 have bD:j<vs.length:=by rw[<- h.len];exact(eE.1 hx).1
 exact⟨vs[j],mq bD,h.rel j x _ hx (mq bD)⟩
def bN.drop{cs:aA}{vs:dY}(h:bN g cs vs)(k:Nat):bN g (cs.drop k) (vs.drop k) :=
 ⟨by simp[h.len],λj x hx=>h.one (k+j) x (by simpa using hx),λj x v hx hv=>h.rel (k+j) x v (by simpa using hx) (by simpa using hv)⟩
def bN.take{cs:aA}{vs:dY}(h:bN g cs vs)(k:Nat):bN g (cs.take k) (vs.take k):=by
 refine⟨by simp[h.len],λj x hx=>?_,λj x v hx hv=>?_⟩
 ·rw[um] at hx;split at hx
  ·exact h.one j x hx
  ·cases hx
 ·rw[um] at hx hv;split at hx
  next hj=>rw[if_pos hj] at hv;exact h.rel j x v hx hv
  ·cases hx
def bN.agg{cs:aA}{arr:dI}(h:bN g cs arr.toList):aQ g (.agg cs) (.agg arr) :=
 .agg (by simpa using h.len) h.one λj x v hx hv=>h.rel j x v hx (by simpa using hv)
def vN{cs:aA}{cv:aS}(h:aQ g (.agg cs) cv):∃arr,cv=.agg arr/\bN g cs arr.toList:=by
 cases h with
 | agg h1 h2 h3=>exact⟨_,rfl,⟨by simpa using h1,h2,λj x v hx hv=>h3 j x v hx (by simpa using hv)⟩⟩
def bN.Ar{cs:aA}{vs:dY}(h:bN g cs vs):bN g (cs.map aT) vs:=by
 refine⟨by simp[h.len],λj x hx=>?_,λj x v hx hv=>?_⟩
 ·simp only[mS,l8] at hx;obtain⟨y,hy,rfl⟩:=hx;exact(Xx y).trans (h.one j y hy)
 ·simp only[mS,l8] at hx;obtain⟨y,hy,rfl⟩:=hx;exact(h.rel j y v hy hv).aT
def Od{cs:aA}{arr:dI}(h:bN g cs arr.toList){t:aq}{off:Nat}{v:V}(hv:wk P t cs off=some v)(w:aK) :
  ∃cv,(part t arr off).run P w=.ok cv w/\aQ g v cv/\v.top<=aI cs/\(∀ys,v=.agg ys->∃vs,cv=.agg vs/\vs=arr.extract off (off+ys.length)):=by
 simp only[wk,Option.bind_eq_bind,fJ] at hv;obtain⟨b,hb,hv⟩:=hv;unfold part;simp only[Sem.run_bind,T' hb,Result.andThen_ok];cases b with
 | true =>
  simp only[aU,fJ] at hv;obtain⟨n,hn,hv⟩:=hv;split at hv<;>simp only[aR,reduceCtorEq] at hv;rename_i hle;subst hv;simp only[aU,Sem.run_bind,kA hn,Result.andThen_ok,Sem.run_pure];have hl:(List.take n (List.drop off cs)).length=n:=by simp;omega
  refine⟨_,rfl,?_,?_,λys ua=>?_⟩
  ·refine bN.agg ?_;have:=(h.drop off).take n;simpa[List.take_drop] using this
  ·simp only[V.top];exact j7 λx hx=>qg (Cj (CB hx))
  ·cases ua;exact⟨_,rfl,by rw[hl]⟩
 | false =>
  simp only[dF,bZ,zV] at hv;obtain⟨cv,mY,hr⟩:=h.get hv;simp only[dF,bZ];have:arr[off]?=some cv:=by simpa using mY
  rw[this];refine⟨cv,rfl,hr,qg (qI hv),λys ua=>?_⟩;subst ua;have:=h.one off _ hv;simp[V.one,oJ] at this
def XB{cs:aA}{vs:dY}(h:bN g cs vs){c o:Nat}(hc:∀j v,vs[j]?=some v->w.cell? ⟨c,o+j,none⟩=some v){t:aq}{off:Nat}{v:V}(hv:wk P t cs off=some v) :
  ∃cv,(loadVar t ⟨c,o+off,none⟩).run P w=.ok cv w/\aQ g v cv/\v.top<=aI cs:=by
 simp only[wk,Option.bind_eq_bind,fJ] at hv;obtain⟨b,hb,hv⟩:=hv;unfold loadVar;simp only[Sem.run_bind,T' hb,Result.andThen_ok];cases b with
 | true =>
  simp only[aU,fJ] at hv;obtain⟨n,hn,hv⟩:=hv;split at hv<;>simp only[aR,reduceCtorEq] at hv;rename_i hle;subst hv;have hr:=(h.drop off).take n;have hl:((vs.drop off).take n).length=n:=by simp;have:=h.len;omega
  have cX:=run_loadCells_list (P:=P) (w:=w) ⟨c,o+off,none⟩ ((vs.drop off).take n) (λj v hj=>by
   rw[um] at hj;split at hj
   ·rw[Addr.add_lit];rw[FP] at hj;rw[cU];exact hc _ _ hj
   ·cases hj)
  rw[hl] at cX;simp only[aU,Sem.run_bind,kA hn,Result.andThen_ok,cX,Sem.run_pure];refine⟨_,rfl,bN.agg (by simpa using hr),?_⟩
  simp only[V.top];exact j7 λx hx=>qg (Cj (CB hx))
 | false =>
  simp only[dF,bZ,zV] at hv;obtain⟨cv,mY,hr⟩:=h.get hv;refine⟨cv,?_,hr,qg (qI hv)⟩;simp[hc off cv mY]
end
section
variable{P:aM}{g:Gh}{w:aK}
def znG{op:BinOp}{k:IntKind}{x y:Int}{v:V}(t:aq)(h:wl op k x y=some v)(w:aK) :
  ∃cv,(binOp op t (.int k x) (.int k y)).run P w=.ok cv w/\aQ g v cv/\v.top=0/\∀m l,c_ g m w l v cv:=by
 cases op<;>simp only[wl,aR,reduceCtorEq] at h
 case quo =>
  split at h<;>simp only[aR,reduceCtorEq] at h;rename_i hy;subst h;refine⟨.int _ _,?_,.int _ _,rfl,λ_ _=>trivial⟩;simp[binOp,Op.intDiv,hy]
 case rem =>
  split at h<;>simp only[aR,reduceCtorEq] at h;rename_i hy;subst h;refine⟨.int _ _,?_,.int _ _,rfl,λ_ _=>trivial⟩;simp[binOp,Op.intDiv,hy]
 all_goals subst h
 all_goals first
  | (refine⟨.int _ _,?_,.int _ _,rfl,λ_ _=>trivial⟩;simp[binOp,Op.intArith,Op.intBits];done)
  | (refine⟨.bool _,?_,.bool _,rfl,λ_ _=>trivial⟩;simp[binOp,Op.intCmp];done)
def ziA{op:BinOp}{k k':IntKind}{x y:Int}{v:V}(h:N4 op k x y=some v)(w:aK) :
  ∃cv,(Op.shift op k x k' y).run P w=.ok cv w/\aQ g v cv/\v.top=0/\∀m l,c_ g m w l v cv:=by
 simp only[N4] at h;split at h
 ·cases h
 ·rename_i hy;cases op<;>simp only[aR,reduceCtorEq] at h
  all_goals
   subst h;refine⟨.int _ _,?_,.int _ _,rfl,λ_ _=>trivial⟩;simp[Op.shift,hy]
def pE:∀(x y:bR),(∀b:Nat,b∈x->b<256)->(∀b:Nat,b∈y->b<256)->(x.map UInt8.ofNat == y.map UInt8.ofNat)=rZ x y
 | [],[],_,_=>rfl
 | [],_::_,_,_=>rfl
 | _::_,[],_,_=>rfl
 | a::x,b::y,hx,hy=>by
  have ih:=pE x y (λc hc=>hx c (dB _ hc)) (λc hc=>hy c (dB _ hc));have ha:=hx a (eS ..);have hb:=hy b (eS ..);have e:(UInt8.ofNat a == UInt8.ofNat b)=Nat.beq a b:=by
   rw[HT,beq_iff_eq,Nat.beq_eq];constructor
   ·intro h;have:=congrArg UInt8.toNat h;simpa[UInt8.toNat_ofNat',HS ha,HS hb] using this
   ·rintro rfl;rfl
  simp only[bW,rZ];rw[<- ih,<- e];rfl
def Dw:∀(x y:bR),(∀b:Nat,b∈x->b<256)->(∀b:Nat,b∈y->b<256)->Op.bytesLess (x.map UInt8.ofNat) (y.map UInt8.ofNat)=FR x y
 | [],[],_,_=>rfl
 | [],_::_,_,_=>rfl
 | _::_,[],_,_=>rfl
 | a::x,b::y,hx,hy=>by
  have ih:=Dw x y (λc hc=>hx c (dB _ hc)) (λc hc=>hy c (dB _ hc));have ha:=hx a (eS ..);have hb:=hy b (eS ..);have e:(UInt8.ofNat a == UInt8.ofNat b)=Nat.beq a b:=by
   rw[HT,beq_iff_eq,Nat.beq_eq];constructor
   ·intro h;have:=congrArg UInt8.toNat h;simpa[UInt8.toNat_ofNat',HS ha,HS hb] using this
   ·rintro rfl;rfl
  have e2:decide (UInt8.ofNat a<UInt8.ofNat b)=Nat.blt a b:=by
   rw[HT,decide_eq_true_iff,UInt8.lt_iff_toNat_lt,UInt8.toNat_ofNat',UInt8.toNat_ofNat',HS ha,HS hb];simp only[Nat.blt,Nat.ble_eq];exact Nat.lt_iff_add_one_le
  simp only[bW,Op.bytesLess,FR,ih,e,e2]
def vO(x:bR):(bytes x).toList=x.map UInt8.ofNat:=by
 rw[ByteArray.toList_eq];simp[bytes]
def we(x:bR):(bytes x).size=x.length:=by simp[bytes,ByteArray.size]
def zhm(x y:bR):bytes x++bytes y=bytes (x++y):=by
 apply ByteArray.ext;simp[bytes,ByteArray.data_append]
def znH{op:BinOp}{x y:bR}{v:V}(t:aq)(hx:∀b:Nat,b∈x->b<256)(hy:∀b:Nat,b∈y->b<256)(h:P4 op x y=some v)(w:aK) :
  ∃cv,(binOp op t (.string (bytes x)) (.string (bytes y))).run P w=.ok cv w/\aQ g v cv/\v.top=0/\∀m l,c_ g m w l v cv:=by
 have e1:=pE x y hx hy;have e2:=Dw x y hx hy;have e0:(binOp op t (.string (bytes x)) (.string (bytes y)))=Op.stringOp op (bytes x) (bytes y):=by
  cases op<;>rfl
 rw[e0];cases op<;>simp only[P4,aR,reduceCtorEq] at h
 case add =>
  split at h<;>simp only[aR,reduceCtorEq] at h;rename_i hl;subst h;have hm:IntKind.i64.max=9223372036854775807:=by decide
  refine⟨.string (bytes (x++y)),?_,.str λb hb=>?_,rfl,λ_ _=>trivial⟩
  ·have:¬(((bytes x).size+(bytes y).size:Nat):Int) > IntKind.i64.max:=by rw[hm,we,we];omega
   simp only[Op.stringOp,if_neg this,zhm];rfl
  ·rcases uo.1 hb with hb|hb
   ·exact hx b hb
   ·exact hy b hb
 all_goals
  subst h;refine⟨.bool _,?_,.bool _,rfl,λ_ _=>trivial⟩;simp only[Op.stringOp,vO,e1,e2,Sem.run_pure]
def Oe(P:aM)(d:Nat)(e:aq)(n:Nat)(xs ys:dI):bR->Sem Bool
 | []=>pure true
 | i::is=>do
  let a <- part e xs (i * n)
  let b <- part e ys (i * n)
  let r <- Op.equalIn d e a b
  if (!r)=true then pure false else Oe P d e n xs ys is
def zcI(d:Nat)(t e:aq)(len n:Nat)(xs ys:dI)(ht:P.underlying t=some (.array len e))(hn:jh P e=some n)(w:aK) :
  (Op.equalIn (d+1) t (.agg xs) (.agg ys)).run P w=(Oe P d e n xs ys (List.range' 0 len)).run P w:=by
 simp only[Op.equalIn,Sem.run_bind,run_underlying ht,kA hn,Result.andThen_ok];rw[Std.Legacy.Range.forIn_eq_forIn_range'];simp only[Std.Legacy.Range.size,Nat.sub_zero,Nat.add_sub_cancel,Nat.div_one];generalize List.range' 0 len=is
 induction is generalizing w with
 | nil=>simp[Oe]
 | cons f fs ih =>
  simp only[List.forIn_cons,Oe,Sem.run_bind,Sem.run_ite];generalize (part e xs (f * n)).run P w=r1;cases r1 with
  | ok a w1 =>
   simp only[Result.andThen_ok];generalize (part e ys (f * n)).run P w1=r2;cases r2 with
   | ok b w2 =>
    simp only[Result.andThen_ok];generalize (Op.equalIn d e a b).run P w2=r3;cases r3 with
    | ok r w3 =>
     cases r
     ·simp only[Result.andThen_ok,fz,aU,Sem.run_pure]
     ·simp only[Result.andThen_ok,eU,dF,bZ,Sem.run_pure];exact ih w3
    | halt x w3=>simp[Result.andThen]
   | halt x w2=>simp[Result.andThen]
  | halt x w1=>simp[Result.andThen]
def zlg{eq:aq->V->V->Option Bool}{d:Nat}(heq:∀t x y b cx cy,eq t x y=some b->aQ g x cx->aQ g y cy->(Op.equalIn d t cx cy).run P w=.ok b w){xs ys:aA}{ax ay:dI}
  (hx:bN g xs ax.toList) (hy:bN g ys ay.toList):∀(fs:List Field)(b:Bool),LM P eq fs xs ys=some b->(Op.eqFields d ax ay fs).run P w=.ok b w
 | [],b,h=>by simp only[LM,aR] at h;subst h;rfl
 | f::fs,b,h=>by
  simp only[LM] at h;split at h
  ·cases h
  ·rename_i hf;simp only[Option.bind_eq_bind,fJ] at h;obtain⟨u,hu,v,hv,r,hr,h⟩:=h;obtain⟨cu,IW,LW,_⟩:=Od hx hu w;obtain⟨cv,FZ,Fj,_⟩:=Od hy hv w;simp only[Op.eqFields,ne_eq,hf,cY,aU,Sem.run_bind,IW,FZ,heq _ _ _ _ _ _ hr LW Fj,Result.andThen_ok];cases r with
   | true=>simp only[aU] at h;simpa using zlg heq hx hy fs b h
   | false=>simp only[dF,bZ,aR] at h;subst h;simp
def zlh{eq:aq->V->V->Option Bool}{d:Nat}(heq:∀t x y b cx cy,eq t x y=some b->aQ g x cx->aQ g y cy->(Op.equalIn d t cx cy).run P w=.ok b w){xs ys:aA}{ax ay:dI}
  (hx:bN g xs ax.toList) (hy:bN g ys ay.toList) (e n:Nat):∀(k i:Nat)(b:Bool),LN P eq e n xs ys i k=some b->(Oe P d e n ax ay (List.range' i k)).run P w=.ok b w
 | 0,i,b,h=>by simp only[LN,aR] at h;subst h;rfl
 | k+1,i,b,h=>by
  simp only[LN,Option.bind_eq_bind,fJ] at h;obtain⟨u,hu,v,hv,r,hr,h⟩:=h;obtain⟨cu,IW,LW,_⟩:=Od hx hu w;obtain⟨cv,FZ,Fj,_⟩:=Od hy hv w;simp only[List.range'_succ,Oe,Sem.run_bind,IW,FZ,heq _ _ _ _ _ _ hr LW Fj,Result.andThen_ok];cases r with
  | true=>simp only[aU] at h;simpa using zlh heq hx hy e n k (i+1) b h
  | false=>simp only[dF,bZ,aR] at h;subst h;simp
def zry{D:Nat}{t:aq}{ds:TypeDesc}(hd:P.underlying t=some ds){x y:V}{b:Bool}{cx cy:aS}(h:Cl ds x y=some b)(hx:aQ g x cx)(hy:aQ g y cy):(Op.equalIn (D+1) t cx cy).run P w=.ok b w:=by
 have hu:=run_underlying hd w;unfold Cl at h;split at h
 ·split at h<;>simp only[aR,reduceCtorEq] at h;subst h;cases hx;cases hy;exact run_equalIn_bool' w D t _ _ hd
 ·split at h<;>try (simp only[reduceCtorEq] at h;done)
  split at h<;>simp only[aR,reduceCtorEq] at h;rename_i e;subst h;subst e;cases hx;cases hy;exact run_equalIn_int w D t _ _ _ _ hd
 ·split at h<;>simp only[aR,reduceCtorEq] at h;subst h;cases hx with
  | str h1=>cases hy with
   | str h2 =>
    rw[run_equalIn_string w D t _ _ hd,vO,vO,pE _ _ h1 h2]
 ·split at h<;>simp only[aR,reduceCtorEq] at h
  all_goals (subst h;cases hx;cases hy;simp[Op.equalIn,hu];done)
 ·split at h<;>try (simp only[reduceCtorEq] at h;done)
  ·simp only[aR] at h;subst h;cases hx;cases hy;simp[Op.equalIn,hu]
  ·simp only[aR] at h;subst h;cases hx;cases hy;simp[Op.equalIn,hu]
  ·simp only[aR] at h;subst h;cases hx;cases hy;simp[Op.equalIn,hu]
  ·split at h<;>simp only[aR,reduceCtorEq] at h;rename_i e;subst h;cases hx;cases hy;simp[Op.equalIn,hu,e]
 ·split at h<;>simp only[aR,reduceCtorEq] at h
  ·subst h;cases hx;cases hy;simp[Op.equalIn,hu]
  ·subst h;cases hx;cases hy with
   | sl f h1 h2 h3=>rw[h3 (by simp)];simp[Op.equalIn,hu]
  ·subst h;cases hy;cases hx with
   | sl f h1 h2 h3=>rw[h3 (by simp)];simp[Op.equalIn,hu]
  ·subst h;cases hx;cases hy;simp[Op.equalIn,hu]
  ·subst h;cases hx;cases hy;simp[Op.equalIn,hu]
 ·split at h<;>simp only[aR,reduceCtorEq] at h
  all_goals (subst h;cases hx;cases hy;simp[Op.equalIn,hu];done)
 ·split at h<;>simp only[aR,reduceCtorEq] at h
  all_goals (subst h;cases hx;cases hy;simp[Op.equalIn,hu];done)
 ·cases h
def CG:∀(d D:Nat)(t:aq)(x y:V)(b:Bool)(cx cy:aS),d<=D->r8 P d t x y=some b->aQ g x cx->aQ g y cy->(Op.equalIn D t cx cy).run P w=.ok b w
 | 0,D,t,x,y,b,cx,cy,_,h,_,_=>by simp[r8] at h
 | d+1,0,t,x,y,b,cx,cy,hD,h,_,_=>by omega
 | d+1,D+1,t,x,y,b,cx,cy,hD,h,hx,hy=>by
  have ih:=λt x y b cx cy=>CG d D t x y b cx cy (by omega)
  simp only[r8] at h;split at h
  ·cases h
  ·rename_i ds hd;split at h
   ·obtain⟨ax,rfl,h1⟩:=vN hx;obtain⟨ay,rfl,h2⟩:=vN hy;split at h
    ·rename_i fs;split at h
     ·cases h
     ·rename_i hp;have hf:P.fieldsOf t=fs:=by simp[Program.fieldsOf,hd]
      rw[run_equalIn_struct w D t ax ay (by rw[hf];exact hd) (by simpa using hp),hf]
      exact zlg ih h1 h2 _ _ h
    ·split at h
     next n hn=>rw[zcI D t _ _ n ax ay hd hn];exact zlh ih h1 h2 _ _ _ _ _ h
     ·cases h
    ·cases h
   ·exact zry hd h hx hy
def iK{op:BinOp}{t:aq}{x y:V}{cx cy:aS}{ox oy:aO}(hg:kb P op t ox oy x y=true)(hx:aQ g x cx)(hy:aQ g y cy)(w:aK):(eqGuard op t ox oy cx cy).run P w=.ok () w:=by
 have key:(op=.eql\/op=.neq)->(eqGuard op t ox oy cx cy).run P w=.ok () w:=by
  intro ho;have Kr:wR P t ox oy x y=true:=by rcases ho with rfl|rfl<;>exact hg
  by_cases ha:∃xs ys,cx=.agg xs/\cy=.agg ys
  ·obtain⟨xs,ys,rfl,rfl⟩:=ha;refine run_eqGuard_agg w op t ox oy xs ys ?_;cases hx<;>cases hy<;>first|(simp[wR] at Kr;done)|(simpa[wR] using Kr)
  ·by_cases hn:cx=.nilIface/\cy=.nilIface
   ·obtain⟨rfl,rfl⟩:=hn;have hc:isConst ox=true\/isConst oy=true:=by
     cases hx<;>cases hy<;>first|(simp[wR] at Kr;done)|(simpa[wR] using Kr)
    rcases ho with rfl|rfl<;>rcases hc with hc|hc<;>(cases ox<;>cases oy<;>simp[isConst] at hc<;>simp[eqGuard])
   ·rcases ho with rfl|rfl
    all_goals
     cases cx<;>cases cy<;>first
      |rfl
      |exact absurd ⟨rfl,rfl⟩ hn
      |exact absurd ⟨_,_,rfl,rfl⟩ ha
 cases op<;>first
  |exact key (.inl rfl)
  |exact key (.inr rfl)
  |simp[eqGuard]
def zli{d:Nat}{t:aq}{k:IntKind}{n:Int}{y:V}{b:Bool}(h:r8 P d t (.int k n) y=some b):∃k' m,y=.int k' m:=by
 cases d with
 | zero=>simp[r8] at h
 | succ d =>
  simp only[r8] at h;split at h
  ·cases h
  next ds _=>cases ds<;>cases y<;>simp[Cl] at h;exact⟨_,_,rfl⟩
def zlj{d:Nat}{t:aq}{s:bR}{y:V}{b:Bool}(h:r8 P d t (.str s) y=some b):∃s',y=.str s':=by
 cases d with
 | zero=>simp[r8] at h
 | succ d =>
  simp only[r8] at h;split at h
  ·cases h
  next ds _=>cases ds<;>cases y<;>simp[Cl] at h;exact⟨_,rfl⟩
def ziB{d:Nat}{t:aq}{y:V}{b:Bool}(h:r8 P d t .mU y=some b):False:=by
 cases d with
 | zero=>simp[r8] at h
 | succ d =>
  simp only[r8] at h;split at h
  ·cases h
  next ds _=>cases ds<;>simp[Cl] at h
def zpX{op:BinOp}{t:aq}{x y:V}{v:V}{cx cy:aS}(h:wT P op t x y=some v)(hx:aQ g x cx)(hy:aQ g y cy)(w:aK) :
  ∃cv,(binOp op t cx cy).run P w=.ok cv w/\aQ g v cv/\v.top=0/\∀m l,c_ g m w l v cv:=by
 unfold wT at h;split at h
 next k1 a1 k2 b1=>cases hx;cases hy;exact ziA (k':=k2) h w
 next k1 a1 k2 b1=>cases hx;cases hy;exact ziA (k':=k2) h w
 ·split at h
  next e=>subst e;cases hx;cases hy;exact znG t h w
  ·cases h
 ·cases hx with
  | str h1=>cases hy with
   | str h2=>exact znH t h1 h2 h w
 ·rename_i n1 n2;simp only[l8] at h;obtain⟨b,hb,rfl⟩:=h;have e:binOp .eql t cx cy=(do pure (.bool (<- Op.equal t cx cy))):=by
   cases hx<;>first
    |rfl
    |(obtain⟨k',m,rfl⟩:=zli hb;exact absurd rfl (n1 _ _ _ _ rfl))
    |(obtain⟨s',rfl⟩:=zlj hb;exact absurd rfl (n2 _ _ rfl))
    |exact(ziB hb).elim
  rw[e];refine⟨.bool b,?_,.bool b,rfl,λ_ _=>trivial⟩;simp only[Sem.run_bind,Op.equal,CG 100 Op.maxDepth t _ _ b cx cy (by decide) hb hx hy,Result.andThen_ok,Sem.run_pure]
 ·rename_i n1 n2;simp only[l8] at h;obtain⟨b,hb,rfl⟩:=h;have e:binOp .neq t cx cy=(do pure (.bool (!(<- Op.equal t cx cy)))):=by
   cases hx<;>first
    |rfl
    |(obtain⟨k',m,rfl⟩:=zli hb;exact absurd rfl (n1 _ _ _ _ rfl))
    |(obtain⟨s',rfl⟩:=zlj hb;exact absurd rfl (n2 _ _ rfl))
    |exact(ziB hb).elim
  rw[e];refine⟨.bool (!b),?_,.bool _,rfl,λ_ _=>trivial⟩;simp only[Sem.run_bind,Op.equal,CG 100 Op.maxDepth t _ _ b cx cy (by decide) hb hx hy,Result.andThen_ok,Sem.run_pure]
 ·cases h
end
section
variable{P:aM}{B:eu}{g:Gh}{s:St}{a:Act}{w:aK}
def LX(P:aM)(g:Gh)(n:Nat)(w:aK)(m:Sem aS)(v:V):Prop:=∃cv,m.run P w=.ok cv w/\aQ g v cv/\v.top<=n/\∀k l,c_ g k w l v cv
def zlk{n:Nat}{l:Loc}{v:V}{cv:aS}(h:∀sz xs e,v≠.sl sz xs (.yes e)):c_ g n w l v cv:=by
 cases v with
 | sl sz xs o=>cases o with
  | yes e=>exact absurd rfl (h sz xs e)
  | _=>trivial
 | _=>trivial
def HV(g:Gh):cP->Option aS->Prop
 | none,none=>True
 | some x,some v=>aQ g x v
 | _,_=>False
def XC{isSlice:Bool}{len cap:Nat}{lo hi:cP}{o5 Fk:Option aS}{l h:Nat}(mg:HV g lo o5)(Bc:HV g hi Fk)(h1:kE hi len=some h)(h2:kE lo 0=some l)
  (hl:l<=h) (hh:h<=cap) (w:aK):(Instr.sliceBounds isSlice len cap o5 Fk none).run P w=.ok (l,h,cap) w:=by
 have e1:∀code,(match Fk with|some v=>Instr.sliceBound v cap code|none=>pure len:Sem Nat).run P w=.ok h w:=by
  intro code;cases Fk with
  | none=>cases hi with
   | none=>simp only[kE,aR] at h1;simp[h1]
   | some _=>exact Bc.elim
  | some cv=>cases hi with
   | none=>exact Bc.elim
   | some x =>
    simp only[kE] at h1;split at h1<;>first|(rename_i e;simp at e;done)|skip
    ·rename_i k m e;simp only[aR] at e;subst e;split at h1<;>simp only[aR,reduceCtorEq] at h1;rename_i hm;have hr:aQ g (.int k m) cv:=Bc;cases hr;have:0<=m/\m<=(cap:Int):=⟨hm,by omega⟩
     simp[Instr.sliceBound,asIntOf,this,h1]
    ·cases h1
 have e2:∀code,(match o5 with|some v=>Instr.sliceBound v h code|none=>pure 0:Sem Nat).run P w=.ok l w:=by
  intro code;cases o5 with
  | none=>cases lo with
   | none=>simp only[kE,aR] at h2;simp[h2]
   | some _=>exact mg.elim
  | some cv=>cases lo with
   | none=>exact mg.elim
   | some x =>
    simp only[kE] at h2;split at h2<;>first|(rename_i e;simp at e;done)|skip
    ·rename_i k m e;simp only[aR] at e;subst e;split at h2<;>simp only[aR,reduceCtorEq] at h2;rename_i hm;have hr:aQ g (.int k m) cv:=mg;cases hr;have:0<=m/\m<=(h:Int):=⟨hm,by omega⟩
     simp[Instr.sliceBound,asIntOf,this,h2]
    ·cases h2
 unfold Instr.sliceBounds;cases Fk with
 | none =>
  have IX:=e1 .sliceAcap;simp only[Sem.run_pure,Result.ok.injEq,Bt] at IX;cases o5 with
  | none=>have F0:=e2 .sliceB;simp only[Sem.run_pure,Result.ok.injEq,Bt] at F0;simp[IX,F0]
  | some cv=>have F0:=e2 .sliceB;simp only at F0;simp[IX,F0]
 | some cu =>
  have IX:=e1 (if isSlice then .sliceAcap else .sliceAlen)
  simp only at IX;cases o5 with
  | none=>have F0:=e2 .sliceB;simp only[Sem.run_pure,Result.ok.injEq,Bt] at F0;simp[IX,F0]
  | some cv=>have F0:=e2 .sliceB;simp only at F0;simp[IX,F0]
def P_{isSlice:Bool}{len cap:Nat}{lo hi:cP}{o5 Fk:Option aS}{l h:Nat}(mg:HV g lo o5)(Bc:HV g hi Fk)(h1:kE hi len=some h)(h2:kE lo 0=some l)
  (hl:l<=h) (hh:h<=len) (hc:len<=cap) (w:aK):(Instr.sliceBounds isSlice len cap o5 Fk none).run P w=.ok (l,h,cap) w:=XC mg Bc h1 h2 hl (cZ hh hc) w
def zrz{lo:cP}{o5:Option aS}{l h:Nat}(mg:HV g lo o5)(h2:kE lo 0=some l)(hl:l<=h)(w:aK)(code:BoundsCode):(match o5 with|some v=>Instr.sliceBound v h code|none=>pure 0:Sem Nat).run P w=.ok l w:=by
 cases o5 with
 | none=>cases lo with
  | none=>simp only[kE,aR] at h2;simp[h2]
  | some _=>exact mg.elim
 | some cv=>cases lo with
  | none=>exact mg.elim
  | some x =>
   simp only[kE] at h2;split at h2<;>first|(rename_i e;simp at e;done)|skip
   ·rename_i k m e;simp only[aR] at e;subst e;split at h2<;>simp only[aR,reduceCtorEq] at h2;rename_i hm;have hr:aQ g (.int k m) cv:=mg;cases hr;have:0<=m/\m<=(h:Int):=⟨hm,by omega⟩
    simp[Instr.sliceBound,asIntOf,this,h2]
   ·cases h2
def zkp{isSlice:Bool}{len cap:Nat}{lo:cP}{o5:Option aS}{k k':IntKind}{l:Nat}{h m:Int}(mg:HV g lo o5)(h2:kE lo 0=some l)(h0:0<=h)(hl:l<=h.toNat)(hm:h<=m)(hc:m<=cap)(w:aK) :
  (Instr.sliceBounds isSlice len cap o5 (some (.int k h)) (some (.int k' m))).run P w=.ok (l,h.toNat,m.toNat) w:=by
 have a1:0<=m/\m<=(cap:Int):=⟨by omega,hc⟩
 have a2:0<=h/\h<=(m.toNat:Int):=⟨h0,by omega⟩
 have e2:=zrz (P:=P) mg h2 hl w .slice3C;have r:∀(kk:IntKind)(i:Int)(y:Nat)(code:BoundsCode),0<=i->i<=(y:Int)->(Instr.sliceBound (.int kk i) y code).run P w=.ok i.toNat w:=λkk i y code h1 h2=>by
  have:0<=i/\i<=(y:Int):=⟨h1,h2⟩;simp[Instr.sliceBound,asIntOf,this]
 unfold Instr.sliceBounds;cases o5 with
 | none=>simp only[Sem.run_pure,Result.ok.injEq,Bt] at e2;simp[r _ _ _ _ a1.1 a1.2,r _ _ _ _ a2.1 a2.2,e2]
 | some cv=>simp only at e2;simp[r _ _ _ _ a1.1 a1.2,r _ _ _ _ a2.1 a2.2,e2]
def zgh(x:bR)(l h:Nat):(bytes x).extract l h=bytes ((x.take h).drop l):=by
 apply ByteArray.ext;simp[bytes,ByteArray.data_extract,List.extract,<- List.map_take,<- List.map_drop,List.drop_take]
def zrA{op:UnOp}{x v:V}{cx:aS}(h:FU op x=some v)(hx:aQ g x cx)(n:Nat)(w:aK):LX P g n w (Op.unary op cx) v:=by
 unfold FU at h;split at h
 ·simp only[aR] at h;subst h;cases hx;exact⟨.int _ _,by simp[Op.unary,Op.intArith],.int _ _,ga _,λ_ _=>trivial⟩
 ·simp only[wl,aR] at h;subst h;cases hx;exact⟨.int _ _,by simp[Op.unary,Op.intBits],.int _ _,ga _,λ_ _=>trivial⟩
 ·simp only[aR] at h;subst h;cases hx;exact⟨.bool _,by simp[Op.unary],.bool _,ga _,λ_ _=>trivial⟩
 ·cases h
def yp{t:aq}{f:Nat}{fs:Array Field}{fd:Field}{sz:Nat}(ht:P.underlying t=some (.struct fs))(hf:fs[f]?=some fd)(hs:jh P fd.type=some sz)(h0:Nat.beq sz 0=false)(c o:Nat)(w:aK) :
  (Instr.fieldAt t (.pointer (some ⟨c,o,none⟩)) f).run P w=.ok (.pointer (some ⟨c,o+fd.offset,none⟩)) w:=by
 have:sz≠0:=by intro e;subst e;simp at h0
 unfold Instr.fieldAt;simp[run_underlying ht,hf,Instr.sureAddr,fieldPlace,kA hs,this,Addr.add_lit]
def aQ.Dx{cs:aA}{c o:Nat}(h:aQ g (.vp cs) (.pointer (some ⟨c,o,none⟩)))(k:Nat):aQ g (.vp (cs.drop k)) (.pointer (some ⟨c,o+k,none⟩)):=by
 cases h with
 | vp f h1 h2 h3 =>
  refine .vp (λj=>f (k+j)) (λj x hx=>h1 (k+j) x (by simpa using hx)) (λj x hx=>?_) (λj x hx=>h3 (k+j) x (by simpa using hx))
  rw[cU];exact h2 (k+j) x (by simpa using hx)
def mB(cs:aA)(k:Nat):aI (cs.drop k)<=aI cs:=j7 λ_ hx=>qg (Cj hx)
def Qa{sz:Nat}:∀{xs:aA}{i:Nat}{x:V},(∀y:V,y∈xs->y.cells.length=sz)->xs[i]?=some x->∀j y,x.cells[j]?=some y->(q9 xs)[i * sz+j]?=some y
 | [],i,x,_,h,_,_,_=>by simp at h
 | z::xs,0,x,hs,h,j,y,hy=>by
  simp at h;subst h;simp only[q9,Fb,Nat.zero_mul,cK];rw[mz (eE.1 hy).1];exact hy
 | z::xs,i+1,x,hs,h,j,y,hy=>by
  have hz:=hs z (eS ..);simp only[q9,Fb];rw[oe (by rw[hz,uS];omega),hz]
  have:=Qa (xs:=xs) (i:=i) (λy hy=>hs y (dB _ hy)) (by simpa using h) j y hy
  have e:(i+1) * sz+j - sz=i * sz+j:=by rw[uS];omega
  rw[e];exact this
def aQ.elem{sz:Nat}{xs:aA}{ow:Own}{c o len cap:Nat}(h:aQ g (.sl sz xs ow) (.slice (some ⟨c,o,none⟩) len cap)){i:Nat}{x:V}(hx:xs[i]?=some x) :
  aQ g (.vp x.cells) (.pointer (some ⟨c,o+i * sz,none⟩)):=by
 cases h with
 | sl f h1 h2 h3 h4 h5 h6 =>
  have cG:xs≠[]:=by rintro rfl;simp at hx
  have he:=h3 cG;cases he;refine .vp (λj=>f (i * sz+j)) (λj y hy=>h4 _ _ (Qa h1 hx j y hy)) (λj y hy=>?_) (λj y hy=>h6 _ _ (Qa h1 hx j y hy));rw[cU];exact h5 _ _ (Qa h1 hx j y hy)
def aQ.Dy{sz:Nat}{xs:aA}{ow:Own}{cv:aS}(h:aQ g (.sl sz xs ow) cv):∃ad cap,cv=.slice ad xs.length cap/\xs.length<=cap/\(xs≠[]->∃c o,ad=some ⟨c,o,none⟩):=by
 cases h with
 | sl f h1 h2 h3=>exact⟨_,_,rfl,h2,λcG=>⟨_,_,h3 cG⟩⟩
def xY{t e:aq}{c o len cap sz:Nat}{k:IntKind}{i:Int}(ht:P.underlying t=some (.slice e))(hs:jh P e=some sz)(h0:0<=i)(hi:i<len)(w:aK) :
  (Instr.indexAt t (.slice (some ⟨c,o,none⟩) len cap) (.int k i)).run P w=.ok (.pointer (some ⟨c,o+i.toNat * sz,none⟩)) w:=by
 unfold Instr.indexAt;simp[asIntOf,run_underlying ht,h0,hi,kA hs,Addr.add_lit]
def yW{t e:aq}{c o n sz:Nat}{k:IntKind}{i:Int}(ht:P.underlying t=some (.array n e))(hs:jh P e=some sz)(h0:0<=i)(hi:i<n)(w:aK) :
  (Instr.indexAt t (.pointer (some ⟨c,o,none⟩)) (.int k i)).run P w=.ok (.pointer (some ⟨c,o+i.toNat * sz,none⟩)) w:=by
 unfold Instr.indexAt;simp[asIntOf,run_underlying ht,h0,hi,kA hs,Addr.add_lit,Instr.sureAddr]
def jB{sz:Nat}:∀{xs:aA},(∀y:V,y∈xs->y.cells.length=sz)->(q9 xs).length=xs.length * sz
 | [],_=>by simp[q9]
 | z::xs,hs=>by
  have:=jB (xs:=xs) λy hy=>hs y (dB _ hy);simp only[q9,Fb,bY,bq,hs z (eS ..)] at *;rw[this,uS];omega
def XD(xs ys:aA):q9 (xs++ys)=q9 xs++q9 ys:=by simp[q9]
def xd{sz:Nat}{xs:aA}(hs:∀y:V,y∈xs->y.cells.length=sz){b c j:Nat}{y:V}(h:(q9 ((xs.take b).drop c))[j]?=some y):(q9 xs)[c * sz+j]?=some y:=by
 have h1:(q9 (xs.take b))[c * sz+j]?=some y:=by
  have hc:c<=(xs.take b).length:=by
   rcases lP (xs.take b).length c with bD|Du
   ·rw[List.drop_eq_nil_of_le (by omega)] at h;simp[q9] at h
   ·exact Du
  have e:q9 (xs.take b)=q9 ((xs.take b).take c)++q9 ((xs.take b).drop c):=by rw[<- XD,FO]
  have hl:(q9 ((xs.take b).take c)).length=c * sz:=by
   rw[jB λy hy=>hs y (CB (CB hy)),Bb,Nat.min_eq_left hc]
  rw[e,oe (by omega),hl,P2]
  exact h
 have e:q9 xs=q9 (xs.take b)++q9 (xs.drop b):=by rw[<- XD,FO]
 rw[e,mz (eE.1 h1).1];exact h1
def zgy{t:aq}{x v:V}{lo hi:cP}{cx:aS}{o5 Fk:Option aS}{n:Nat}(h:yK P t x lo hi=some v)(hx:aQ g x cx)(mg:HV g lo o5)(Bc:HV g hi Fk)(ht:x.top<=n)(w:aK) :
  LX P g n w (Instr.sliceAt t cx o5 Fk none) v:=by
 simp only[yK,Option.bind_eq_bind,fJ] at h;obtain⟨ds,hd,h⟩:=h;have hu:=run_underlying hd w;split at h
 ·rename_i l;simp only[fJ] at h;obtain⟨b,hb,c,hc,h⟩:=h;split at h<;>simp only[aR,reduceCtorEq] at h;rename_i hle;subst h;cases hx with
  | str h1 =>
   refine⟨.string (bytes ((l.take b).drop c)),?_,.str λy hy=>h1 y (CB (Cj hy)),ga _,λ_ _=>trivial⟩;have dK:=P_ (P:=P) (isSlice:=false) mg Bc hb hc hle.1 hle.2 (ek _) w;rw[<- we l] at dK;simp[Instr.sliceAt,hu,Instr.slice,dK,zgh]
 ·rename_i e sz xs ow;simp only[fJ] at h;obtain⟨b,hb,c,hc,m,hm,h⟩:=h;split at h<;>simp only[aR,reduceCtorEq] at h;rename_i hle;obtain⟨Bx,Qb,rfl⟩:=hle;subst h;cases hx with
  | sl f h1 h2 h3 h4 h5 h6 =>
   rename_i ad cap cb o;have dK:=P_ (P:=P) (isSlice:=true) mg Bc hb hc Bx Qb h2 w;have hlen:((xs.take b).drop c).length=b - c:=by simp;omega
   have cG:(xs.take b).drop c≠[]->xs≠[]:=by rintro h rfl;simp at h
   refine⟨.slice (if cap=c then ad else ad.map (·.add (c * m))) (b - c) (cap - c),?_,?_,?_,λ_ _=>trivial⟩
   ·simp[Instr.sliceAt,hu,Instr.slice,dK,kA hm]
   ·rw[<- hlen];refine .sl (c:=cb) (o:=o+c * m) (λj=>f (c * m+j)) (λy hy=>h1 y (CB (Cj hy))) (by rw[hlen];omega) (λhn=>?_) (λj x hx=>h4 _ x (xd h1 hx)) (λj x hx=>?_) (λj x hx=>h6 _ x (xd h1 hx))
    ·have:0<b - c:=by rw[<- hlen];exact Kk.2 hn
     rw[if_neg (by omega),h3 (cG hn)]
     simp[Addr.add_lit]
    ·rw[cU];exact h5 _ x (xd h1 hx)
   ·exact cZ (j7 λy hy=>qg (CB (Cj hy))) ht
 next e=>simp only[fJ] at h;obtain⟨b,hb,c,hc,m,hm,h⟩:=h;split at h<;>simp only[aR,reduceCtorEq] at h;rename_i hle;obtain⟨rfl,rfl⟩:=hle;subst h;cases hx;have dK:=P_ (P:=P) (isSlice:=true) mg Bc hb hc (ek _) (ek _) (ek _) w;exact⟨.slice none 0 0,by simp[Instr.sliceAt,hu,Instr.slice,dK,kA hm],.aJ,ga _,λ_ _=>trivial⟩
 ·rename_i e bb off len cap;simp only[fJ] at h;obtain⟨b,hb,c,hc,m,hm,h⟩:=h;cases hx with
  | sr pF =>
   split at h
   ·rename_i hle;simp only[aR] at h;subst h;have dK:=XC (P:=P) (isSlice:=true) mg Bc hb hc hle.1 hle.2.1 w;refine⟨.slice (some ⟨g.bM bb,off+c * m,none⟩) (b - c) (cap - c),?_,.sr (by omega),ht,λ_ _=>trivial⟩
    have:¬cap=c:=by omega
    simp[Instr.sliceAt,hu,Instr.slice,dK,kA hm,this,Addr.add_lit]
   ·split at h<;>simp only[aR,reduceCtorEq] at h;rename_i hle;obtain⟨rfl,hle⟩:=hle;subst h;have dK:=XC (P:=P) (isSlice:=true) mg Bc hb hc (ek _) hle w;refine⟨_,by simp only[Instr.sliceAt,hu,Instr.slice,dK,kA hm,Sem.run_bind,Result.andThen_ok,Sem.run_pure];rfl,?_,ga _,λ_ _=>trivial⟩
    rw[Nat.sub_self];exact .sl (c:=0) (o:=0) (λ_=>.nilFunc) (λy hy=>by simp at hy) (ga _) (λhn=>absurd rfl hn) (λj x hx=>by simp[q9] at hx) (λj x hx=>by simp[q9] at hx) (λj x hx=>by simp[q9] at hx)
 ·cases h
def zmu{t:aq}{sz:Nat}{xs:aA}{ow:Own}{v:V}{lo:cP}{cx:aS}{o5:Option aS}{kh km:IntKind}{hh m:Int}{n:Nat}(h:yK P t (.sl sz xs ow) lo (some (.int kh hh))=some v)(hx:aQ g (.sl sz xs ow) cx)(mg:HV g lo o5)(hm:hh<=m)(iL:m<=xs.length)
  (ht:(V.sl sz xs ow).top<=n) (w:aK):LX P g n w (Instr.sliceAt t cx o5 (some (.int kh hh)) (some (.int km m))) v:=by
 simp only[yK,Option.bind_eq_bind,fJ] at h;obtain⟨ds,hd,h⟩:=h;have hu:=run_underlying hd w;cases ds<;>simp only[reduceCtorEq] at h;simp only[fJ] at h;obtain⟨b,hb,c,hc,m',IY,h⟩:=h;split at h<;>simp only[aR,reduceCtorEq] at h;rename_i hle;obtain⟨Bx,Qb,rfl⟩:=hle;subst h;simp only[kE] at hb;split at hb<;>simp only[aR,reduceCtorEq] at hb;rename_i h0;subst hb;cases hx with
 | sl f h1 h2 h3 h4 h5 h6 =>
  rename_i ad cap cb o;have dK:=zkp (P:=P) (isSlice:=true) (len:=xs.length) (cap:=cap) (k:=kh) (k':=km) mg hc h0 Bx hm (by omega) w
  have hlen:((xs.take hh.toNat).drop c).length=hh.toNat - c:=by simp;omega
  have cG:(xs.take hh.toNat).drop c≠[]->xs≠[]:=by rintro h rfl;simp at h
  refine⟨.slice (if m.toNat=c then ad else ad.map (·.add (c * m'))) (hh.toNat - c) (m.toNat - c),?_,?_,?_,λ_ _=>trivial⟩
  ·simp[Instr.sliceAt,hu,Instr.slice,dK,kA IY]
  ·rw[<- hlen];refine .sl (c:=cb) (o:=o+c * m') (λj=>f (c * m'+j)) (λy hy=>h1 y (CB (Cj hy))) (by rw[hlen];omega) (λhn=>?_) (λj x hx=>h4 _ x (xd h1 hx)) (λj x hx=>?_) (λj x hx=>h6 _ x (xd h1 hx))
   ·have:0<hh.toNat - c:=by rw[<- hlen];exact Kk.2 hn
    rw[if_neg (by omega),h3 (cG hn)]
    simp[Addr.add_lit]
   ·rw[cU];exact h5 _ x (xd h1 hx)
  ·exact cZ (j7 λy hy=>qg (CB (Cj hy))) ht
end
section
variable{P:aM}{B:eu}{g:Gh}{s:St}{a:Act}{w:aK}
def lg(_P:aM)(gl:Nat->Nat->cP)(g:Gh):Prop:=(∀k off v,gl k off=some v->∃cv,g.M k off=some cv/\aQ g v cv/\v.top=0) /\
 ∀k U j,gl k 0=some (.fq U (.obj j))->g.obj.lo (g.obj j).block/\∀k' U' j',gl k' 0=some (.fq U' (.obj j'))->g.obj j=g.obj j'->j=j'
def lg.le{gl:Nat->Nat->cP}{n:Nat}{g g':Gh}(hg:Gh.Le n g g')(h:lg P gl g):lg P gl g':=by
 refine⟨λk off v hv=>?_,λk U j hv=>?_⟩
 ·obtain⟨cv,h1,h2,h3⟩:=h.1 k off v hv;exact⟨cv,hg.M _ _ _ h1,h2.le hg (by omega),h3⟩
 ·rw[hg.obj];exact h.2 k U j hv
def yx(v:V):∀sz xs e,aT v≠.sl sz xs (.yes e):=by
 intro sz xs e;cases v<;>simp[aT]
def Qc(h:Rel B g s a w){b:Nat}{cs:aA}{t:aq}(hb:s.H.get b=some (.cells cs t)) :
  ∃arr,w.heap[g.bM b]?=some (.cells arr t (0,0))/\bN g cs arr.toList/\aI cs<=s.H.aj.length/\(∀(j:Nat)(x:V)(v:aS),cs[j]?=some x->arr[j]?=some v->c_ g s.H.aj.length w (.cell b j) x v/\LS g b j x v):=by
 simp only[Hp.get,zV] at hb;obtain⟨arr,h1,h2,h3⟩:=h.cN.ok b _ hb;have ht:=h.cN.aI b _ hb;refine⟨arr,h1,⟨by simpa using h2,λj x hx=>?_,λj x v hx hv=>(h3 j x v hx (by simpa using hv)).2.1⟩,ht,λj x v hx hv=>(h3 j x v hx hv).2.2⟩
 have hj:j<arr.size:=by rw[<- h2];exact(eE.1 hx).1
 exact(h3 j x arr[j] hx (FM hj)).1
def znI{w:aK}{e:aq}{sz c len cap:Nat}{vs:dY}(h:w.ownsRow 0 e sz (.slice (some ⟨c,0,none⟩) len cap) len vs){j:Nat}{v:aS}(hj:vs[j]?=some v):w.cell? ⟨c,j,none⟩=some v:=by
 obtain⟨_,h|⟨c',oM,cur,hv,_,hb,_,_,_,hx⟩⟩:=h
 ·cases h.1
 ·cases hv;refine(cell_of_row w c j cur e (0,0) hb).trans ?_;rw[<- hx,um] at hj;split at hj
  ·simpa using hj
  ·cases hj
def Ua(h:Rel B g s a w){b fE sz:Nat}{cs:aA}{e:aq}(hb:s.H.get b=some (.ul fE sz cs e)) :
  ∃c len cap vs,IP g s.H.aj.length w b fE sz cs e c len cap vs/\bN g cs vs/\aI cs<=s.H.aj.length:=by
 simp only[Hp.get,zV] at hb;obtain⟨c,len,cap,vs,hu⟩:=h.cN.ok b _ hb;have ht:=h.cN.aI b _ hb;refine⟨c,len,cap,vs,hu,⟨hu.len,λj x hx=>?_,λj x v hx hv=>(hu.cells j x v hx hv).2⟩,ht⟩;have hj:j<vs.length:=by rw[<- hu.len];exact(eE.1 hx).1
 exact(hu.cells j x vs[j] hx (mq hj)).1
def ziC(h:Rel B g s a w){gl:Nat->Nat->cP}(ez:lg P gl g){t:aq}{p v:V}{cp:aS}(hp:aQ g p cp)(Ks:p.top<=s.H.aj.length)(hv:qJ P s.H gl t p=some v) :
  ∃cv,(Instr.loadAt t cp).run P w=.ok cv w/\aQ g v cv/\v.top<=s.H.aj.length:=by
 simp only[qJ] at hv;split at hv
 ·rename_i b off;simp only[Option.bind_eq_bind,fJ] at hv;obtain⟨x,hx,hv⟩:=hv;split at hv<;>try (cases hv;done)
  rename_i cs ty;obtain⟨arr,h1,h2,h3,_⟩:=Qc h hx;cases hp;obtain⟨cv,c1,c2,c3⟩:=XB (P:=P) (w:=w) h2 (c:=g.bM b) (o:=0) (λj v hj=>by rw[cK,cell_of_row w _ j arr ty (0,0) h1];simpa using hj) hv
  rw[cK] at c1;exact⟨cv,by simpa[Instr.loadAt,Instr.sureAddr] using c1,c2,cZ c3 h3⟩
 ·rename_i cs;cases hp with
  | vp f h1 h2 h3 =>
   rename_i c o
   have ej:bN g cs ((List.range cs.length).map f):=⟨by simp,h1,λj x v hx hv=>by
    have hj:=(eE.1 hx).1;simp[hj] at hv;subst hv
    exact h3 j x hx⟩
   obtain⟨cv,c1,c2,c3⟩:=XB (P:=P) (w:=w) ej (c:=c) (o:=o) (λj v hj=>by
    have F1:j<cs.length:=by have:=(eE.1 hj).1;simpa using this
    have hx:cs[j]?=some cs[j]:=mq F1;have e:f j=v:=by simpa[F1] using hj
    rw[<- e]
    exact h.cN.mem _ _ _ (h2 j _ hx)) hv
   rw[cL] at c1;exact⟨cv,by simpa[Instr.loadAt,Instr.sureAddr] using c1,c2,cZ c3 (by simpa[V.top] using Ks)⟩
 ·rename_i b u k;simp only[Option.bind_eq_bind,fJ] at hv;obtain⟨x,hx,hv⟩:=hv;split at hv<;>try (cases hv;done)
  rename_i fE sz cs e;split at hv
  ·rename_i XF;have:=gy XF;subst this;obtain⟨c,len,cap,vs,hu,h2,h3⟩:=Ua h hx;cases hp with
   | gY k hh =>
    rw[hu.gC] at hh;cases hh;obtain⟨cv,c1,c2,c3⟩:=XB (P:=P) (w:=w) h2 (c:=c) (o:=0) (λj v hj=>by rw[cK];exact znI hu.row hj) hv
    exact⟨cv,by simpa[Instr.loadAt,Instr.sureAddr] using c1,c2,cZ c3 h3⟩
  ·cases hv
 ·rename_i k off;simp only[Option.bind_eq_bind,fJ] at hv;obtain⟨b,hb,hv⟩:=hv;split at hv
  ·cases hv
  ·rename_i dK;obtain⟨cv,c1,c2,c3⟩:=ez.1 k off v hv;cases hp;refine⟨cv,?_,c2,by omega⟩
   have hbf:b=false:=by simpa using dK
   subst hbf;simp[Instr.loadAt,Instr.sureAddr,loadVar,T' hb,h.cN.mem _ _ _ c1]
 ·cases hv
def zmv(l:bR)(i:Nat):(bytes l)[i]?=(l[i]?).map UInt8.ofNat:=by
 by_cases hi:i<l.length
 ·have h1:i<(bytes l).size:=by rw[we];exact hi
  rw[getElem?_pos (bytes l) i h1,mq hi];simp only[bG,aR];show(bytes l).data[i]=_;simp[bytes]
 ·rw[getElem?_neg (bytes l) i (by rw[we];exact hi),uj (by omega)]
  rfl
def zhn{t:aq}{l:bR}{k:IntKind}{i:Int}{b:Nat}(ht:P.underlying t=some .string)(hl:∀c:Nat,c∈l->c<256)(h0:¬i<0)(hb:l[i.toNat]?=some b)(w:aK) :
  (Instr.index t (.string (bytes l)) (.int k i)).run P w=.ok (.int .u8 b) w:=by
 have dK:b<256:=hl b (qI hb);have hi:0<=i:=by omega
 unfold Instr.index;simp[asIntOf,run_underlying ht,hi,zmv,hb,UInt8.toNat_ofNat',HS dK]
def zgi{t e:aq}{cs:aA}{arr:dI}{len n:Nat}{k:IntKind}{i:Int}{v:V}(ht:P.underlying t=some (.array len e))(hn:jh P e=some n)(hr:bN g cs arr.toList)(h0:0<=i)(hi:i<len)
  (hv:wk P e cs (i.toNat * n)=some v) (w:aK):∃cv,(Instr.index t (.agg arr) (.int k i)).run P w=.ok cv w/\aQ g v cv/\v.top<=aI cs:=by
 obtain⟨cv,c1,c2,c3,_⟩:=Od (P:=P) hr hv w;refine⟨cv,?_,c2,c3⟩;unfold Instr.index;simp[asIntOf,run_underlying ht,h0,hi,kA hn,c1]
def nL:∀{xs:aA}{l:bR},l_ xs=some l->∃ns:List Int,xs=ns.map (V.int .u8)/\l=ns.map λn=>n.toNat % 256
 | [],l,h=>by simp only[l_,aR] at h;subst h;exact⟨[],rfl,rfl⟩
 | x::xs,l,h=>by
  unfold l_ at h;split at h
  next e=>cases e
  next n r e=>cases e;simp only[l8] at h;obtain⟨l',hl,rfl⟩:=h;obtain⟨ns,rfl,rfl⟩:=nL hl;exact⟨n::ns,rfl,rfl⟩
  ·cases h
def si:∀(ns:List Int)(l:bR),ns.foldl (λr n=>r.push (UInt8.ofNat n.toNat)) (bytes l)=bytes (l++ns.map λn=>n.toNat % 256)
 | [],l=>by simp
 | n::ns,l=>by
  have e:(bytes l).push (UInt8.ofNat n.toNat)=bytes (l++[n.toNat % 256]):=by
   apply ByteArray.ext;have:UInt8.ofNat (n.toNat % 256)=UInt8.ofNat n.toNat:=by
    apply UInt8.toNat_inj.1;simp[UInt8.toNat_ofNat']
   simp[bytes,ByteArray.push,this]
  simp only[List.foldl_cons,e,si ns,bW,b_,List.singleton_append]
def zfc{xs:aA}{ow:Own}{cx:aS}{l:bR}(h:l_ xs=some l)(hx:aQ g (.sl 1 xs ow) cx)(eL:∀c o u,g.M c o=some u->w.cell? ⟨c,o,none⟩=some u) :
  (Conv.bytesToString cx).run P w=.ok (.string (bytes l)) w/\∀b:Nat,b∈l->b<256:=by
 obtain⟨ns,rfl,rfl⟩:=nL h;refine⟨?_,λb hb=>?_⟩
 ·cases hx with
  | sl f h1 h2 h3 h4 h5 h6 =>
   rename_i ad cap c o;cases ad with
   | none =>
    have:ns=[]:=by
     cases ns with
     | nil=>rfl
     | cons n ns=>have:=h3 (by simp);cases this
    subst this;rfl
   | some ad =>
    have mO:q9 (ns.map (V.int .u8))=ns.map (V.int .u8):=by
     clear h h1 h2 h3 h4 h5 h6
     induction ns with
     | nil=>rfl
     | cons n ns ih=>simp only[q9,bW,Fb,V.cells] at *;rw[ih];rfl
    have hl:(loadCells ad (ns.map (V.int .u8)).length).run P w=.ok (ns.map (Value.int .u8)).toArray w:=by
     have:=run_loadCells_list (P:=P) w ad (ns.map (Value.int .u8)) (λj v hj=>by
      simp only[mS,l8] at hj;obtain⟨n,hn,rfl⟩:=hj;have mC:(q9 (ns.map (V.int .u8)))[j]?=some (.int .u8 n):=by rw[mO];simp[hn]
      have cG:ns.map (V.int .u8)≠[]:=by rintro e;simp at e;subst e;simp at hn
      have e:=h3 cG;cases e;rw[Addr.add_lit];have h7:=h6 j _ mC;have h8:=eL _ _ _ (h5 j _ mC);generalize f j=u at h7 h8;cases h7
      exact h8)
     simpa using this
    rw[run_bytesToString w ad _ cap ns hl];have:=si ns [];have e0:bytes []=ByteArray.empty:=rfl;rw[e0] at this;rw[this];rfl
 ·obtain⟨n,_,rfl⟩:=ni.1 hb;omega
def znJ{src dst:aq}{x v:V}{cx:aS}{n:Nat}(h:vw P src dst x=some v)(hx:aQ g x cx)(CH:∀s,x≠.str s\/P.underlying dst=some .string)(eL:∀c o u,g.M c o=some u->w.cell? ⟨c,o,none⟩=some u):LX P g n w (convert src dst cx) v:=by
 simp only[vw,Option.bind_eq_bind,fJ] at h;obtain⟨ds,hs,dd,hd,h⟩:=h;have CI:=run_underlying hs w;have XG:=run_underlying hd w;split at h
 ·simp only[aR] at h;subst h;cases hx;exact⟨.int _ _,by simp[convert,CI,XG,Conv.intToInt],.int _ _,ga _,λ_ _=>trivial⟩
 ·rename_i k m;simp only[aR] at h;subst h;cases hx;have e:Utf8.encode m=bytes ((Utf8.encode m).data.toList.map UInt8.toNat):=by
   apply ByteArray.ext;simp[bytes,Function.comp_def]
  refine⟨.string (bytes ((Utf8.encode m).data.toList.map UInt8.toNat)),by rw[<- e];simp[convert,CI,XG,Conv.intToString],.str λb hb=>?_,ga _,λ_ _=>trivial⟩
  obtain⟨c,_,rfl⟩:=ni.1 hb;exact c.toNat_lt
 ·simp only[aR] at h;subst h;cases hx with
  | str h1=>exact⟨_,by simp[convert,CI,XG],.str h1,ga _,λ_ _=>trivial⟩
 ·rename_i e;simp only[fJ] at h;obtain⟨d8,h8,h⟩:=h;split at h<;>simp only[aR,reduceCtorEq] at h;subst h;cases hx;refine⟨.string (bytes []),?_,.str (by simp),ga _,λ_ _=>trivial⟩
  rw[run_convert_bytes_string w src dst e _ _ _ hs h8 hd];rfl
 ·rename_i e xs ow;simp only[fJ] at h;obtain⟨d8,h8,h⟩:=h;split at h<;>try (cases h;done)
  simp only[l8] at h;obtain⟨l,hl,rfl⟩:=h;obtain⟨ad,cap,rfl,_,_⟩:=hx.Dy;obtain⟨c1,c2⟩:=zfc (P:=P) hl hx eL;refine⟨.string (bytes l),?_,.str c2,ga _,λ_ _=>trivial⟩;rw[run_convert_bytes_string w src dst e _ _ _ hs h8 hd];exact c1
 ·rename_i l _ _;rcases CH _ with hn|hn
  ·exact absurd rfl hn
  ·rw[hd] at hn;cases hn
 ·cases h
def Of{t:aq}{v:V}(h:kf P t=some v)(w:aK):∃cv,(zeroValue t).run P w=.ok cv w/\aQ g v cv/\v.top=0/\(∀k l,c_ g k w l v cv)/\(P.info? t).bind (·.zero)=some cv:=by
 simp only[kf,fJ] at h;obtain⟨i,hi,z,hz,hv⟩:=h;obtain⟨h1,h2⟩:=XA g z v hv;refine⟨z,?_,h1,h2,λk l=>zgx hv,by simp[hi,hz]⟩
 simp[zeroValue,typeInfo,hi,hz]
end
section
variable{P:aM}{B:eu}{g:Gh}{s:St}{a:Act}{w:aK}
def LY(P:aM)(B:eu)(s:St)(a:Act)(w:aK)(_g:Gh)(o:Oper)(v:V):Prop :=
 ∃g' cv w',(execOp a.eval o).run P w=.ok (.value cv) w'/\Ew B g' s a w' o.dst v cv
def yy(h:Rel B g s a w){o:Oper}{m:Sem aS}{v:V}(hm:LX P g s.H.aj.length w m v)(he:execOp a.eval o=(do pure (.value (<- m)))):LY P B s a w g o v:=by
 obtain⟨cv,h1,h2,h3,h4⟩:=hm;exact⟨g,cv,w,by rw[he];simp[h1],⟨h,h2,λ_ _=>h4 _ _,h3⟩⟩
def Ub(h:Rel B g s a w):∀{xs:List aO}{vs:aA},aL s.env xs=some vs ->
  vs.length=xs.length/\(∀(j:Nat)(x:V)(v:aS),vs[j]?=some x->(xs.map a.eval)[j]?=some v->aQ g x v)/\aI vs<=s.H.aj.length/\∀x∈vs,∀sz ys e,x≠.sl sz ys (.yes e)
 | [],vs,hp=>by simp only[aL,aR] at hp;subst hp;exact⟨rfl,λj x v hx=>by simp at hx,ga _,λx hx=>by simp at hx⟩
 | x::xs,vs,hp=>by
  simp only[aL,qd] at hp;split at hp
  ·cases hp
  ·rename_i v hv;split at hp<;>simp only[aR,reduceCtorEq] at hp;rename_i ys ua;subst hp;obtain⟨h1,h2,h3⟩:=qZ h hv;obtain⟨i1,i2,i3,i4⟩:=Ub h ua;refine⟨by simp[i1],λj y u hy hu=>?_,by simp only[aI];exact uu.2 ⟨h2,i3⟩,λy hy=>?_⟩
   ·cases j with
    | zero=>simp at hy hu;subst hy;subst hu;exact h1
    | succ j=>simp at hy;exact i2 j y u hy (by simpa using hu)
   ·rcases dh.1 hy with rfl|hy
    ·intro sz ys e he;subst he;cases x with
     | tmp t =>
      simp only[aB] at hv;split at hv<;>simp only[aR,reduceCtorEq] at hv;exact yx _ _ _ _ hv
     | const c =>
      simp only[aB] at hv;unfold aH at hv;split at hv<;>try (simp at hv;done)
      all_goals (simp only[fJ] at hv;obtain⟨l,_,hv⟩:=hv;split at hv<;>simp at hv)
     | global k=>simp[aB] at hv
     | func f=>simp[aB] at hv
    ·exact i4 y hy
structure nM(g:Gh)(es:List (V×V))(en:List MapEntry):Prop where
 len:es.length=en.length
 rel:∀(j:Nat)(x:V×V)(e:MapEntry),es[j]?=some x->en[j]?=some e->aQ g x.1 e.key/\aQ g x.2 e.val
def nM.tail{x:V×V}{es:List (V×V)}{e:MapEntry}{en:List MapEntry}(h:nM g (x::es) (e::en)):nM g es en/\aQ g x.1 e.key/\aQ g x.2 e.val :=
 ⟨⟨by have:=h.len;simpa using this,λj y f hy hf=>h.rel (j+1) y f (by simpa using hy) (by simpa using hf)⟩,h.rel 0 x e (by simp) (by simp)⟩
def xe{kd:TypeDesc}{k x:V}{ck cx:aS}{b:Bool}(hk:Fe kd k=true)(h:N5 k x=some b)(h1:aQ g k ck)(h2:aQ g x cx):Instr.sameNow kd ck cx=some b:=by
 unfold N5 at h;split at h
 ·split at h<;>simp only[aR,reduceCtorEq] at h;rename_i e;subst h;subst e;cases h1;cases h2;cases kd<;>simp[Fe] at hk;simp[Instr.sameNow]
 ·simp only[aR] at h;subst h;cases h1 with
  | str b1=>cases h2 with
   | str b2 =>
    cases kd<;>simp[Fe] at hk;simp only[Instr.sameNow,beq_toListBytes,vO,pE _ _ b1 b2]
 ·simp only[aR] at h;subst h;cases h1;cases h2;cases kd<;>simp[Fe] at hk;simp[Instr.sameNow]
 ·cases h
def ziD{kd:TypeDesc}{k:V}{ck:aS}(hk:Fe kd k=true)(h1:aQ g k ck):∀{es:List (V×V)}{en:List MapEntry}(i:Nat){r:cP},nM g es en->N6 k es=some r ->
  ∃r',Instr.findNow kd ck en i=some r'/\match r,r' with
   | none,none=>True
   | some v,some (_,cv)=>aQ g v cv/\∃x∈es,x.2=v
   | _,_=>False
 | [],[],i,r,_,h=>by simp only[N6,aR] at h;subst h;exact⟨none,rfl,trivial⟩
 | [],_::_,i,r,hr,h=>by have:=hr.len;simp at this
 | _::_,[],i,r,hr,h=>by have:=hr.len;simp at this
 | (x,v)::es,e::en,i,r,hr,h=>by
  obtain⟨ht,hx,hv⟩:=hr.tail;simp only[N6] at h;split at h
  next Cn=>simp only[aR] at h;subst h;refine⟨some (i,e.val),?_,hv,_,eS ..,rfl⟩;simp[Instr.findNow,xe hk Cn h1 hx]
  ·rename_i Cn;obtain⟨r',h3,h4⟩:=ziD hk h1 (i+1) ht h;refine⟨r',by simp[Instr.findNow,xe hk Cn h1 hx,h3],?_⟩
   cases r<;>cases r'
   ·trivial
   ·exact h4
   ·exact h4
   ·obtain⟨h5,y,hy,Og⟩:=h4;exact⟨h5,y,dB _ hy,Og⟩
  ·cases h
def zho(n:Nat){kt:aq}{kd:TypeDesc}(As:P.underlying kt=some kd){k:V}{ck:aS}(hk:Fe kd k=true)(h1:aQ g k ck)(e:Bool)(w:aK):(Instr.checkKey e (n+1) kt ck).run P w=.ok () w:=by
 have hu:=run_underlying As w;cases kd<;>cases k<;>simp[Fe] at hk
 all_goals (cases h1;simp[Instr.checkKey,hu])
def zd7{kt:aq}{kd:TypeDesc}(As:P.underlying kt=some kd){k:V}{ck:aS}(hk:Fe kd k=true)(h1:aQ g k ck)(e:Bool)(w:aK):(Instr.checkKey e 10000 kt ck).run P w=.ok () w :=
 zho 9999 As hk h1 e w
def XH(h:Rel B g s a w){b:Nat}{es:List (V×V)}(hb:s.H.get b=some (.map es)) :
  ∃en ck,w.heap[g.bM b]?=some (.map en ck)/\nM g es en.toList/\aI (es.map (·.1))<=s.H.aj.length/\aI (es.map (·.2))<=s.H.aj.length:=by
 simp only[Hp.get,zV] at hb;obtain⟨en,ck,h1,h2,h3⟩:=h.cN.ok b _ hb;have ht:=uu.1 (show max (aI (es.map (·.1))) (aI (es.map (·.2)))<=_ from h.cN.aI b _ hb);exact⟨en,ck,h1,⟨by simpa using h2,λj x e hx he=>h3 j x e hx (by simpa using he)⟩,ht.1,ht.2⟩
def zmw(h:Rel B g s a w){t kt e:aq}{kd:TypeDesc}{m k v:V}{cm ck:aS}{es:List (V×V)}{b ok:Bool}(ht:P.underlying t=some (.map kt e))(As:P.underlying kt=some kd)(hk:Fe kd k=true)
  (hm:aQ g m cm) (hkr:aQ g k ck) (Co:Xt s.H m=some es) (hf:Xu P e k es=some (v,b)) :
  LX P g s.H.aj.length w (Instr.lookup t cm ck ok) (if ok then .bz [aT v,.bool b] else aT v):=by
 have main:∃en:List MapEntry,nM g es en/\aI (es.map (·.2))<=s.H.aj.length/\∀(K:Array MapEntry->Sem aS),(do
   let es <- match cm with
    | .map none=>pure #[]
    | .map (some r)=>do
     let .map es _ <- getObj r|stuck "Lookup: map expected"
     pure es
    | _=>stuck "Lookup: map expected"
   K es:Sem aS).run P w=(K en.toArray).run P w:=by
  unfold Xt at Co;split at Co
  ·simp only[aR] at Co;subst Co;cases hm;exact⟨[],⟨rfl,λj x e hx=>by simp at hx⟩,ga _,λK=>by simp⟩
  next bb=>split at Co<;>simp only[aR,reduceCtorEq] at Co;rename_i ux hb;subst Co;cases hm;obtain⟨en,clock,h1,h2,_,h3⟩:=XH h hb;exact⟨en.toList,h2,h3,λK=>by simp[getObj,Sem.run,h1]⟩
  ·cases Co
 obtain⟨en,LZ,pG,cX⟩:=main
 have CJ:∃cv,∀(K:aS×Bool->Sem aS),(do
   Instr.checkKey en.toArray.isEmpty 10000 kt ck
   let x <- match <- Instr.findKey kt ck en.toArray.toList with
    | some (_,v)=>pure (v,true)
    | none=>pure (<- zeroValue e,false)
   K x:Sem aS).run P w=(K (cv,b)).run P w/\aQ g v cv/\v.top<=s.H.aj.length:=by
  unfold Xu at hf;cases Oh:N6 k es with
  | none=>rw[Oh] at hf;cases hf
  | some r =>
   obtain⟨r',h1,h2⟩:=ziD hk hkr 0 LZ Oh;have HW:=λb=>zd7 (P:=P) As hk hkr b w;cases r with
   | some v' =>
    rw[Oh] at hf;simp only[aR,bS] at hf;obtain⟨rfl,rfl⟩:=hf;cases r' with
    | none=>exact h2.elim
    | some ic =>
     obtain⟨i,cv⟩:=ic;obtain⟨h3,y,hy,Og⟩:=h2;refine⟨cv,λK=>⟨?_,h3,?_⟩⟩
     ·simp[HW,Instr.findKey,run_underlying As,h1]
     ·rw[<- Og];exact cZ (qg (HQ (f:=(·.2)) hy)) pG
   | none =>
    rw[Oh] at hf;simp only[l8,bS] at hf;obtain⟨z,hz,rfl,rfl⟩:=hf;cases r' with
    | some ic=>obtain⟨i,cv⟩:=ic;exact h2.elim
    | none =>
     obtain⟨cz,z1,z2,z3,_⟩:=Of (g:=g) hz w;refine⟨cz,λK=>⟨?_,z2,by omega⟩⟩
     simp[HW,Instr.findKey,run_underlying As,h1,z1]
 obtain⟨cv,CJ⟩:=CJ;have hrel:=(CJ (λ_=>pure .nilFunc)).2;refine⟨if ok then .tuple #[cv,.bool b] else cv,?_,?_,?_,λk l=>zlk ?_⟩
 ·unfold Instr.lookup;simp only[Sem.run_bind,run_underlying ht,Result.andThen_ok]
  have e1:=cX (λes=>do
   Instr.checkKey es.isEmpty 10000 kt ck
   let (v,ok') <- match <- Instr.findKey kt ck es.toList with
    | some (_,v)=>pure (v,true)
    | none=>pure (<- zeroValue e,false)
   pure (if ok then .tuple #[v,.bool ok'] else v))
  have e2:=(CJ (λx=>pure (if ok then .tuple #[x.1,.bool x.2] else x.1))).1
  simp only[Sem.run_bind] at e1;refine Eq.trans e1 ?_;refine Eq.trans ?_ e2;simp only[Sem.run_bind]
 ·cases ok with
  | true =>
   refine .bz rfl λj x u hx hu=>?_;rcases j with _|_|j
   ·simp at hx hu;subst hx;subst hu;exact hrel.1.aT
   ·simp at hx hu;subst hx;subst hu;exact .bool b
   ·simp at hx
  | false=>exact hrel.1.aT
 ·cases ok with
  | true=>simp only[aU,V.top,aI,dx];have:=hrel.2;omega
  | false=>simp only[dF,bZ,dx];exact hrel.2
 ·cases ok with
  | true=>intro sz xs e he;simp at he
  | false=>intro sz xs e he;exact yx v sz xs e (by simpa using he)
end
section
variable{P:aM}{B:eu}{g:Gh}{s:St}{a:Act}{w:aK}
def Oi{w w':aK}{c:Nat}(hh:w'.heap[c]?=w.heap[c]?)(o:Nat):w'.cell? ⟨c,o,none⟩=w.cell? ⟨c,o,none⟩:=by
 simp[World.cell?,hh]
def vP{c o:Nat}{v:aS}(h:w.cell? ⟨c,o,none⟩=some v):c<w.heap.size:=by
 rcases lP c w.heap.size with h1|h1
 ·exact h1
 ·simp[World.cell?,Array.getElem?_eq_none h1] at h
def Gh.row(g:Gh)(N:Nat)(vs:dY)(l:Option Loc):Gh :=
 {g with M:=λc o=>if c=N then vs[o]? else g.M c o,own:=λc=>if c=N then l else g.own c }
def Rel.settle(h:Rel B g s a w)(vs:dY)(l:Option Loc){w':aK}(gp:w.heap.size<w'.heap.size)(hold:∀c,c<w.heap.size->w'.heap[c]?=w.heap[c]?)
  (eC:∀o v,vs[o]?=some v->w'.cell? ⟨w.heap.size,o,none⟩=some v) (uy:w'.os=w.os) (ht:w'.tape=w.tape) (lH:w'.output=w.output) :
  Rel B (g.row w.heap.size vs l) s a w':=by
 have hM:∀c o v,g.M c o=some v->c<w.heap.size:=λc o v hv=>vP (h.cN.mem c o v hv);refine h.iB (b0:=none) (l0:=none) ?_ (ek _) (λ_ _ _=>rfl) (λb x hb hx=>?_) (λb h1 h2=>?_) (λb b' h1 h2=>?_) (λc o v hv=>?_) (λc l' hc=>?_) (λb j e=>by cases e) rfl rfl
  (λt x hx=>⟨x,hx,.inl ⟨rfl,λe=>by cases e⟩⟩) h.aW h.gR h.nw (λ_ e=>by cases e)
 ·refine⟨⟨λc o v hv=>?_,λ_ _=>rfl,rfl,λ_ _ _ _ e=>e⟩,λc hc _ _=>hold c hc,λc hc _=>?_,λc hc _ o=>?_,Nat.le_of_lt gp,λ_ _ _=>rfl,λl' lD=>(by cases lD),λb hb=>(by cases hb),λ_ _ _ _=>rfl,uy,ht,lH⟩
  ·have:=hM c o v hv;simp only[Gh.row];rw[if_neg (by omega)]
   exact hv
  ·simp only[Gh.row];rw[if_neg (by omega)]
  ·simp only[Gh.row];rw[if_neg (by omega)]
 ·rcases hb with hb|hb
  ·cases hb
  ·have:=(eE.1 hx).1;omega
 ·omega
 ·omega
 ·simp only[Gh.row] at hv;split at hv
  next e=>subst e;exact eC o v hv
  ·rw[Oi (hold c (hM c o v hv))];exact h.cN.mem c o v hv
 ·simp only[Gh.row] at hc;split at hc
  next e=>omega
  ·exact Nat.lt_trans (h.cN.eK c l' hc) gp
def aQ.settled{n sz cap:Nat}{xs:aA}{vs:dY}{ow:Own}{N:Nat}{l:Option Loc}(hx:∀y:V,y∈xs->y.cells.length=sz)(pF:xs.length<=cap)(ej:bN g (q9 xs) vs)(ht:aI (q9 xs)<=n)
  (hle:Gh.Le n g (g.row N vs l)):aQ (g.row N vs l) (.sl sz xs ow) (.slice (some ⟨N,0,none⟩) xs.length cap):=by
 refine .sl (c:=N) (o:=0) (λj=>vs.getD j .nilFunc) hx pF (λ_=>rfl) ej.one (λj x hj=>?_) (λj x hj=>?_)
 ·obtain⟨v,hv,_⟩:=ej.get hj;simp[Gh.row,hv,List.getD]
 ·obtain⟨v,hv,hr⟩:=ej.get hj;have:=hr.le hle (cZ (qg (qI hj)) ht);simpa[List.getD,hv] using this
end
section
variable{P:aM}{B:eu}{g:Gh}{s:St}{a:Act}{w:aK}
def IZ(h:Rel B g s a w){x:Option aO}{v:cP}(hv:dU s.env x=some v):HV g v (x.map a.eval):=by
 cases x with
 | none=>simp only[dU,aR] at hv;subst hv;trivial
 | some x =>
  simp only[dU] at hv;split at hv<;>simp only[aR,reduceCtorEq] at hv;rename_i u hu;subst hv;exact(qZ h hu).1
def ziE(h:Rel B g s a w){x:aO}{u v:V}(hu:aB s.env x=some u)
  (hv:aG u=some v) :
  ∃cv,aQ g v cv/\v.top<=s.H.aj.length/\(∀m l,c_ g m w l v cv)/\cv=a.eval x/\((∃p,cv=.pointer (some p))\/(∃f fa fc,cv=.func (.func f) fa fc)\/∃t u,cv=.iface t u):=by
 obtain⟨h1,h2,h3⟩:=qZ h hu;generalize a.eval x=cv at h1 h3;unfold aG at hv;split at hv<;>simp only[aR,reduceCtorEq] at hv
 all_goals
  subst hv;refine⟨cv,h1,h2,h3,rfl,?_⟩;cases h1
  first
   |exact .inl ⟨_,rfl⟩
   |exact .inr (.inl ⟨_,_,_,rfl⟩)
   |exact .inr (.inr ⟨_,_,rfl⟩)
def bN.set{cs:aA}{vs:dY}(h:bN g cs vs){x:V}{v:aS}(h1:x.one=true)(hr:aQ g x v)(i:Nat):bN g (cs.set i x) (vs.set i v):=by
 refine⟨by simp[h.len],λj y hy=>?_,λj y u hy hu=>?_⟩
 ·rw[s7] at hy;split at hy
  ·split at hy<;>simp only[aR,reduceCtorEq] at hy;subst hy;exact h1
  ·exact h.one j y hy
 ·rw[s7] at hy hu;split at hy
  ·rename_i e;split at hy<;>simp only[aR,reduceCtorEq] at hy;rename_i hi;rw[if_pos e,if_pos (by rw[<- h.len];exact hi)] at hu
   simp only[aR] at hu;subst hy;subst hu;exact hr
  next e=>rw[if_neg e] at hu;exact h.rel j y u hy hu
def bN.tail{x:V}{xs:aA}{u:aS}{us:dY}(h:bN g (x::xs) (u::us)):x.one=true/\aQ g x u/\bN g xs us :=
 ⟨h.one 0 x rfl,h.rel 0 x u rfl rfl,⟨by have:=h.len;simpa using this,λj y hy=>h.one (j+1) y (by simpa using hy),λj y v hy hv=>h.rel (j+1) y v (by simpa using hy) (by simpa using hv)⟩⟩
def bN.store:∀{xs:aA}{us:dY}{cs:aA}{vs:dY}(off:Nat),bN g cs vs->bN g xs us->bN g (storeCells cs off xs) (storeCells vs off us)
 | [],[],_,_,_,h,_=>h
 | [],_::_,_,_,_,_,hx=>by have:=hx.len;simp at this
 | _::_,[],_,_,_,_,hx=>by have:=hx.len;simp at this
 | x::xs,u::us,cs,vs,off,h,hx=>by
  obtain⟨h1,h2,h3⟩:=hx.tail;exact bN.store (off+1) (h.set h1 h2 off) h3
def yz{v:V}{cv:aS}(hr:aQ g v cv)(hc:fH v=true):bN g v.cells cv.cells.toList:=by
 by_cases ha:∃cs,v=.agg cs
 ·obtain⟨cs,rfl⟩:=ha;obtain⟨arr,rfl,h⟩:=vN hr;exact h
 ·have h1:v.one=true:=by
   cases v<;>first
    |rfl
    |(simp[fH] at hc;done)
    |exact absurd ⟨_,rfl⟩ ha
  have e1:v.cells=[v]:=by
   cases v<;>first
    |rfl
    |exact absurd ⟨_,rfl⟩ ha
  have e2:cv.cells.toList=[cv]:=by
   have:=hr.pg h1;cases cv<;>first
    |rfl
    |(simp[Value.oneCell'] at this)
  rw[e1,e2];refine⟨rfl,λj x hx=>?_,λj x u hx hu=>?_⟩
  ·cases j with
   | zero=>simp at hx;subst hx;exact h1
   | succ j=>simp at hx
  ·cases j with
   | zero=>simp at hx hu;subst hx;subst hu;exact hr
   | succ j=>simp at hx
def XI(off:Nat):∀(l:dY)(k:Nat)(arr:dI),((l.zipIdx k).foldl (λcs (p:aS×Nat)=>cs.setIfInBounds (off+p.2) p.1) arr).toList=storeCells arr.toList (off+k) l
 | [],_,_=>rfl
 | x::l,k,arr=>by
  simp only[List.zipIdx_cons,List.foldl_cons];rw[XI off l (k+1) _];simp[storeCells,cU]
def kY{α:Type}:∀(vs:List α)(cs:List α)(off:Nat),(storeCells cs off vs).length=cs.length
 | [],_,_=>rfl
 | v::vs,cs,off=>by simp only[storeCells];rw[kY vs];simp
def XJ{cs:aA}{i:Nat}{x:V}{n:Nat}(h:aI cs<=n)(hx:x.top<=n):aI (cs.set i x)<=n :=
 j7 λy hy=>by
  rcases List.mem_or_eq_of_mem_set hy with hy|rfl
  ·exact cZ (qg hy) h
  ·exact hx
def yb{n:Nat}:∀{vs cs:aA}{off:Nat},aI cs<=n->aI vs<=n->aI (storeCells cs off vs)<=n
 | [],_,_,h,_=>h
 | v::vs,cs,off,h,hv=>by
  simp only[aI] at hv;have:=uu.1 hv;show aI (storeCells (cs.set off v) (off+1) vs)<=n;exact yb (cs:=cs.set off v) (XJ h this.1) this.2
def xf(v:V):aI v.cells<=v.top:=j7 λ_ hx=>T8 hx
def XK(h:Rel B g s a w){pA pC:Nat->Option (Nat×Nat)}(hp:∀i x,pA i=some x->pC i=some x):∀{parts:List (Nat×aO)}{cs cs':aA}{arr:dI},bN g cs arr.toList->aI cs<=s.H.aj.length ->
  xJ cs pA s.env parts=some cs'->∃iM,Instr.fill pC arr (parts.map λ(i,x)=>(i,a.eval x))=some iM/\bN g cs' iM.toList/\aI cs'<=s.H.aj.length
 | [],cs,cs',arr,hr,ht,hf=>by simp only[xJ,aR] at hf;subst hf;exact⟨arr,rfl,hr,ht⟩
 | (i,x)::parts,cs,cs',arr,hr,ht,hf=>by
  simp only[xJ,Option.bind_eq_bind,fJ] at hf;obtain⟨v,hv,⟨off,n⟩,oN,hf⟩:=hf;split at hf
  ·rename_i hc;simp only[cR,Nat.beq_eq,Nat.ble_eq] at hc;obtain⟨⟨o6,uV⟩,Cp⟩:=hc;obtain⟨h1,h2,h3⟩:=qZ h hv;have ej:=yz h1 o6;have gp:(a.eval x).cells.size=n:=by rw[<- uV,ej.len];simp
   have ov:arr.size=cs.length:=by have:=hr.len;simp at this;exact this.symm
   have F2:((a.eval x).cells.zipIdx.foldl (λcs (p:aS×Nat)=>cs.setIfInBounds (off+p.2) p.1) arr).toList=storeCells arr.toList off (a.eval x).cells.toList:=by
    rw[<- Array.foldl_toList,Array.toList_zipIdx];have:=XI off (a.eval x).cells.toList 0 arr;simpa using this
   have eM:=hr.store off ej;rw[<- F2] at eM;obtain⟨iM,f1,f2,f3⟩:=XK h hp eM (yb ht (cZ (xf v) h2)) hf;refine⟨iM,?_,f2,f3⟩;simp only[bW,Instr.fill,hp i _ oN];have:¬(((a.eval x).cells.size≠n || off+(a.eval x).cells.size > arr.size)=true):=by
    rw[gp,ov];simp;exact Cp
   simp only[this];exact f1
  ·cases hf
def zmx(h:Rel B g s a w){t:aq}{parts:Array (Nat×aO)}{v:V}(hb:wx P t parts s.env=some v) :
  LX P g s.H.aj.length w (Instr.build t (parts.map λ(i,x)=>(i,a.eval x))) v:=by
 unfold wx at hb;split at hb
 ·cases hb
 ·rename_i z hz;split at hb
  ·cases hb
  ·rename_i dP;obtain⟨cz,z1,z2,z3,_,Oj⟩:=Of (g:=g) hz w;have ej:=yz z2 (by simpa using dP)
   have Kt:aI z.cells<=s.H.aj.length:=cZ (xf z) (by omega)
   simp only[fJ] at Oj;obtain⟨it,hit,hiz⟩:=Oj;have At:(parts.map λ(i,x)=>(i,a.eval x)).toList=parts.toList.map λ(i,x)=>(i,a.eval x):=by simp
   split at hb
   ·rename_i fs hd;split at hb
    ·rename_i ps Uc;simp only[l8] at hb;obtain⟨cs',hf,rfl⟩:=hb;obtain⟨iM,f1,f2,f3⟩:=XK h (pC:=λi=>ps.toArray[i]?) (λi x hx=>by rw[zV] at hx;simpa using hx) ej Kt hf
     refine⟨.agg iM,run_build w t _ iM ?_,f2.agg,f3,λ_ _=>trivial⟩;unfold P5 at Uc;rw[At];simp only[Program.built,hit,hd,hiz,Uc];exact f1
    ·cases hb
   ·rename_i n e hd;split at hb
    next ie hie=>simp only[l8] at hb;obtain⟨cs',hf,rfl⟩:=hb;obtain⟨iM,f1,f2,f3⟩:=XK h (pC:=λi=>some (i * ie.size,ie.size)) (λi x hx=>hx) ej Kt hf;refine⟨.agg iM,run_build w t _ iM ?_,f2.agg,f3,λ_ _=>trivial⟩;rw[At];simp only[Program.built,hit,hd,hiz,hie];exact f1
    ·cases hb
   ·cases hb
def wm{α:Type}:∀(new old pre post:List α),old.length=new.length->storeCells (pre++old++post) pre.length new=pre++new++post
 | [],old,pre,post,h=>by
  have:old=[]:=Kh h;subst this;rfl
 | v::new,[],pre,post,h=>by simp at h
 | v::new,x::old,pre,post,h=>by
  simp only[storeCells];have e:(pre++(x::old)++post).set pre.length v=(pre++[v])++old++post:=by
   simp[List.set_append_right]
  rw[e];have:=wm new old (pre++[v]) post (by simpa using h)
  simp only[bY,bq,List.length_nil,cK] at this;rw[this];simp
def ziF{n:Nat}{v:V}(hv:v.cells.length=n):∀{xs:aA}{i:Nat},(∀y:V,y∈xs->y.cells.length=n)->i<xs.length->q9 (xs.set i v)=storeCells (q9 xs) (i * n) v.cells
 | [],i,_,hi=>by simp at hi
 | x::xs,0,hs,_=>by
  have:=wm v.cells x.cells [] (q9 xs) (by rw[hs x (eS ..),hv])
  simp only[cq,List.length_nil] at this;simp only[q9,dJ,Fb,Nat.zero_mul] at *;exact this.symm
 | x::xs,i+1,hs,hi=>by
  have ih:=ziF hv (xs:=xs) (i:=i) (λy hy=>hs y (dB _ hy)) (by simpa using hi)
  have hx:=hs x (eS ..);simp only[q9,dM,Fb] at *;rw[ih];have shift:∀(l:aA)(r:aA)(k:Nat),x.cells++storeCells l k r=storeCells (x.cells++l) (n+k) r:=by
   intro l r
   induction r generalizing l with
   | nil=>intro k;rfl
   | cons y r ihr =>
    intro k;simp only[storeCells];rw[ihr (l.set k y) (k+1)];have e:(x.cells++l).set (n+k) y=x.cells++l.set k y:=by
     rw[List.set_append_right _ _ (by omega),hx,P2]
    rw[e];rfl
  rw[shift]
  congr 1
  rw[uS];omega
def wU{z:V}{n:Nat}(hz:z.cells.length=n):∀(len j:Nat),j<len * n->(q9 (List.replicate len z))[j]?=z.cells[j % n]?
 | 0,j,h=>by simp at h
 | k+1,j,h=>by
  have hn:0<n:=by
   rcases N3 n with h0|h0
   ·subst h0;simp at h
   ·exact h0
  simp only[List.replicate_succ,q9,Fb];rcases lP j n with h1|h1
  ·rw[mz (by omega),HS h1]
  ·rw[oe (by omega),hz]
   have:=wU hz k (j - n) (by rw[uS] at h;omega)
   simp only[q9] at this;rw[this,Nat.mod_eq_sub_mod h1]
def zll(h:Rel B g s a w){n len:Nat}:∀{parts:List (Nat×aO)}{xs Bd:aA}{arr:dI},xs.length=len->(∀y:V,y∈xs->y.cells.length=n)->bN g (q9 xs) arr.toList->aI xs<=s.H.aj.length ->
  CE n len s.env xs parts=some Bd->∃iM,Instr.fill (λi=>some (i * n,n)) arr (parts.map λ(i,x)=>(i,a.eval x))=some iM/\bN g (q9 Bd) iM.toList/\Bd.length=len/\(∀y:V,y∈Bd->y.cells.length=n)/\aI Bd<=s.H.aj.length
 | [],xs,Bd,arr,hl,hs,hr,ht,hf=>by simp only[CE,aR] at hf;subst hf;exact⟨arr,rfl,hr,hl,hs,ht⟩
 | (i,x)::parts,xs,Bd,arr,hl,hs,hr,ht,hf=>by
  simp only[CE,Option.bind_eq_bind,fJ,qd,fB] at hf;obtain⟨v,hv,hf⟩:=hf;split at hf
  ·rename_i hc;simp only[cR,Nat.beq_eq,Ep] at hc;obtain⟨⟨o6,uV⟩,Cp⟩:=hc;obtain⟨h1,h2,h3⟩:=qZ h hv;have ej:=yz h1 o6;have gp:(a.eval x).cells.size=n:=by rw[<- uV,ej.len];simp
   have ov:arr.size=len * n:=by
    have:=hr.len;rw[jB hs,hl] at this;simpa using this.symm
   have F2:((a.eval x).cells.zipIdx.foldl (λcs (p:aS×Nat)=>cs.setIfInBounds (i * n+p.2) p.1) arr).toList=storeCells arr.toList (i * n) (a.eval x).cells.toList:=by
    rw[<- Array.foldl_toList,Array.toList_zipIdx];have:=XI (i * n) (a.eval x).cells.toList 0 arr;simpa using this
   have eM:=hr.store (i * n) ej;rw[<- F2,<- ziF uV hs (by rw[hl];exact Cp)] at eM
   obtain⟨iM,f1,f2⟩:=zll h (xs:=xs.set i v) (by simpa using hl) (λy hy=>by
    rcases List.mem_or_eq_of_mem_set hy with hy|rfl
    ·exact hs y hy
    ·exact uV) eM (XJ ht h2) hf
   refine⟨iM,?_,f2⟩;simp only[bW,Instr.fill];have hle:i * n+n<=len * n:=by
    have:=Nat.mul_le_mul_right n (Nat.succ_le_of_lt Cp);rw[Nat.succ_mul] at this;exact this
   have:¬(((a.eval x).cells.size≠n || i * n+(a.eval x).cells.size > arr.size)=true):=by
    rw[gp,ov];simp;exact hle
   simp only[this];exact f1
  ·cases hf
def y4{xs:aA}:aI (q9 xs)<=aI xs:=j7 λ_ hx=>Xw hx
def zgj(h:Rel B g s a w){t e:aq}{len n:Nat}{parts:Array (Nat×aO)}{z:V}{xs:aA}(hd:P.underlying t=some (.slice e))(hn:jh P e=some n)(hz:kf P e=some z)
  (hc:(Nat.beq n 0 || Nat.blt 16777216 (len * n) || !Nat.beq z.cells.length n || !fH z)=false) (hx:CE n len s.env (List.replicate len z) parts.toList=some xs) {o:Oper} (ho:o.op=.buildSlice t len parts) :
  LY P B s a w g o (.sl n xs (.yes e)):=by
 simp only[LJ,Bool.not_eq_false'] at hc;obtain⟨⟨⟨c1,c2⟩,c3⟩,c4⟩:=hc;have uc:n≠0:=by intro e;subst e;simp at c1
 have XL:¬len * n > 16777216:=by
  intro bD;have:Nat.blt 16777216 (len * n)=true:=by rw[Ep];exact bD
  rw[this] at c2;cases c2
 have Qd:z.cells.length=n:=gy c3;obtain⟨cz,z1,z2,z3,_,_⟩:=Of (g:=g) hz w;have Dz:=yz z2 c4;have F3:cz.cells.size=n:=by rw[<- Qd,Dz.len];simp
 have lq:bN g (q9 (List.replicate len z)) ((Array.range (len * n)).map (λj=>(cz.cells)[j % cz.cells.size]!)).toList:=by
  have mO:(q9 (List.replicate len z)).length=len * n:=by rw[jB (sz:=n) λy hy=>by rw[(List.mem_replicate.1 hy).2];exact Qd];simp
  refine⟨by rw[mO];simp,λj x hx=>?_,λj x v hx hv=>?_⟩
  ·have hj:j<len * n:=by rw[<- mO];exact(eE.1 hx).1
   rw[wU Qd len j hj] at hx;exact Dz.one _ x hx
  ·have hj:j<len * n:=by rw[<- mO];exact(eE.1 hx).1
   rw[wU Qd len j hj] at hx;have hm:j % n<cz.cells.size:=by rw[F3];exact Nat.mod_lt _ (by omega)
   simp only[Array.toList_map,Array.toList_range,mS,List.getElem?_range,hj,bG,aR,F3] at hv;rw[getElem!_pos cz.cells (j % n) hm] at hv;refine Dz.rel _ x v hx ?_;rw[LH,FM hm,hv]
 obtain⟨iM,f1,f2,f3,f4,f5⟩:=zll h (xs:=List.replicate len z) (len:=len) (n:=n) (by simp) (λy hy=>by rw[(List.mem_replicate.1 hy).2];exact Qd) lq
  (j7 λy hy=>by rw[(List.mem_replicate.1 hy).2];omega) hx
 have At:(parts.map λ(i,x)=>(i,a.eval x)).toList=parts.toList.map λ(i,x)=>(i,a.eval x):=by simp
 have oE:iM.size=len * n:=by
  have:=f2.len;rw[jB f4,f3] at this;simpa using this.symm
 have cX:(Instr.buildSlice t len (parts.map λ(i,x)=>(i,a.eval x))).run P w=.ok (.slice (some ⟨w.heap.size,0,none⟩) len len) (w.alloc (.cells iM e)):=by
  unfold Instr.buildSlice;rcases N3 len with h0|h0
  ·subst h0;simp only[Nat.zero_mul] at f1 oE;have r0:Array.range 0=#[]:=rfl;have f1':Instr.fill (λi=>some (i * n,n)) #[] (parts.toList.map λ(i,x)=>(i,a.eval x))=some iM:=by simpa[r0] using f1
   simp only[Sem.run_bind,run_underlying hd,kA hn,Result.andThen_ok,Nat.zero_mul,r0,At];simp[f1',newRow]
   try rfl
  ·have:¬len * n=0:=by
    intro e0;rcases Nat.mul_eq_zero.1 e0 with e0|e0<;>omega
   simp[run_underlying hd,kA hn,XL,this,z1,f1,newRow]
   try rfl
 refine⟨g.row w.heap.size iM.toList (o.dst.map (Loc.slot B.d)),.slice (some ⟨w.heap.size,0,none⟩) len len,w.alloc (.cells iM e),by simp only[execOp,ho,Sem.run_bind,cX,Result.andThen_ok,Sem.run_pure],?_⟩
 have hrel:=h.settle iM.toList (o.dst.map (Loc.slot B.d)) (w':=w.alloc (.cells iM e)) (by simp) (λc hc=>heap_alloc_old w _ hc) (λo v hv=>by rw[World.cell?_alloc_new];simpa using hv) rfl rfl rfl
 have bD:∀b,b<s.H.aj.length->g.bM b<w.heap.size:=h.cN.lt;have hle:Gh.Le s.H.aj.length g (g.row w.heap.size iM.toList (o.dst.map (Loc.slot B.d))):=by
  refine⟨λc o v hv=>?_,λ_ _=>rfl,rfl,λ_ _ _ _ e=>e⟩;have:=vP (h.cN.mem c o v hv);simp only[Gh.row];rw[if_neg (by omega)];exact hv
 refine⟨hrel,?_,λt ht=>?_,f5⟩
 ·have:=aQ.settled (g:=g) (ow:=.yes e) (N:=w.heap.size) (l:=o.dst.map (Loc.slot B.d)) (cap:=len) f4 (by omega) f2 (cZ y4 f5) hle
  rw[f3] at this;exact this
 ·refine⟨iM.toList,ziz ⟨by simp[oE,f3],.inr ⟨w.heap.size,len,iM,by rw[f3],ga _,heap_alloc_new w _,by omega,?_,oE,?_⟩⟩,λc hc=>?_⟩
  ·have:len<=len * n:=Nat.le_mul_of_pos_right _ (by omega)
   simp only[maxLen];omega
  ·rw[En (by simp[oE,f3])]
  ·simp only[Value.ownBlock,aR] at hc;subst hc;refine⟨by simp[Gh.row,ht],λo ho _=>?_,λb hb e=>?_⟩
   ·simp only[Gh.row,aU];simp only at ho;exact uj (by simp[oE];rw[f3] at ho;omega)
   ·have:=bD b hb;have e':g.bM b=w.heap.size:=e;omega
def ziG{isAgg:Bool}{sz:Nat}(h1:isAgg=false->sz=1):∀{n:Nat}{cs:aA},n * sz<=cs.length->(∀x∈cs,x.one=true)->q9 (IK isAgg sz n cs)=cs.take (n * sz)/\(∀y∈IK isAgg sz n cs,y.cells.length=sz)/\(IK isAgg sz n cs).length=n
 | 0,cs,_,_=>by simp[IK,q9]
 | n+1,cs,hl,ho=>by
  have lD:n * sz<=(cs.drop sz).length:=by rw[uS] at hl;simp;omega
  obtain⟨i1,i2,i3⟩:=ziG h1 (n:=n) (cs:=cs.drop sz) lD (λx hx=>ho x (Cj hx));have gp:sz<=cs.length:=by rw[uS] at hl;omega
  have e:cs.take ((n+1) * sz)=cs.take sz++(cs.drop sz).take (n * sz):=by
   rw[show(n+1) * sz=sz+n * sz by rw[uS];omega,List.take_add]
  cases isAgg with
  | true =>
   simp only[IK,aU,q9,Fb,V.cells] at *;refine⟨by rw[i1,e],λy hy=>?_,by simp[i3]⟩
   rcases dh.1 hy with rfl|hy
   ·simp;omega
   ·exact i2 y hy
  | false =>
   have Fl:=h1 rfl;subst Fl;cases cs with
   | nil=>simp at gp
   | cons x cs =>
    have hx:=ho x (eS ..);have Fm:x.cells=[x]:=by cases x<;>first|rfl|(simp[V.one,oJ] at hx)
    simp only[IK,dF,bZ,List.headD_cons,q9,Fb] at *;refine⟨by rw[i1,e,Fm];simp,λy hy=>?_,by rw[bq,i3]⟩
    rcases dh.1 hy with rfl|hy
    ·rw[Fm];rfl
    ·exact i2 y hy
structure Src(g:Gh)(n:Nat)(w:aK)(sz:Nat)(ys:aA)(cy:aS):Prop where
 form:∃ad cap,cy=.slice ad ys.length cap/\(ys≠[]->∃a0 news,ad=some a0/\bN g (q9 ys) news/\∀j v,news[j]?=some v->w.cell? (a0.add j)=some v)
 sized:∀y:V,y∈ys->y.cells.length=sz
 aI:aI ys<=n
def Qe(h:Rel B g s a w){e:aq}{sz:Nat}{y:V}{ys:aA}{cy:aS}(gp:jh P e=some sz)(hy:vq P s.H e y=some ys)(hr:aQ g y cy)(ht:y.top<=s.H.aj.length):Src g s.H.aj.length w sz ys cy:=by
 unfold vq at hy;split at hy
 ·simp only[aR] at hy;subst hy;cases hr;exact⟨⟨none,0,rfl,λhn=>absurd rfl hn⟩,λy hy=>by simp at hy,ga _⟩
 ·rename_i mc xs ow;simp only[Option.bind_eq_bind,fJ] at hy;obtain⟨n,hn,hy⟩:=hy;rw[gp] at hn;cases hn;split at hy<;>simp only[aR,reduceCtorEq] at hy;rename_i e';subst e';subst hy;cases hr with
  | sl f h1 h2 h3 h4 h5 h6 =>
   rename_i ad cap c o;refine⟨⟨ad,cap,rfl,λhn=>⟨⟨c,o,none⟩,(List.range (q9 xs).length).map f,h3 hn,⟨by simp,h4,λj x v hx hv=>?_⟩,λj v hv=>?_⟩⟩,h1,ht⟩
   ·have hj:=(eE.1 hx).1;simp[hj] at hv;subst hv;exact h6 j x hx
   ·have hj:j<(q9 xs).length:=by have:=(eE.1 hv).1;simpa using this
    have e':f j=v:=by simpa[hj] using hv
    rw[Addr.add_lit,<- e'];exact h.cN.mem _ _ _ (h5 j _ (mq hj))
 ·rename_i b off len XM;simp only[Option.bind_eq_bind,fJ] at hy;obtain⟨x,hx,hy⟩:=hy;split at hy<;>try (cases hy;done)
  rename_i cs ty;simp only[fJ] at hy;obtain⟨n,hn,ag,sV,hy⟩:=hy;rw[gp] at hn;cases hn;split at hy<;>simp only[aR,reduceCtorEq] at hy;rename_i hc;simp only[cR,mT] at hc;obtain⟨hle,XN⟩:=hc;have ajq:off+len * sz<=cs.length:=sE hle;obtain⟨arr,a1,a2,a3,_⟩:=Qc h hx;have Ey:((cs.drop off).map aT).length=cs.length - off:=by simp
  obtain⟨f1,f2,f3⟩:=ziG (isAgg:=ag) (sz:=sz) (n:=len) (cs:=(cs.drop off).map aT) (λe=>XN.elim (λh1=>by rw[e] at h1;cases h1) gy) (by rw[Ey];omega) (λx hx=>by
   simp only[ni] at hx;obtain⟨y,hy,rfl⟩:=hx;rw[Xx];obtain⟨j,hj⟩:=List.getElem?_of_mem (Cj hy)
   exact a2.one j y hj)
  subst hy;cases hr with
  | sr uW =>
   refine⟨⟨some ⟨g.bM b,off,none⟩,XM,by rw[f3],λ_=>⟨_,(arr.toList.drop off).take (len * sz),rfl,?_,λj v hv=>?_⟩⟩,f2,?_⟩
   ·rw[f1];refine⟨?_,λj x hx=>?_,λj x v hx hv=>?_⟩
    ·have:=a2.len;simp at this ⊢;omega
    ·simp only[um] at hx;split at hx<;>try (cases hx;done)
     simp only[mS,FP,l8] at hx;obtain⟨y,hy,rfl⟩:=hx;rw[Xx];exact a2.one _ _ hy
    ·simp only[um] at hx hv;split at hx<;>try (cases hx;done)
     rename_i hj;rw[if_pos hj] at hv;simp only[mS,FP,l8] at hx hv;obtain⟨y,hy,rfl⟩:=hx;exact(a2.rel _ _ _ hy hv).aT
   ·simp only[um] at hv;split at hv<;>try (cases hv;done)
    simp only[FP] at hv;rw[Addr.add_lit,cell_of_row w _ _ arr _ _ a1];simpa using hv
   ·refine j7 λy hy=>?_;have mO:∀z∈q9 (IK ag sz len ((cs.drop off).map aT)),z.top<=s.H.aj.length:=λz hz=>by
     rw[f1] at hz;have:=CB hz;simp only[ni] at this;obtain⟨u,hu,rfl⟩:=this;rw[dx];exact cZ (qg (Cj hu)) a3
    cases y with
    | agg us=>exact j7 λz hz=>mO z (List.mem_flatMap.2 ⟨_,hy,hz⟩)
    | _=>exact mO _ (List.mem_flatMap.2 ⟨_,hy,uk.2 rfl⟩)
 ·cases hy
def znK(h:Rel B g s a w){src dst:aq}{b off len cap:Nat}{u v:V}{x:aO}{o:Oper}(hu:N9 P s.H src (.sr b off len cap)=some u)(hr:vw P src dst u=some v)(hx:aQ g (.sr b off len cap) (a.eval x))(ht:(V.sr b off len cap).top<=s.H.aj.length)(ho:o.op=.convert src dst x) :
  LY P B s a w g o v:=by
 simp only[vw,Option.bind_eq_bind,fJ] at hr;obtain⟨ds,hs,dd,hd,hr⟩:=hr;unfold N9 at hu;split at hu
 ·rename_i e _ _ _ _ DA heq;rw[hs] at DA;cases DA;cases heq;split at hu<;>simp only[aR,reduceCtorEq] at hu;rename_i xs lu;subst hu;cases dd<;>simp only[reduceCtorEq] at hr;simp only[fJ] at hr;obtain⟨d8,h8,hr⟩:=hr;split at hr<;>try (cases hr;done)
  simp only[l8] at hr;obtain⟨l,hl,rfl⟩:=hr;obtain⟨n,hn⟩:∃n,jh P e=some n:=by
   have h1:=lu;simp only[vq,Option.bind_eq_bind,fJ] at h1;obtain⟨_,_,h1⟩:=h1;split at h1<;>try (cases h1;done)
   simp only[fJ] at h1;obtain⟨n,hn,_⟩:=h1;exact⟨n,hn⟩
  have iN:=Qe h hn lu hx ht;obtain⟨ad,oM,sF,mD⟩:=iN.form;obtain⟨ns,CH,_⟩:=nL hl;have Qf:∀y∈q9 xs,∃k:Int,y=.int .u8 k:=λy hy=>by
   subst CH;obtain⟨z,hz,hy⟩:=List.mem_flatMap.1 hy;obtain⟨k,_,rfl⟩:=ni.1 hz;simp only[V.cells,uk] at hy;exact⟨_,hy⟩
  obtain⟨f,hf⟩:∃f:Nat->aS,f=λ_=>.nilFunc:=⟨_,rfl⟩;have hrel:aQ { g with M:=λc o=>w.cell? ⟨c,o,none⟩ } (.sl 1 xs .no) (a.eval x):=by
   generalize a.eval x=cx at hx sF;cases hx with
   | sr pF =>
    cases sF;have Au:∀(j:Nat)(y:V),(q9 xs)[j]?=some y->y.one=true:=λj y hy=>by obtain⟨k,rfl⟩:=Qf y (qI hy);rfl
    have o6:∀y:V,y∈xs->y.cells.length=1:=λy hy=>by
     subst CH;obtain⟨k,_,rfl⟩:=ni.1 hy;rfl
    by_cases cG:xs=[]
    ·subst cG;exact .sl (c:=0) (o:=0) (λ_=>.nilFunc) (λy hy=>by simp at hy) (ga _) (λhn=>absurd rfl hn) (λj y hy=>by simp[q9] at hy) (λj y hy=>by simp[q9] at hy) (λj y hy=>by simp[q9] at hy)
    ·obtain⟨a0,news,h0,ej,eC⟩:=mD cG;cases h0;refine .sl (c:=g.bM b) (o:=off) (λj=>news.getD j .nilFunc) o6 pF (λ_=>rfl) Au (λj y hy=>?_) (λj y hy=>?_)
     ·obtain⟨v,hv,_⟩:=ej.get hy;have:=eC j v hv;rw[Addr.add_lit] at this;simpa[List.getD,hv] using this
     ·obtain⟨v,hv,Qg⟩:=ej.get hy;obtain⟨k,rfl⟩:=Qf y (qI hy);cases Qg;simp only[List.getD,hv,t_];exact .int _ _
  obtain⟨c1,c2⟩:=zfc (P:=P) (w:=w) hl hrel (λc o u h=>h);rw[sF] at c1;refine⟨g,.string (bytes l),w,?_,⟨h,.str c2,λ_ _=>trivial,ga _⟩⟩;simp only[execOp,ho,sF,Sem.run_bind,run_convert_bytes_string w src dst e _ _ _ hs h8 hd,c1,Result.andThen_ok,Sem.run_pure]
 ·simp only[aR] at hu;subst hu;cases ds<;>cases dd<;>simp only[reduceCtorEq] at hr
def ziH(h:Rel B g s a w){src dst:aq}{l:bR}{v:V}{x:aO}{o:Oper}(hr:vw P src dst (.str l)=some v)(hx:aQ g (.str l) (a.eval x))(uX:P.underlying dst≠some .string)(ho:o.op=.convert src dst x) :
  LY P B s a w g o v:=by
 simp only[vw,Option.bind_eq_bind,fJ] at hr;obtain⟨ds,hs,dd,hd,hr⟩:=hr;generalize he:a.eval x=cx at hx;cases hx with
 | str hl =>
  split at hr<;>try (cases hr;done)
  next e=>cases e
  next e=>cases e
  ·exact absurd hd uX
  next e=>cases e
  next e=>cases e
  ·rename_i e l' lD;cases lD;simp only[fJ] at hr;obtain⟨d8,h8,hr⟩:=hr;split at hr<;>simp only[aR,reduceCtorEq] at hr;subst hr;have gp:(bytes l).size=l.length:=we l;have pF:=grownCap_ge w (bytes l).size 0 e;generalize hC:grownCap w (bytes l).size 0 e=cap at pF;have cX:=run_bytes_of_string (P:=P) w src dst e (bytes l) hs hd h8;rw[hC] at cX
   have eN:∀(j:Nat)(b:Nat),l[j]?=some b->(bytesRow (bytes l) cap)[j]?=some (.int .u8 b):=λj b hb=>by
    have hj:=(eE.1 hb).1;have pH:=hl b (qI hb);unfold bytesRow;rw[Array.getElem?_append_left (by simp[bytes];exact hj)]
    simp[bytes,hb,UInt8.toNat_ofNat',HS pH]
   have mO:q9 (l.map λ(b:Nat)=>V.int .u8 b)=l.map λ(b:Nat)=>V.int .u8 b:=by
    clear eN hl gp pF hC cX he
    induction l with
    | nil=>rfl
    | cons n ns ih=>simp only[q9,bW,Fb,V.cells] at *;rw[ih];rfl
   have hrel:=h.settle (l.map λ(b:Nat)=>Value.int .u8 b) none (w':=w.drew.alloc (.cells (bytesRow (bytes l) cap) e ((bytesRow (bytes l) cap).size,(bytesRow (bytes l) cap).size+1)))
    (by show _<(w.heap.push _).size;simp) (λc hc=>heap_alloc_old w.drew _ hc) (λo v hv=>by
     simp only[mS,l8] at hv;obtain⟨b,hb,rfl⟩:=hv;rw[<- eN o b hb]
     exact World.cell?_alloc_mark w.drew _ _ _ o) rfl rfl rfl
   have hle:Gh.Le s.H.aj.length g (g.row w.heap.size (l.map λ(b:Nat)=>Value.int .u8 b) none):=by
    refine⟨λc o v hv=>?_,λ_ _=>rfl,rfl,λ_ _ _ _ e=>e⟩;have:=vP (h.cN.mem c o v hv);simp only[Gh.row];rw[if_neg (by omega)];exact hv
   refine⟨_,_,_,by simp only[execOp,ho,he,Sem.run_bind,cX,Result.andThen_ok,Sem.run_pure];rfl,hrel,?_,λ_ _=>trivial,?_⟩
   ·have:=aQ.settled (g:=g) (n:=s.H.aj.length) (ow:=.no) (N:=w.heap.size) (l:=none) (sz:=1) (xs:=l.map λ(b:Nat)=>V.int .u8 b) (vs:=l.map λ(b:Nat)=>Value.int .u8 b) (cap:=cap)
     (λy hy=>by obtain⟨b,_,rfl⟩:=ni.1 hy;rfl) (by simp;omega) ?_ ?_ hle
    ·rw[gp];simpa using this
    ·rw[mO];refine⟨by simp,λj x hx=>?_,λj x v hx hv=>?_⟩
     ·simp only[mS,l8] at hx;obtain⟨b,hb,rfl⟩:=hx;rfl
     ·simp only[mS,l8] at hx hv;obtain⟨b,hb,rfl⟩:=hx;obtain⟨b',dK,rfl⟩:=hv;rw[hb] at dK;cases dK;exact .int _ _
    ·rw[mO];exact j7 λy hy=>by obtain⟨b,_,rfl⟩:=ni.1 hy;exact ga _
   ·simp only[V.top];exact j7 λy hy=>by obtain⟨b,_,rfl⟩:=ni.1 hy;exact ga _
def XO(h:Rel B g s a w){gl:Nat->Nat->cP}(ez:lg P gl g){o:Oper}{v:V}(hr:jA P gl o s.env s.H=some v):LY P B s a w g o v:=by
 obtain⟨dst,op,type,pos,after,guard⟩:=o;cases op<;>simp only[jA,Option.bind_eq_bind,fJ,reduceCtorEq] at hr
 case move x =>
  obtain⟨h1,h2,h3⟩:=qZ h hr;exact⟨g,a.eval x,w,by simp[execOp],⟨h,h1,λ_ _=>h3 _ _,h2⟩⟩
 case pick c x y =>
  obtain⟨vc,hc,hr⟩:=hr;split at hr<;>try (cases hr;done)
  rename_i t;obtain⟨c1,_,_⟩:=qZ h hc;generalize s_:a.eval c=cc at c1;cases c1;cases t with
  | true =>
   simp only at hr;obtain⟨h1,h2,h3⟩:=qZ h hr;exact⟨g,a.eval x,w,by simp[execOp,s_,asBool],⟨h,h1,λ_ _=>h3 _ _,h2⟩⟩
  | false =>
   simp only at hr;obtain⟨h1,h2,h3⟩:=qZ h hr;exact⟨g,a.eval y,w,by simp[execOp,s_,asBool],⟨h,h1,λ_ _=>h3 _ _,h2⟩⟩
 case build t parts=>exact yy h (zmx (P:=P) h hr) rfl
 case load t x =>
  obtain⟨p,hp,u,hu,hr⟩:=hr;simp only[aR] at hr;subst hr;obtain⟨h1,h2,h3⟩:=qZ h hp;obtain⟨cv,c1,c2,c3⟩:=ziC h ez h1 h2 hu;exact yy h ⟨cv,c1,c2.aT,by rw[dx];exact c3,λ_ _=>wG _ _ _ _ _ _⟩ rfl
 case nilCheck x =>
  obtain⟨u,hu,hr⟩:=hr;obtain⟨cv,h1,h2,h3,h4,h5⟩:=ziE h hu hr;refine⟨g,cv,w,?_,⟨h,h1,λ_ _=>h3 _ _,h2⟩⟩;rcases h5 with⟨p,h5⟩|⟨f,fa,fc,h5⟩|⟨t,u,h5⟩
  ·simp[execOp,<- h4,h5]
  ·simp[execOp,<- h4,h5]
  ·simp[execOp,<- h4,h5]
 case binOp op t x y yt =>
  obtain⟨u,hu,v',dG,hr⟩:=hr;split at hr
  next hg=>obtain⟨u1,u2,_⟩:=qZ h hu;obtain⟨v1,v2,_⟩:=qZ h dG;have e1:=iK hg u1 v1 w;obtain⟨cv,c1,c2,c3,c4⟩:=zpX hr u1 v1 w;exact⟨g,cv,w,by simp[execOp,e1,c1],⟨h,c2,λ_ _=>c4 _ _,by omega⟩⟩
  ·cases hr
 case unOp op t x =>
  obtain⟨u,hu,hr⟩:=hr;exact yy h (zrA hr (qZ h hu).1 _ w) rfl
 case makeInterface t x =>
  obtain⟨u,hu,hr⟩:=hr;split at hr<;>simp only[aR,reduceCtorEq] at hr;rename_i hi;subst hr;obtain⟨u1,u2,_⟩:=qZ h hu;refine⟨g,.iface t (a.eval x),w,?_,⟨h,.fq u1,λ_ _=>trivial,u2⟩⟩;unfold P6 at hi;cases hd:P.underlying t with
  | none=>simp[hd] at hi
  | some d =>
   rw[hd] at hi;cases d<;>first|(simp at hi;done)|simp[execOp,Instr.makeInterface,run_underlying hd]
 case convert src dst x =>
  obtain⟨u,hu,hr⟩:=hr;obtain⟨u1,u2,_⟩:=qZ h hu
  by_cases CH:∀s,u≠.str s\/P.underlying dst=some .string
  ·exact yy h (znJ hr u1 CH h.cN.mem) rfl
  ·obtain⟨l,hl⟩:∃l,u=.str l:=by
    apply Classical.byContradiction;intro mu;exact CH λs=>.inl λe=>mu ⟨s,e⟩
   subst hl;have uX:P.underlying dst≠some .string:=λe=>CH λs=>.inr e;exact ziH h hr u1 uX rfl
 case makeFunc fn first cap =>
  obtain⟨as,has,cs,ej,hr⟩:=hr;simp only[aR] at hr;subst hr;obtain⟨a1,a2,a3,_⟩:=Ub h has;obtain⟨c1,c2,c3,_⟩:=Ub h ej;refine⟨g,.func fn (first.map a.eval) (cap.map a.eval),w,by simp[execOp,Instr.makeFunc],⟨h,.fn (by simpa using a1) (by simpa using c1) (λj x v hx hv=>a2 j x v hx (by simpa using hv)) (λj x v hx hv=>c2 j x v hx (by simpa using hv)),λ_ _=>trivial,?_⟩⟩
  simp only[V.top];exact uu.2 ⟨a3,c3⟩
 case slice t x lo hi mx =>
  obtain⟨T6,mg,FW,Bc,u,hu,hr⟩:=hr;obtain⟨u1,u2,_⟩:=qZ h hu;cases mx with
  | none=>exact yy h (zgy hr u1 (IZ h mg) (IZ h Bc) u2 w) rfl
  | some m =>
   simp only[fJ] at hr;obtain⟨mv,hmv,hr⟩:=hr;obtain⟨m1,_,_⟩:=qZ h hmv;split at hr<;>try (cases hr;done)
   rename_i km k sz xs o kh hh _ _ _;split at hr<;>try (cases hr;done)
   rename_i hle;have h1:=IZ h Bc;cases hi with
   | none=>exact h1.elim
   | some aF =>
    have Fl:aQ g (.int kh hh) (a.eval aF):=h1;have h2:=zmu (P:=P) (km:=km) hr u1 (IZ h mg) hle.1 hle.2 u2 w;have e1:a.eval aF=.int kh hh:=by generalize a.eval aF=ch at Fl;cases Fl;rfl
    have e2:a.eval m=.int km k:=by generalize a.eval m=cm at m1;cases m1;rfl
    rw[<- e1,<- e2] at h2;exact yy h h2 rfl
 case fieldAddr t x f =>
  obtain⟨ds,hd,hr⟩:=hr;split at hr<;>try (cases hr;done)
  rename_i fs;simp only[fJ] at hr;obtain⟨fd,hf,sz,gp,hr⟩:=hr;split at hr
  ·cases hr
  ·rename_i h0;simp only[fJ] at hr;obtain⟨u,hu,hr⟩:=hr;obtain⟨u1,u2,_⟩:=qZ h hu;have Ud:Nat.beq sz 0=false:=by revert h0;cases Nat.beq sz 0<;>simp
   generalize he:a.eval x=cx at u1;split at hr<;>simp only[aR,reduceCtorEq] at hr
   ·subst hr;cases u1;exact⟨g,_,w,by simp only[execOp,he,Sem.run_bind,yp hd hf gp Ud,Result.andThen_ok,Sem.run_pure],⟨h,.ptr _ _,λ_ _=>trivial,u2⟩⟩
   ·subst hr;cases u1;exact⟨g,_,w,by simp only[execOp,he,Sem.run_bind,yp hd hf gp Ud,Result.andThen_ok,Sem.run_pure],⟨h,.gI _ _,λ_ _=>trivial,u2⟩⟩
   ·rename_i b9 u9 k9 _;subst hr;cases u1 with
    | gY _ hh =>
     have e0:=aQ.gY (k9+fd.offset) hh;rw[<- cU] at e0;exact⟨g,_,w,by simp only[execOp,he,Sem.run_bind,yp hd hf gp Ud,Result.andThen_ok,Sem.run_pure],⟨h,e0,λ_ _=>trivial,u2⟩⟩
   ·subst hr;obtain⟨c,o,rfl⟩:∃c o,cx=.pointer (some ⟨c,o,none⟩):=by cases u1;exact⟨_,_,rfl⟩
    exact⟨g,_,w,by simp only[execOp,he,Sem.run_bind,yp hd hf gp Ud,Result.andThen_ok,Sem.run_pure],⟨h,u1.Dx _,λ_ _=>trivial,cZ (mB _ _) u2⟩⟩
 case field t x f =>
  obtain⟨ds,hd,hr⟩:=hr;split at hr<;>try (cases hr;done)
  rename_i fs;simp only[fJ] at hr;obtain⟨fd,hf,u,hu,hr⟩:=hr;split at hr<;>try (cases hr;done)
  rename_i cs;simp only[l8] at hr;obtain⟨v',hr,rfl⟩:=hr;obtain⟨u1,u2,_⟩:=qZ h hu;obtain⟨arr,he,ej⟩:=vN u1;obtain⟨cv,c1,c2,c3,_⟩:=Od (P:=P) ej hr w;refine yy h ⟨cv,?_,c2.aT,by rw[dx];exact cZ c3 u2,λ_ _=>wG _ _ _ _ _ _⟩ rfl
  rw[he];unfold Instr.field;simp[run_underlying hd,hf,asAgg,c1]
 case indexAddr t x ix =>
  obtain⟨iv,hi,hr⟩:=hr;split at hr<;>try (cases hr;done)
  rename_i k i;simp only[fJ] at hr;obtain⟨u,hu,hr⟩:=hr;obtain⟨u1,u2,_⟩:=qZ h hu;have i1:=(qZ h hi).1;generalize HX:a.eval ix=ci at i1;cases i1;generalize he:a.eval x=cx at u1;unfold q7 at hr;split at hr
  ·rename_i len e hd;split at hr
   ·cases hr
   ·rename_i n hn;split at hr
    ·split at hr<;>simp only[aR,reduceCtorEq] at hr;rename_i hb;subst hr;cases u1;exact⟨g,_,w,by simp only[execOp,he,HX,Sem.run_bind,yW hd hn hb.1 hb.2,Result.andThen_ok,Sem.run_pure],⟨h,.ptr _ _,λ_ _=>trivial,u2⟩⟩
    ·split at hr<;>simp only[aR,reduceCtorEq] at hr;rename_i hb;subst hr;cases u1;exact⟨g,_,w,by simp only[execOp,he,HX,Sem.run_bind,yW hd hn hb.1 hb.2,Result.andThen_ok,Sem.run_pure],⟨h,.gI _ _,λ_ _=>trivial,u2⟩⟩
    ·split at hr<;>simp only[aR,reduceCtorEq] at hr;rename_i hb;rename_i b9 u9 k9 _;subst hr;cases u1 with
     | gY _ hh =>
      have e0:=aQ.gY (k9+i.toNat * n) hh;rw[<- cU] at e0;exact⟨g,_,w,by simp only[execOp,he,HX,Sem.run_bind,yW hd hn hb.1 hb.2,Result.andThen_ok,Sem.run_pure],⟨h,e0,λ_ _=>trivial,u2⟩⟩
    ·split at hr<;>simp only[aR,reduceCtorEq] at hr;rename_i hb;subst hr;obtain⟨c,o,rfl⟩:∃c o,cx=.pointer (some ⟨c,o,none⟩):=by cases u1;exact⟨_,_,rfl⟩
     exact⟨g,_,w,by simp only[execOp,he,HX,Sem.run_bind,yW hd hn hb.1 hb.2,Result.andThen_ok,Sem.run_pure],⟨h,u1.Dx _,λ_ _=>trivial,cZ (mB _ _) u2⟩⟩
    ·cases hr
  ·rename_i e hd;split at hr
   ·cases hr
   ·rename_i n hn;split at hr
    ·rename_i sz xs ow _;split at hr
     ·rename_i gp;have XP:n=sz:=gy gp;subst XP;split at hr
      ·cases hr
      ·rename_i hi0;split at hr<;>simp only[aR,reduceCtorEq] at hr;rename_i y hy;rw[zV] at hy;subst hr;obtain⟨ad,cap,rfl,pF,had⟩:=u1.Dy;obtain⟨c,o,rfl⟩:=had (by rintro rfl;simp at hy)
       have bD:=(eE.1 hy).1
       exact⟨g,_,w,by simp only[execOp,he,HX,Sem.run_bind,xY hd hn (show 0<=i by omega) (show i<(xs.length:Int) by omega),Result.andThen_ok,Sem.run_pure],
        ⟨h,u1.elem hy,λ_ _=>trivial,cZ (xf y) (cZ (qg (qI hy)) u2)⟩⟩
     ·cases hr
    ·split at hr<;>simp only[aR,reduceCtorEq] at hr;rename_i hb;subst hr;cases u1;exact⟨g,_,w,by simp only[execOp,he,HX,Sem.run_bind,xY hd hn hb.1 hb.2,Result.andThen_ok,Sem.run_pure],⟨h,.ptr _ _,λ_ _=>trivial,u2⟩⟩
    ·split at hr<;>simp only[aR,reduceCtorEq] at hr;rename_i hb;subst hr;cases u1 with
     | eo hh =>
      exact⟨g,_,w,by simp only[execOp,he,HX,Sem.run_bind,xY hd hn hb.1 hb.2,Result.andThen_ok,Sem.run_pure],⟨h,.gY _ hh,λ_ _=>trivial,u2⟩⟩
    ·cases hr
  ·cases hr
 case index t x ix =>
  obtain⟨iv,hi,hr⟩:=hr;split at hr<;>try (cases hr;done)
  rename_i k i;simp only[fJ] at hr;obtain⟨u,hu,hr⟩:=hr;obtain⟨u1,u2,_⟩:=qZ h hu;have i1:=(qZ h hi).1;generalize HX:a.eval ix=ci at i1;cases i1;generalize he:a.eval x=cx at u1;unfold N8 at hr;split at hr
  ·rename_i len e hd;split at hr
   ·cases hr
   ·rename_i n hn;split at hr
    ·split at hr<;>simp only[l8,reduceCtorEq] at hr;rename_i hb;obtain⟨v',hr,rfl⟩:=hr;obtain⟨arr,rfl,ej⟩:=vN u1;obtain⟨cv,c1,c2,c3⟩:=zgi (k:=k) hd hn ej hb.1 hb.2 hr w;exact⟨g,cv,w,by simp only[execOp,he,HX,Sem.run_bind,c1,Result.andThen_ok,Sem.run_pure],⟨h,c2.aT,λ_ _=>wG _ _ _ _ _ _,by rw[dx];exact cZ c3 u2⟩⟩
    ·cases hr
  ·rename_i hd;split at hr
   ·split at hr
    ·cases hr
    ·rename_i hi0;split at hr<;>simp only[aR,reduceCtorEq] at hr;rename_i b hb;rw[zV] at hb;subst hr;cases u1 with
     | str hl =>
      exact⟨g,_,w,by simp only[execOp,he,HX,Sem.run_bind,zhn hd hl hi0 hb,Result.andThen_ok,Sem.run_pure],⟨h,.int _ _,λ_ _=>trivial,ga _⟩⟩
   ·cases hr
  ·cases hr
 case lookup t m k ok =>
  obtain⟨ds,hd,hr⟩:=hr;split at hr<;>try (cases hr;done)
  rename_i kt e;simp only[fJ] at hr;obtain⟨kd,Qh,kv,hk,hr⟩:=hr;split at hr
  ·cases hr
  next dP=>simp only[fJ,aR] at hr;obtain⟨mv,hm,es,Co,⟨v',b⟩,hf,rfl⟩:=hr;exact yy h (zmw h hd Qh (by simpa using dP) (qZ h hm).1 (qZ h hk).1 Co hf) rfl
 case typeAssert x xt t ok =>
  split at hr
  ·cases hr
  ·rename_i hi;simp only[fJ] at hr;obtain⟨u,hu,hr⟩:=hr;obtain⟨u1,u2,_⟩:=qZ h hu;generalize he:a.eval x=cx at u1;obtain⟨d,hd,rq⟩:∃d,P.underlying t=some d/\∀ms,d≠.interface ms:=by
    unfold P6 at hi;cases hd:P.underlying t with
    | none=>simp[hd] at hi
    | some d =>
     rw[hd] at hi;exact⟨d,rfl,λms e=>by subst e;simp at hi⟩
   have cX:∀cv,(Instr.typeAssert cx xt t ok).run P w=.ok cv w->aQ g v cv->v.top<=s.H.aj.length->(∀sz xs e,v≠.sl sz xs (.yes e))->LY P B s a w g { dst,op:=.typeAssert x xt t ok,type,pos,after,guard } v :=
    λcv h1 h2 h3 h4=>⟨g,cv,w,by simp[execOp,he,h1],⟨h,h2,λ_ _=>zlk h4,h3⟩⟩
   have Ku:∀z,kf P t=some z->ok=true->v=.bz [z,.bool false]->(∀cz,(zeroValue t).run P w=.ok cz w->(Instr.typeAssert cx xt t true).run P w=.ok (.tuple #[cz,.bool false]) w)->LY P B s a w g { dst,op:=.typeAssert x xt t ok,type,pos,after,guard } v:=by
    intro z hz dP hv hrz;subst dP;subst hv;obtain⟨cz,z1,z2,z3,_⟩:=Of (g:=g) hz w;refine cX _ (hrz cz z1) (.bz rfl λj x u hx hu=>?_) (by simp only[V.top,aI];omega) (λ_ _ _ e=>by cases e)
    rcases j with _|_|j
    ·simp at hx hu;subst hx;subst hu;exact z2
    ·simp at hx hu;subst hx;subst hu;exact .bool false
    ·simp at hx
   split at hr
   ·split at hr<;>simp only[fJ,aR,reduceCtorEq] at hr;rename_i dP;obtain⟨z,hz,rfl⟩:=hr;cases u1;refine Ku z hz dP rfl λcz Dz=>?_;unfold Instr.typeAssert;cases d<;>first|exact absurd rfl (rq _)|simp[run_underlying hd,Dz]
   ·rename_i ut uv _;obtain⟨cu,rfl⟩:∃cu,cx=.iface ut cu:=by cases u1;exact⟨_,rfl⟩
    have u3:aQ g uv cu:=by cases u1;assumption
    split at hr
    ·rename_i XQ;simp only[aR] at hr;have XR:ut=t:=gy XQ;subst XR;subst hr;refine cX (if ok then .tuple #[cu,.bool true] else cu) ?_ ?_ ?_ ?_
     ·unfold Instr.typeAssert;cases d<;>first|exact absurd rfl (rq _)|(simp[run_underlying hd])
     ·cases ok with
      | true =>
       refine .bz rfl λj x u hx hu=>?_;rcases j with _|_|j
       ·simp at hx hu;subst hx;subst hu;exact u3.aT
       ·simp at hx hu;subst hx;subst hu;exact .bool true
       ·simp at hx
      | false=>exact u3.aT
     ·have u2':uv.top<=s.H.aj.length:=u2;cases ok with
      | true=>simp only[aU,V.top,aI,dx];omega
      | false=>simp only[dF,bZ,dx];exact u2'
     ·cases ok with
      | true=>intro sz xs e he;simp at he
      | false=>intro sz xs e he;exact yx uv sz xs e (by simpa using he)
    ·rename_i XQ;split at hr<;>simp only[fJ,aR,reduceCtorEq] at hr;rename_i dP;obtain⟨z,hz,rfl⟩:=hr;have cG:ut≠t:=λe=>XQ (by subst e;exact dW _)
     refine Ku z hz dP rfl λcz Dz=>?_;unfold Instr.typeAssert;cases d<;>first|exact absurd rfl (rq _)|simp[run_underlying hd,cG,Dz]
   ·cases hr
 case extract x i =>
  obtain⟨u,hu,hr⟩:=hr;split at hr<;>try (cases hr;done)
  rename_i vs;split at hr<;>simp only[aR,reduceCtorEq] at hr;rename_i v' dG;subst hr;rw[zV] at dG;obtain⟨u1,u2,_⟩:=qZ h hu;generalize he:a.eval x=cx at u1;cases u1 with
  | bz t1 t2 =>
   rename_i arr;have bD:i<arr.size:=by rw[<- t1];exact(eE.1 dG).1
   have fu:arr[i]?=some arr[i]:=FM bD;refine⟨g,arr[i],w,by simp[execOp,he,Instr.extract,fu],⟨h,(t2 i v' _ dG fu).aT,λ_ _=>wG _ _ _ _ _ _,?_⟩⟩
   rw[dx];exact cZ (qg (qI dG)) u2
 case buildSlice t len parts =>
  obtain⟨ds,hd,hr⟩:=hr;split at hr<;>try (cases hr;done)
  rename_i e;simp only[fJ] at hr;obtain⟨n,hn,z,hz,hr⟩:=hr;split at hr
  ·cases hr
  next hc=>simp only[fJ,aR] at hr;obtain⟨xs,hx,rfl⟩:=hr;exact zgj h hd hn hz (Bool.eq_false_iff.2 hc) hx rfl
end
section
variable{P:aM}{B:eu}{g:Gh}{s:St}{a:Act}{w:aK}
def Gh.var(g:Gh)(n N:Nat):Gh:={ g with bM:=λb=>if b=n then N else g.bM b }
def Gh.F4(g:Gh)(n N:Nat):Gh.Le n g (g.var n N):=⟨λ_ _ _ h=>h,λb hb=>by simp only[Gh.var];rw[if_neg (by omega)],rfl,λ_ _ _ _ h=>h⟩
def Ue{w w':aK}{obj:Obj}(hw:w'.heap=w.heap.push obj){c:Nat}(hc:c<w.heap.size):w'.heap[c]?=w.heap[c]?:=by
 rw[hw,Array.getElem?_push,if_neg (by omega)]
def XS{w w':aK}{obj:Obj}(hw:w'.heap=w.heap.push obj):w'.heap[w.heap.size]?=some obj:=by
 rw[hw];simp
def lS.push(d n:Nat)(g:Gh){w w':aK}{obj:Obj}(hw:w'.heap=w.heap.push obj)(uy:w'.os=w.os)(ht:w'.tape=w.tape)(lH:w'.output=w.output):lS d none none n g w (g.var n w.heap.size) w' :=
 ⟨g.F4 n _,λc hc _ _=>Ue hw hc,λ_ _ _=>rfl,λ_ _ _ _=>rfl,by rw[hw];simp,λ_ _ _=>rfl,λl hl=>(by cases hl),λb hb=>(by cases hb),λ_ _ _ _=>rfl,uy,ht,lH⟩
def zb1{bs sj:List br}(h:∀b,b<bs.length->sj[b]?=bs[b]?){b off:Nat}(hl:j8 bs b off):j8 sj b off:=by
 obtain⟨cs,t,sz,xs,h1,h2⟩:=hl;exact⟨cs,t,sz,xs,by rw[h b (eE.1 h1).1];exact h1,h2⟩
def Rel.push(h:Rel B g s a w)(bM:br){obj:Obj}{w':aK}(hw:w'.heap=w.heap.push obj)(uy:w'.os=w.os)(ht:w'.tape=w.tape)(lH:w'.output=w.output)
  (dP:gG (g.var s.H.aj.length w.heap.size) (s.H.aj.length+1) w' s.H.aj.length bM) (cS:bM.top<=s.H.aj.length+1):Rel B (g.var s.H.aj.length w.heap.size) { s with H:=s.H.push bM } a w':=by
 have hl:(s.H.push bM).aj.length=s.H.aj.length+1:=by simp[Hp.push]
 have fu:∀b,b<s.H.aj.length->(s.H.push bM).aj[b]?=s.H.aj[b]?:=λb hb=>by simp only[Hp.push];rw[mz hb]
 have By:(s.H.push bM).aj[s.H.aj.length]?=some bM:=by simp[Hp.push]
 have hv:(g.var s.H.aj.length w.heap.size).bM s.H.aj.length=w.heap.size:=by simp[Gh.var]
 have gp:w'.heap.size=w.heap.size+1:=by rw[hw];simp
 refine h.iB (s':={ s with H:=s.H.push bM }) (lS.push B.d s.H.aj.length g hw uy ht lH) (by rw[hl];omega) (λb hb _=>fu b hb) (λb x hb hx=>?_) (λb h1 h2=>?_) (λb b' h1 h2 h3 h4 _=>?_) (λc o v hv=>?_) (λc l hc=>?_)
  (λb j e=>by cases e) rfl rfl (λt x hx=>⟨x,hx,.inl ⟨rfl,λe=>by cases e⟩⟩) ?_ (λb off nk=>zb1 fu (h.gR b off nk)) h.nw (λ_ e=>by cases e)
 ·have dK:b=s.H.aj.length:=by
   rcases hb with hb|hb
   ·cases hb
   ·have:=(eE.1 hx).1;rw[hl] at this;omega
  subst dK;rw[By] at hx;cases hx;rw[hl];exact⟨dP,cS⟩
 ·have:b=s.H.aj.length:=by rw[hl] at h2;omega
  subst this;rw[hv];refine⟨ek _,by omega,?_,λo=>?_⟩
  ·show g.own w.heap.size=none;cases ho:g.own w.heap.size with
   | none=>rfl
   | some l=>have:=h.cN.eK _ _ ho;omega
  ·show g.M w.heap.size o=none;cases hm:g.M w.heap.size o with
   | none=>rfl
   | some v=>have:=vP (h.cN.mem _ _ _ hm);omega
 ·rw[hl] at h2 h4;omega
 ·rw[Oi (Ue hw (vP (h.cN.mem c o v hv)))];exact h.cN.mem c o v hv
 ·have:=h.cN.eK c l hc;omega
 ·intro b x hx;rcases lP b s.H.aj.length with h1|h1
  ·rw[show({ s with H:=s.H.push bM }:St).H.aj[b]?=s.H.aj[b]? from fu b h1] at hx;exact h.aW b x hx
  ·have dK:b=s.H.aj.length:=by
    have:=(eE.1 hx).1;have lD:({ s with H:=s.H.push bM }:St).H.aj.length=s.H.aj.length+1:=hl;omega
   subst dK;rw[show({ s with H:=s.H.push bM }:St).H.aj[s.H.aj.length]?=some bM from By] at hx;cases hx;exact .inl cS
def Rel.ru(h:Rel B g s a w){cs:aA}{arr:dI}{t:aq}(ej:bN g cs arr.toList)(cS:aI cs<=s.H.aj.length)
  (lG:∀(j:Nat)(x:V)(v:aS),cs[j]?=some x->arr[j]?=some v->c_ g s.H.aj.length w (.cell s.H.aj.length j) x v/\∀sz xs,x≠.sl sz xs .lock) :
  Rel B (g.var s.H.aj.length w.heap.size) { s with H:=s.H.push (.cells cs t) } a (w.alloc (.cells arr t)):=by
 have hw:(w.alloc (.cells arr t)).heap=w.heap.push (.cells arr t):=rfl;refine h.push (.cells cs t) hw rfl rfl rfl ⟨arr,?_,by simpa using ej.len,λj x v hx hv=>⟨ej.one j x hx,?_,?_,?_⟩⟩ (Nat.le_succ_of_le cS)
 ·rw[show(g.var s.H.aj.length w.heap.size).bM s.H.aj.length=w.heap.size by simp[Gh.var]]
  exact XS hw
 ·exact(ej.rel j x v hx (by simpa using hv)).le (g.F4 _ _) (cZ (qg (qI hx)) cS)
 ·refine c_.same (lS.push B.d s.H.aj.length g hw rfl rfl rfl) (λe=>by cases e) (λb h1 h2=>?_) (lG j x v hx hv).1
  have:b=s.H.aj.length:=by omega
  subst this;simp[Gh.var]
 ·have:=(lG j x v hx hv).2;cases x with
  | sl sz xs o=>cases o with
   | lock=>exact absurd rfl (this sz xs)
   | _=>trivial
  | _=>trivial
def XT{v:aS}{z:V}(h:aH v=some z):∀x∈z.cells,∀sz xs o,x≠.sl sz xs o:=by
 have key:∀(v:aS)(x:V),aH v=some x->∀sz xs o,x≠.sl sz xs o:=by
  intro v x h sz xs o e;subst e;unfold aH at h;split at h<;>try (simp at h;done)
  all_goals (simp only[fJ] at h;obtain⟨l,_,h⟩:=h;split at h<;>simp at h)
 have keys:∀(vs:dY)(xs:aA),nJ vs=some xs->∀x∈xs,∀sz ys o,x≠.sl sz ys o:=by
  intro vs
  induction vs with
  | nil=>intro xs h x hx;simp only[nJ,aR] at h;subst h;simp at hx
  | cons v vs ih =>
   intro xs h x hx;simp only[nJ] at h;split at h<;>simp only[aR,reduceCtorEq] at h;rename_i y ys hy ua;subst h;rcases dh.1 hx with rfl|hx
   ·exact key v _ hy
   ·exact ih ys ua x hx
 intro x hx
 by_cases ha:∃cs,z=.agg cs
 ·obtain⟨cs,rfl⟩:=ha;unfold aH at h;split at h<;>try (simp at h;done)
  simp only[fJ] at h;obtain⟨l,hl,h⟩:=h;split at h<;>simp only[aR,reduceCtorEq,V.agg.injEq] at h;subst h;exact keys _ _ hl x hx
 ·have:z.cells=[z]:=by cases z<;>first|rfl|exact absurd ⟨_,rfl⟩ ha
  rw[this] at hx;simp at hx;subst hx;exact key v _ h
def zb2{env dy:aA}{x:aO}{v:V}(h:take env x=some (v,dy)):∀sz xs,v≠.sl sz xs .lock:=by
 intro sz xs e;subst e;cases x with
 | tmp t =>
  simp only[take,fB] at h;split at h<;>simp only[aR,bS,reduceCtorEq] at h
  ·obtain⟨h,_⟩:=h;simp at h
  ·obtain⟨h,_⟩:=h;rename_i y _ _ _;cases y<;>simp[aT] at h
 | const c =>
  simp only[take,aB,l8,bS] at h;obtain⟨u,hu,rfl,_⟩:=h;exact XT hu (.sl sz xs .lock) (by simp[V.cells]) sz xs .lock rfl
 | global k=>simp[take,aB] at h
 | func f=>simp[take,aB] at h
def zlm{v:V}(h:fH v=true):(∃cs,v=.agg cs/\v.laid=cs.map aT)\/(v.one=true/\v.laid=[v]/\v.cells=[v]):=by
 cases v<;>first
  |exact .inl ⟨_,rfl,rfl⟩
  |exact .inr ⟨rfl,rfl,rfl⟩
  |(simp[fH] at h)
def zln{n b off:Nat}{v:V}{cv:aS}(hr:aQ g v cv)(hc:fH v=true)(ho:c_ g n w (.cell b off) v cv)(gX:∀sz xs,v≠.sl sz xs .lock)(cS:v.top<=n) :
  bN g v.laid cv.cells.toList/\aI v.laid<=n/\∀(j:Nat)(x:V)(u:aS),v.laid[j]?=some x->cv.cells[j]?=some u->c_ g n w (.cell b (off+j)) x u/\∀sz xs,x≠.sl sz xs .lock:=by
 have ej:=yz hr hc;rcases zlm hc with⟨cs,rfl,hl⟩|⟨h1,hl,Bz⟩
 ·rw[hl];refine⟨ej.Ar,by rw[kL];exact cS,λj x u hx hu=>?_⟩
  simp only[mS,l8] at hx;obtain⟨y,_,rfl⟩:=hx;exact⟨wG _ _ _ _ _ _,λsz xs e=>by cases y<;>simp[aT] at e⟩
 ·rw[hl];rw[Bz] at ej;refine⟨ej,by simp only[aI];omega,λj x u hx hu=>?_⟩
  cases j with
  | zero =>
   simp at hx;subst hx;have e:cv.cells=#[cv]:=by
    have:=hr.pg h1;cases cv<;>first
     |rfl
     |(simp[Value.oneCell'] at this)
   rw[e] at hu;simp at hu;subst hu;exact⟨ho,gX⟩
  | succ j=>simp at hx
end
section
variable{P:aM}{B:eu}{g:Gh}{s:St}{a:Act}{w:aK}
def jx{α:Type}:∀(vs cs:List α)(off j:Nat),off+vs.length<=cs.length->(storeCells cs off vs)[j]?=if off<=j/\j<off+vs.length then vs[j - off]? else cs[j]?
 | [],cs,off,j,_=>by
  have:¬(off<=j/\j<off+0):=by omega
  simp[storeCells];intro h1 h2;omega
 | v::vs,cs,off,j,h=>by
  simp only[storeCells];rw[jx vs (cs.set off v) (off+1) j (by simp at h ⊢;omega)]
  simp only[bq] at h ⊢
  by_cases h1:j=off
  ·subst h1;have:¬(j+1<=j/\j<j+1+vs.length):=by omega
   have h2:j<=j/\j<j+(vs.length+1):=by omega
   simp only[if_neg this,if_pos h2,Nat.sub_self];rw[FN (by omega)]
   rfl
  ·by_cases h2:off+1<=j/\j<off+1+vs.length
   ·have h3:off<=j/\j<off+(vs.length+1):=by omega
    rw[if_pos h2,if_pos h3];have:j - off=(j - (off+1))+1:=by omega
    rw[this];rfl
   ·have h3:¬(off<=j/\j<off+(vs.length+1)):=by omega
    rw[if_neg h2,if_neg h3,Bs (by omega)]
def XU{lk:bk}{b:Nat}:∀{n off:Nat}{cs:aA},wQ lk b off n cs=true->∀j x,j<n->cs[j]?=some x->locked x=true->(b,off+j)∈lk
 | 0,_,_,_,j,x,hj,_,_=>by omega
 | n+1,off,[],h,j,x,_,hx,_=>by simp at hx
 | n+1,off,c::cs,h,j,x,hj,hx,nk=>by
  simp only[wQ,cR,mT,sR] at h;cases j with
  | zero =>
   simp at hx;subst hx;rcases h.1 with h1|h1
   ·rw[nk] at h1;cases h1
   ·obtain⟨p,hp,h2⟩:=List.any_eq_true.1 h1;simp only[cR,Nat.beq_eq] at h2;obtain⟨h3,h4⟩:=h2;cases p;simp only at h3 h4;subst h3;subst h4;simpa using hp
  | succ j =>
   have:=XU h.2 j x (by omega) (by simpa using hx) nk
   rw[show off+(j+1)=off+1+j by omega]
   exact this
def Rel.write(h:Rel B g s a w){b:Nat}{x0 x:br}{v:V}{l:bk}{w':aK}{N:Nat}(hN:N=g.bM b)(hb:s.H.get b=some x0)(r_:∀c,c≠N->w'.heap[c]?=w.heap[c]?)(gp:w'.heap.size=w.heap.size)(uy:w'.os=w.os)(ht:w'.tape=w.tape)(lH:w'.output=w.output)
  (dP:gG g s.H.aj.length w' b x) (cS:x.top<=s.H.aj.length) (iz:x.top<=b+1\/x.top<=v.top\/x.top<=x0.top\/x.top<=max x0.top v.top)
  (nk:∀off,FY B b off->∃cs t sz xs,x=.cells cs t/\cs[off]?=some (.sl sz xs .lock)) (hl:∀p∈l,¬FY B p.1 p.2) :
  Rel B g { s with H:=(s.H.set b x).bI b v,lk:=l } a w':=by
 subst hN;simp only[Hp.get,zV] at hb;have lz:b<s.H.aj.length:=(eE.1 hb).1;have nq:((s.H.set b x).bI b v).aj=s.H.aj.set b x:=by
  simp only[Hp.bI,Hp.set];split<;>rfl
 have hlen:((s.H.set b x).bI b v).aj.length=s.H.aj.length:=by rw[nq];simp
 have fT:lS B.d (some b) none s.H.aj.length g w g w' :=
  ⟨.refl _ _,λc _ hc _=>r_ c (λe=>hc b rfl e.symm),λ_ _ _=>rfl,λ_ _ _ _=>rfl,by omega,λ_ _ _=>rfl,λl hl=>(by cases hl),λb' dK=>(by cases dK;exact lz),λ_ _ _ _=>rfl,uy,ht,lH⟩
 refine h.iB (s':={ s with H:=(s.H.set b x).bI b v,lk:=l }) fT (by rw[hlen];exact ek _) (λb' dK cG=>?_) (λb' y F5 hy=>?_) (λb' h1 h2=>?_) (λb1 b2 h1 h2=>?_) (λc o u hu=>?_) (λc l hc=>?_)
  (λb j e=>by cases e) rfl rfl (λt y hy=>⟨y,hy,.inl ⟨rfl,λe=>by cases e⟩⟩) (λb' y hy=>?_) (λb' off I0=>?_) hl (λ_ e=>by cases e)
 ·rw[nq,Bs (λe=>cG (by rw[e]))]
 ·have dK:b'=b:=by
   rcases F5 with F5|F5
   ·cases F5;rfl
   ·have:=(eE.1 hy).1;rw[hlen] at this;omega
  subst dK;rw[nq,FN lz] at hy;cases hy;rw[hlen];exact⟨dP,cS⟩
 ·rw[hlen] at h2;omega
 ·rw[hlen] at h2;omega
 ·have hc:c≠g.bM b:=by rintro rfl;rw[h.cN.apart b lz o] at hu;cases hu
  rw[Oi (r_ c hc)];exact h.cN.mem c o u hu
 ·have:=h.cN.eK c l hc;omega
 ·rw[show({ s with H:=(s.H.set b x).bI b v,lk:=l }:St).H.aj=s.H.aj.set b x from nq] at hy;have eL:∀p∈s.H.aW,p∈((s.H.set b x).bI b v).aW:=by
   intro p hp;simp only[Hp.bI,Hp.set];split
   ·exact hp
   ·exact dB _ hp
  by_cases e:b'=b
  ·subst e;rw[FN lz] at hy;cases hy;have Fp:=h.aW b' x0 hb;have hv:v.top<=b'+1\/(b',v.top)∈((s.H.set b' x).bI b' v).aW:=by
    simp only[Hp.bI,Hp.set];split
    next h1=>exact .inl h1
    ·exact .inr (eS ..)
   have old:∀k,k<=x0.top->k<=b'+1\/(∃m,(b',m)∈((s.H.set b' x).bI b' v).aW/\k<=m)\/∃y:br,B.bs[b']?=some y/\k<=y.top:=by
    intro k hk;rcases Fp with h1|⟨m,h1,h2⟩|⟨y,h1,h2⟩
    ·exact .inl (cZ hk h1)
    ·exact .inr (.inl ⟨m,eL _ h1,cZ hk h2⟩)
    ·exact .inr (.inr ⟨y,h1,cZ hk h2⟩)
   have new:∀k,k<=v.top->k<=b'+1\/(∃m,(b',m)∈((s.H.set b' x).bI b' v).aW/\k<=m)\/∃y:br,B.bs[b']?=some y/\k<=y.top:=by
    intro k hk;rcases hv with h1|h1
    ·exact .inl (cZ hk h1)
    ·exact .inr (.inl ⟨_,h1,hk⟩)
   rcases iz with h1|h1|h1|h1
   ·exact .inl h1
   ·exact new _ h1
   ·exact old _ h1
   ·rcases Nat.le_total x0.top v.top with h2|h2
    ·rw[Nat.max_eq_right h2] at h1;exact new _ h1
    ·rw[Nat.max_eq_left h2] at h1;exact old _ h1
  ·rw[Bs (λe'=>e e'.symm)] at hy;rcases h.aW b' y hy with h1|⟨m,h1,h2⟩|h1
   ·exact .inl h1
   ·exact .inr (.inl ⟨m,eL _ h1,h2⟩)
   ·exact .inr (.inr h1)
 ·rw[show({ s with H:=(s.H.set b x).bI b v,lk:=l }:St).H.aj=s.H.aj.set b x from nq]
  by_cases e:b'=b
  ·subst e;obtain⟨cs,t,sz,xs,h1,h2⟩:=nk off I0;exact⟨cs,t,sz,xs,by rw[FN lz,h1],h2⟩
  ·obtain⟨cs,t,sz,xs,h1,h2⟩:=h.gR b' off I0;exact⟨cs,t,sz,xs,by rw[Bs (λe'=>e e'.symm)];exact h1,h2⟩
def xZ{vs cs:aA}{off:Nat}:aI (storeCells cs off vs)<=max (aI cs) (aI vs):=yb (Eo _ _) (II _ _)
def tc(h:Rel B g s a w){t:aq}{p x:aO}{b off n:Nat}{v:V}{dy:aA}{cs:aA}{ty:aq}(hp:aB s.env p=some (.ptr b off))(ht:take s.env x=some (v,dy))(hn:jh P t=some n)
  (hb:s.H.get b=some (.cells cs ty)) (dP:fH v=true) (hl:v.laid.length=n) (hle:off+n<=cs.length) (nN:wQ s.lk b off n (cs.drop off)=true) :
  ∃g' w',(Instr.storeAt t (a.eval p) (a.eval x)).run P w=.ok () w'/\Rel B g' { s with env:=dy,H:=(s.H.set b (.cells (storeCells cs off v.laid) ty)).bI b v } a w':=by
 obtain⟨p1,p2,_⟩:=qZ h hp;generalize Qi:a.eval p=cp at p1;cases p1;obtain⟨g',h1,v1,v2,v3,F6⟩:=gS h ht (.cell b off);have dK:({ s with env:=dy }:St).H.get b=some (.cells cs ty):=hb;obtain⟨arr,a1,a2,a3,a4⟩:=Qc h1 dK;obtain⟨l1,l2,l3⟩:=zln v1 dP v2 (zb2 ht) v3;have ov:cs.length=arr.size:=by have:=a2.len;simpa using this
 have ry:(a.eval x).cells.size=n:=by rw[<- hl,l1.len];simp
 have mX:g'.bM b=g.bM b:=by rw[F6.bM]
 have lz:b<s.H.aj.length:=by simp only[Hp.get,zV] at hb;exact(eE.1 hb).1
 have lq:arr.toList.take off++(a.eval x).cells.toList++arr.toList.drop (off+(a.eval x).cells.toList.length)=storeCells arr.toList off (a.eval x).cells.toList:=by
  have oO:arr.toList=arr.toList.take off++(arr.toList.drop off).take n++arr.toList.drop (off+n):=by
   rw[b_,<- List.drop_drop,FO,FO]
  have hlen:(arr.toList.take off).length=off:=by simp;omega
  have:=wm (a.eval x).cells.toList ((arr.toList.drop off).take n) (arr.toList.take off) (arr.toList.drop (off+n)) (by simp;omega)
  rw[hlen,<- oO] at this;rw[this];simp[ry]
 have cX:(Instr.storeAt t (.pointer (some ⟨g.bM b,off,none⟩)) (a.eval x)).run P w=.ok () (w.setRow (g.bM b) (storeCells arr.toList off (a.eval x).cells.toList).toArray):=by
  have eM:=run_storeCells_at P (g.bM b) off ty (a.eval x).cells.toList 0 arr w (by rw[<- mX];exact a1) (by simp;omega) (λu hu=>by
   obtain⟨j,hj⟩:=List.getElem?_of_mem hu;have F1:j<v.laid.length:=by rw[l1.len];exact(eE.1 hj).1
   have hx:=mq F1
   exact(l1.rel j _ u hx hj).pg (l1.one j _ hx))
  simp only[cL] at eM;rw[lq] at eM;unfold Instr.storeAt storeVar;simp[Instr.sureAddr,kA hn,ry,eM]
 refine⟨g',_,cX,?_⟩;have CL:(w.setRow (g.bM b) (storeCells arr.toList off (a.eval x).cells.toList).toArray).heap[g'.bM b]?=some (.cells (storeCells arr.toList off (a.eval x).cells.toList).toArray ty (0,0)):=by
  rw[mX];exact setRow_heap w _ _ _ ty _ (by rw[<- mX];exact a1)
 have fT:lS B.d (some b) none s.H.aj.length g' w g' (w.setRow (g.bM b) (storeCells arr.toList off (a.eval x).cells.toList).toArray) :=
  ⟨.refl _ _,λc _ hc _=>setRow_other w _ c _ (λe=>hc b rfl (by rw[mX,e])),λ_ _ _=>rfl,λ_ _ _ _=>rfl,by simp[World.setRow],λ_ _ _=>rfl,λl hl=>(by cases hl),λb' dK=>(by cases dK;exact lz),λ_ _ _ _=>rfl,rfl,rfl,rfl⟩
 have key:=Rel.write (l:=s.lk) (v:=v) h1 (b:=b) (x0:=.cells cs ty) (x:=.cells (storeCells cs off v.laid) ty) (N:=g.bM b) mX.symm dK (λc hc=>setRow_other w _ c _ hc) (by simp[World.setRow]) rfl rfl rfl
  ⟨_,CL,by simp[kY,ov],λj y u hy hu=>?_⟩ (yb a3 l2) (.inr (.inr (.inr (cZ xZ (uu.2 ⟨Eo _ _,?_⟩))))) (λo mg=>?_) h.nw
 ·exact key
 ·have eM:=a2.store off l1;have hr:=eM.rel j y u hy (by simpa using hu)
  refine⟨eM.one j y hy,hr,?_,?_⟩
  ·rw[jx _ _ _ _ (by omega)] at hy
   have og:(storeCells arr.toList off (a.eval x).cells.toList)[j]?=some u:=by simpa using hu
   rw[jx _ _ _ _ (by rw[CC,CC,ry,<- ov];exact hle)] at og
   by_cases hj:off<=j/\j<off+v.laid.length
   ·rw[if_pos hj] at hy;rw[if_pos (by simp[ry];omega)] at og
    have:=(l3 (j - off) y u hy (by simpa using og)).1
    rw[show off+(j - off)=j by omega] at this
    exact c_.same fT (λe=>by cases e) (λb1 h2 h3=>absurd (show b1<s.H.aj.length from h3) (Nat.not_lt.2 h2)) this
   ·rw[if_neg hj] at hy;rw[if_neg (by simp[ry];omega)] at og
    exact c_.same fT (λe=>by cases e) (λb1 h2 h3=>absurd (show b1<s.H.aj.length from h3) (Nat.not_lt.2 h2)) (a4 j y u hy (by simpa using og)).1
  ·rw[jx _ _ _ _ (by omega)] at hy
   have og:(storeCells arr.toList off (a.eval x).cells.toList)[j]?=some u:=by simpa using hu
   rw[jx _ _ _ _ (by rw[CC,CC,ry,<- ov];exact hle)] at og
   by_cases hj:off<=j/\j<off+v.laid.length
   ·rw[if_pos hj] at hy;rw[if_pos (by simp[ry];omega)] at og
    have:=(l3 (j - off) y u hy (by simpa using og)).2
    cases y with
    | sl sz xs o=>cases o with
     | lock=>exact absurd rfl (this sz xs)
     | _=>trivial
    | _=>trivial
   ·rw[if_neg hj] at hy;rw[if_neg (by simp[ry];omega)] at og
    exact(a4 j y u hy (by simpa using og)).2
 ·have:aI v.laid<=v.top:=by
   rcases zlm dP with⟨cs',rfl,e⟩|⟨_,e,_⟩
   ·rw[e,kL];exact ek _
   ·rw[e];simp[aI]
  exact cZ this (II _ _)
 ·obtain⟨HY,t2,sz,xs,c1,c2⟩:=h.gR b o mg;have pH:s.H.aj[b]?=some (.cells cs ty):=by simpa[Hp.get,zV] using hb
  rw[pH] at c1;cases c1;refine⟨_,_,sz,xs,rfl,?_⟩;rw[jx _ _ _ _ (by omega)]
  by_cases hj:off<=o/\o<off+v.laid.length
  ·have:=XU nN (o - off) (.sl sz xs .lock) (by omega) (by rw[FP,show off+(o - off)=o by omega];exact c2) rfl
   rw[show off+(o - off)=o by omega] at this
   exact absurd mg (h.nw _ this)
  ·rw[if_neg hj];exact c2
end
end Go.Vm
