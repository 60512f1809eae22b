/- The abstract machine Vm: Go data by value, a small heap for variables and maps, an interpreter over the model's own Code. Conditions: none but those named. -/
import GoSem.Step
import Derived.Calls
import Derived.Laws.AppendOwn
import Derived.Laws.OwnMore
import Derived.Laws.MakeOwn
import Derived.Laws.NewBlocks
import Derived.Laws.Rows
import Derived.Deep.Draws
import Derived.Tactics
import Derived.Laws.Cells
import Derived.Laws.Entries
import Derived.Laws.CopyRow
import Derived.Laws.StructEq
import Derived.Laws.Cover3
import Derived.WalkKit
import Derived.Laws.BytesString
import Derived.Laws.RangeString
import Derived.Laws.IdiomStrings
set_option linter.defProp false
namespace Go
def aO:∀{α:Type _}(val Cw:α),(some val=some Cw)=(val=Cw):=@Option.some.injEq
def bH:(false=true)=False:=@Bool.false_eq_true
def bN:∀(a b:Bool),((a&&b)=true)=(a=true/\b=true):=@Bool.and_eq_true
def dW:∀{α:Type _}{i:Nat}{a:α}{l:List α},l[i]?=some a↔∃h,l[i]=a:=@List.getElem?_eq_some_iff
def cZ:∀{α:Type _}(y:α){a:α}{l:List α},a∈l->a∈y::l:=@List.mem_cons_of_mem
def cM:∀{α:Type _}{x:α}{xs:List α}{a:α},List.set (x::xs) 0 a=a::xs:=@List.set_cons_zero
def cN:∀{α:Type _}{x:α}{xs:List α}{i:Nat}{a:α},List.set (x::xs) (i+1) a=x::List.set xs i a:=@List.set_cons_succ
def cG:∀{α:Type _}{β:Type _}(a:α)(f:α->Option β),Option.bind (some a) f=f a:=@Option.bind_some
def bP:∀{α:Type _}{β:Type _}(fst:α)(snd:β)(Mb:α)(Mc:β),((fst,snd)=(Mb,Mc))=(fst=Mb/\snd=Mc):=@Prod.mk.injEq
def cA:∀{α:Type _}{β:Type _}(a:α)(f:α->β),Option.map f (some a)=some (f a):=@Option.map_some
def cI:∀{α:Type _}{as:List α}{i:Nat}{a:α},List.length (List.set as i a)=List.length as:=@List.length_set
def di:∀{α:Type _}(l:List α),l<+:l:=@List.prefix_refl
def eT:∀{n m:Nat},Nat.beq n m=true->n=m:=@Nat.eq_of_beq_eq_true
def fy:∀{α:Type _}{b:α}{HF:Type _}{x:Option HF}{f:HF->Option α},Option.bind x f=some b↔∃a,x=some a/\f a=some b:=@Option.bind_eq_some_iff
def bV:∀(n:Nat),n<=n:=@Nat.le_refl
def cS:∀{α:Type _}{b:α}{l:List α}{a:α},a∈b::l↔a=b\/a∈l:=@List.mem_cons
def ew:∀{α:Type _}{a:α}{l:List α},a∈a::l:=@List.mem_cons_self
def cR:∀{n m k:Nat},n<=m->m<=k->n<=k:=@Nat.le_trans
def lB:∀{α:Type _}{l:List α}{i:Nat}(h:i<List.length l),l[i]?=some l[i]:=@List.getElem?_eq_getElem
def dJ:∀(n:Nat),0<=n:=@Nat.zero_le
def fY:∀{α:Type _}{a:α}{as:List α},List.length (a::as)=List.length as+1:=@List.length_cons
def eM:∀(n:Nat),0+n=n:=@Nat.zero_add
def gF:∀{α:Type _}(as:List α),[]++as=as:=@List.nil_append
def nN:∀{α:Type _}{rX Bj:List α}{i:Nat},List.length rX<=i->(rX++Bj)[i]?=Bj[i - List.length rX]?:=@List.getElem?_append_right
def nH:∀{α:Type _}{rX Bj:List α}{i:Nat},i<List.length rX->(rX++Bj)[i]?=rX[i]?:=@List.getElem?_append_left
def gZ:∀(a b:Bool),((a||b)=true)=(a=true\/b=true):=@Bool.or_eq_true
def nq:∀{α:Type _}{b:α}{HF:Type _}{x:Option HF}{f:HF->α},Option.map f x=some b↔∃a,x=some a/\f a=b:=@Option.map_eq_some_iff
def iQ:∀{α:Type _}{a:α}{as bs:List α},a::as++bs=a::(as++bs):=@List.cons_append
def iC:∀{α:Type _}{β:Type _}{f:α->β}{a:α}{l:List α},List.map f (a::l)=f a::List.map f l:=@List.map_cons
def oH:∀{α:Type _}{l:List α}{i:Nat}{a:α},l[i]?=some a->a∈l:=@List.mem_of_getElem?
def nI:∀{α:Type _}(as bs cs:List α),as++bs++cs=as++(bs++cs):=@List.append_assoc
def pO:∀{n m:Nat},Nat.ble n m=true->n<=m:=@Nat.le_of_ble_eq_true
def iT:∀(n m:Nat),n<m\/n ≥ m:=@Nat.lt_or_ge
def ud:∀{α:Type _}{i:Nat}{b:α}{xs:Array α},xs[i]?=some b↔∃h,xs[i]=b:=@Array.getElem?_eq_some_iff
def oI:∀{α:Type _}{as bs:List α},List.length (as++bs)=List.length as+List.length bs:=@List.length_append
def fK:∀(p:Prop),(True/\p)=p:=@true_and
def tE:∀{α:Type _}{l:List α}{i:Nat},List.length l<=i->l[i]?=none:=@List.getElem?_eq_none
def pH:∀{α:Type _}{β:Type _}{f:α->β}{l:List α}{i:Nat},(List.map f l)[i]?=Option.map f l[i]?:=@List.getElem?_map
def rY:∀{n m k:Nat},n<m->m<=k->n<k:=@Nat.lt_of_lt_of_le
def Af:∀{α:Type _}{i:Nat}{l:List α},List.length l<=i->List.take i l=l:=@List.take_of_length_le
def oO:∀{α:Type _}{β:Type _}{as:List α}(f:α->β),List.length (List.map f as)=List.length as:=@List.length_map
def rM:∀(n:Nat),Int.toNat ↑n=n:=@Int.toNat_natCast
def rO:∀{α:Type _}{a:α}{s t:List α},a∈s++t↔a∈s\/a∈t:=@List.mem_append
def oP:∀(b:Bool),(b&&b)=b:=@Bool.and_self
def Ce:∀{α:Type _}{a:α}{l:List α},(a::l)[0]?=some a:=@List.getElem?_cons_zero
def rZ:∀{α:Type _}(head:α)(tail:List α)(HG:α)(HH:List α),(head::tail=HG::HH)=(head=HG/\tail=HH):=@List.cons.injEq
def Ag:∀{α:Type _}(rX Bj:List α),rX<+:rX++Bj:=@List.prefix_append
def ue:∀(b:Bool),((!b)=true)=(b=false):=@Bool.not_eq_true'
def pI:(!true)=false:=@Bool.not_true
def tR:∀{α:Type _}{i:Nat}{l:List α},List.length (List.take i l)=min i (List.length l):=@List.length_take
def tS:∀{α:Type _}{a b:α},Option.getD (some a) b=a:=@Option.getD_some
def tU:∀{α:Type _}{val Cw:α},some val=some Cw->val=Cw:=@Option.some.inj
def Cy:∀{α:Type _}(i:Nat)(l:List α),List.take i l++List.drop i l=l:=@List.take_append_drop
def pP:∀(a:Nat),Nat.beq a a=true:=@Nat.beq_refl
def uf:∀{α:Type _}(as:List α),as++[]=as:=@List.append_nil
def Bk:∀{α:Type _}{l:List α}{i j:Nat},(List.take i l)[j]?=if j<i then l[j]? else none:=@List.getElem?_take
def AM:∀{α:Type _}{l:List α}{i j:Nat}{a:α},(List.set l i a)[j]?=if i=j then if i<List.length l then some a else none else l[j]?:=@List.getElem?_set
def rP:∀(n:Nat),n+0=n:=@Nat.add_zero
def r7:∀{α:Type _}{β:Type _}{b:β}{f:α->β}{l:List α},b∈List.map f l↔∃a,a∈l/\f a=b:=@List.mem_map
def Cz:(true=false)=False:=@Bool.true_eq_false
def DI:∀{α:Type _}{a:α}{as:List α}(bs:List α),a∈as->a∈as++bs:=@List.mem_append_left
def ug:∀(b:Bool),(true&&b)=b:=@Bool.true_and
def Cf:∀{α:Type _}{p:α->Bool}{l:List α},List.all l p=true↔∀(x:α),x∈l->p x=true:=@List.all_eq_true
def DJ:∀{α:Type _}{xs:Array α},List.length (Array.toList xs)=Array.size xs:=@Array.length_toList
def EZ:∀{α:Type _}{i:Nat}{a:α}{l:List α},a∈List.take i l->a∈l:=@List.mem_of_mem_take
def HI:∀{α:Type _}{xs:Array α}{i:Nat}(h:i<Array.size xs),xs[i]?=some xs[i]:=@Array.getElem?_eq_getElem
def FQ:∀{α:Type _}{b:α}(as:List α){bs:List α},b∈bs->b∈as++bs:=@List.mem_append_right
def pJ:∀(p:Prop),(False/\p)=False:=@false_and
def FR:∀{α:Type _}{a:α}{i:Nat}{l:List α},a∈List.drop i l->a∈l:=@List.mem_of_mem_drop
def FT:∀{α:Type _}{p:α->Prop}{a:α}{l:List α},(∀(x:α),x∈a::l->p x)↔p a/\∀(x:α),x∈l->p x:=@List.forall_mem_cons
def HJ:∀{α:Type _}{a:α}{i:Nat}{l:List α},(a::l)[i+1]?=l[i]?:=@List.getElem?_cons_succ
def J6:∀{α:Type _}{i:Nat}{l:List α}(h:i<List.length l),List.drop i l=l[i]::List.drop (i+1) l:=@List.drop_eq_getElem_cons
def Bl:∀(b:Bool),(false||b)=b:=@Bool.false_or
def GZ:∀{α:Type _}{l:List α}{i j:Nat},i ≠ j->∀{a:α},(List.set l i a)[j]?=l[j]?:=@List.getElem?_set_ne
def HK:∀{n m:Nat},n<=m->Nat.ble n m=true:=@Nat.ble_eq_true_of_le
def G0:∀{α:Type _}{β:Type _}{l:List α}{a:α}{f:α->β},a∈l->f a∈List.map f l:=@List.mem_map_of_mem
def Bm:∀{α:Type _}{β:Type _}{f:α->β},List.map f []=[]:=@List.map_nil
def Dr:(!false)=true:=@Bool.not_false
def FU:∀{α:Type _}{β:Type _}{x:α}{xs:List α}{f:α->List β},List.flatMap f (x::xs)=f x++List.flatMap f xs:=@List.flatMap_cons
def J7:∀{α:Type _}{l:List α}{i:Nat}{a:α},i<List.length l->(List.set l i a)[i]?=some a:=@List.getElem?_set_self
def r8:∀(p:Prop),(p/\True)=p:=@and_true
def Ar:∀{a b c:Nat},max a b<=c↔a<=c/\b<=c:=@Nat.max_le
def FV:∀{a b:Nat},a<b->a % b=a:=@Nat.mod_eq_of_lt
def G1:∀{α:Type _}{l:List α}{i:Nat},List.take (i+1) l=List.take i l++Option.toList l[i]?:=@List.take_add_one
def HM:∀{α:Type _}{a b:α},a∈[b]↔a=b:=@List.mem_singleton
def HN:∀{α:Type _}{xs:List α}{i j:Nat},(List.drop i xs)[j]?=xs[i+j]?:=@List.getElem?_drop
def E0:∀{α:Type _}{l:List α},List.drop 0 l=l:=@List.drop_zero
def FX:∀(a b:Nat),a<=max a b:=@Nat.le_max_left
def FY:∀{a b:Bool},a=b↔(a=true↔b=true):=@Bool.eq_iff_iff
def G2:∀{α:Type _}{l:List α},List.take (List.length l) l=l:=@List.take_length
def KC:∀{α:Sort _}{p:α->Prop}(h:∃x,p x),p (Classical.choose h):=@Classical.choose_spec
def CA:∀(n m k:Nat),(n+m) * k=n * k+m * k:=@Nat.add_mul
def HO:∀{α:Type _}{rX Bj:List α},(∀(i:Nat),rX[i]?=Bj[i]?)->rX=Bj:=@List.ext_getElem?
def Md:∀{α:Type _}{l:List α},List.length l=0↔l=[]:=@List.length_eq_zero_iff
def Ny:∀{α:Type _}{l:List α}{i:Nat}{a:α},List.getD l i a=Option.getD l[i]? a:=@List.getD_eq_getElem?_getD
def DK:∀{n m:Nat},n<m->n<=m:=@Nat.le_of_lt
def KD:∀{x y:Bool},(x||y)=false↔x=false/\y=false:=@Bool.or_eq_false_iff
def J8:∀(b:Bool),(¬b=false)=(b=true):=@Bool.not_eq_false
def Me:∀{α:Type _}{xs:Array α}{i:Nat},(Array.toList xs)[i]?=xs[i]?:=@Array.getElem?_toList
def G3:∀(b:Bool),(false&&b)=false:=@Bool.false_and
def KF:∀(a b:Nat),b<=max a b:=@Nat.le_max_right
def G4:∀(n:Nat),n - n=0:=@Nat.sub_self
def Cg:∀(p:Prop),(False\/p)=p:=@false_or
def HP:∀(n m k:Nat),n+m+k=n+(m+k):=@Nat.add_assoc
def Nz:∀{n m:Nat}(k:Nat),n<=m->n * k<=m * k:=@Nat.mul_le_mul_right
def NA:∀{α:Type _}{l:List α},0<List.length l↔l ≠ []:=@List.length_pos_iff
def NB:∀(n:Nat),n=0\/n > 0:=@Nat.eq_zero_or_pos
def G5:∀{x y:Nat},(Nat.beq x y=true)=(x=y):=@Nat.beq_eq
def G6:∀{x y:Nat},(Nat.blt x y=true)=(x<y):=@Nat.blt_eq
def E1:∀(p:Prop),(p\/False)=p:=@or_false
def Mf:Int.toNat 0=0:=@Int.toNat_zero
def NC:∀{a b:Nat},a<=b->min a b=a:=@Nat.min_eq_left
def J9:∀{a b:Nat},¬a<b↔b<=a:=@Nat.not_lt
def U_:∀(m n:Nat),m >>> n=m / 2 ^ n:=@Nat.shiftRight_eq_div_pow
def PV:∀(n:Nat),n<Nat.succ n:=@Nat.lt_succ_self
def PW:∀(n:Nat),Nat.succ n ≠ 0:=@Nat.succ_ne_zero
def ND:∀(n:Nat),n * 1=n:=@Nat.mul_one
end Go
namespace Go.Vm
open Go
section
def aT{α:Sort _}{h:Decidable True}(t e:α):@ite α True h t e=t:=if_true ..
def aZ{α:Sort _}{h:Decidable False}(t e:α):@ite α False h t e=e:=if_false ..
inductive Own where
 |no|yes (e:TypeId)|lock
 deriving DecidableEq,Inhabited
inductive V where
 |bool (b:Bool)
 |int (k:IntKind) (n:Int)
 |str (s:List Nat)
 |dx|ptr (b off:Nat)|gj (g off:Nat)|obj (k:Nat)|vp (cs:List V)
 |aU|sl (sz:Nat) (xs:List V) (o:Own)|sr (b off len cap:Nat)
 |mB|map (b:Nat)
 |nx|fn (f:Fn) (first cap:List V)
 |bq|bf (t:TypeId) (v:V)
 |fA (b u len:Nat)|ny (b u k:Nat)
 |agg (cs:List V)
 |bx (vs:List V)
 |mC
 deriving Inhabited
abbrev aC:=List (Nat×Nat)
abbrev aV:=List (V×List V)
abbrev i_:=Option (Nat×Bool)
abbrev dy:=List Value
abbrev cO:=Array Value
abbrev nO:=Array Operand
abbrev bA:=List Tmp
abbrev eC:=Option Tmp
abbrev aj:=List V
abbrev bS:=Option V
abbrev aR:=List Nat
abbrev ai:=TypeId
abbrev aD:=Program
abbrev aB:=World
abbrev aP:=Value
abbrev aH:=Operand
def eF:V->Bool
 | .bx _|.mC=>false
 | _=>true
def V.cells:V->aj
 | .agg cs=>cs
 | v=>[v]
def aX:V->V
 | .sl sz xs _=>.sl sz xs .no
 | v=>v
def V.laid:V->aj
 | .agg cs=>cs.map aX
 | v=>[v]
mutual
def V.top:V->Nat
 | .ptr b _|.sr b _ _ _|.map b=>b+1
 | .fA b _ _|.ny b _ _=>b+1
 | .vp cs|.sl _ cs _|.agg cs|.bx cs=>aA cs
 | .fn _ a c=>max (aA a) (aA c)
 | .bf _ v=>v.top
 | _=>0
def aA:aj->Nat
 | []=>0
 | v::vs=>max v.top (aA vs)
end
def nth{α:Type}:List α->Nat->Option α
 | [],_=>none
 | x::_,0=>some x
 | _::xs,n+1=>nth xs n
def wa{β:Type}(n:Nat)(k:Nat->β):β :=
 match n with
 | 0=>k 0
 | m+1=>k (m+1)
def Yc{β:Type}(n:Int)(k:Int->β):β :=
 match n with
 | .ofNat m=>wa m λm=>k (.ofNat m)
 | .negSucc m=>wa m λm=>k (.negSucc m)
def Va{β:Type}:aR->(aR->β)->β
 | [],k=>k []
 | x::xs,k=>wa x λx=>Va xs λys=>k (x::ys)
def fL{α β:Type}:List α->(List α->β)->β
 | [],k=>k []
 | x::xs,k=>fL xs λys=>k (x::ys)
def fC{β:Type}(v:V)(k:V->β):β :=
 match v with
 | .bool true=>k (.bool true)
 | .bool false=>k (.bool false)
 | .int kd n=>Yc n λn=>k (.int kd n)
 | .str s=>Va s λs=>k (.str s)
 | .ptr b o=>wa b λb=>wa o λo=>k (.ptr b o)
 | .sr b o n c=>wa b λb=>wa o λo=>wa n λn=>wa c λc=>k (.sr b o n c)
 | .map b=>wa b λb=>k (.map b)
 | .fA b u n=>wa b λb=>wa u λu=>wa n λn=>k (.fA b u n)
 | .ny b u j=>wa b λb=>wa u λu=>wa j λj=>k (.ny b u j)
 | .sl sz xs o=>fL xs λxs=>k (.sl sz xs o)
 | .vp cs=>fL cs λcs=>k (.vp cs)
 | v=>k v
def DL{β:Type}:aj->(aj->β)->β
 | [],k=>k []
 | x::xs,k=>fC x λx=>DL xs λys=>k (x::ys)
def fV{β:Type}(v:V)(k:V->β):β :=
 match v with
 | .agg cs=>DL cs λcs=>k (.agg cs)
 | .bx cs=>DL cs λcs=>k (.bx cs)
 | .fn f a c=>DL a λa=>DL c λc=>k (.fn f a c)
 | v=>fC v k
def Mg{α β:Type}:List α->Nat->α->(List α->β)->β
 | [],_,_,k=>k []
 | _::xs,0,v,k=>k (v::xs)
 | x::xs,n+1,v,k=>Mg xs n v λys=>k (x::ys)
inductive aN where
 |cells (cs:aj) (t:ai)
 |map (es:List (V×V))
 |iter (s:aR) (pos:Nat)
 |ul (bZ sz:Nat) (cs:aj) (e:ai)
 deriving Inhabited
structure Hp where
 af:List aN
 aS:aC
 deriving Inhabited
def Hp.push(H:Hp)(b:aN):Hp:={ H with af:=H.af++[b] }
def Hp.get(H:Hp)(b:Nat):Option aN:=nth H.af b
def Hp.set(H:Hp)(b:Nat)(x:aN):Hp:={ H with af:=H.af.set b x }
def Hp.bQ(H:Hp)(b:Nat)(v:V):Hp:=if v.top<=b+1 then H else { H with aS:=(b,v.top)::H.aS }
inductive Out where
 |ret (v:V)
 |rQ (v:V)
inductive Ex where
 |normal|exit (id:Nat)|goto (l:Nat)|ret|rQ (v:V)
inductive OR where
 |val (v:V)
 |skip
 |rQ (v:V)
def oJ:V->Bool
 | .agg _|.bx _|.mC=>false
 | _=>true
mutual
def aF:aP->bS
 | .bool b=>some (.bool b)
 | .int k n=>some (.int k n)
 | .string s=>some (.str (s.data.toList.map UInt8.toNat))
 | .pointer none=>some .dx
 | .slice none 0 0=>some .aU
 | .map none=>some .mB
 | .nilFunc=>some .nx
 | .func f ⟨[]⟩ ⟨[]⟩=>some (.fn f [] [])
 | .nilIface=>some .bq
 | .agg ⟨cs⟩=>(nP cs).bind λl=>if l.all oJ then some (.agg l) else none
 | .tuple ⟨[]⟩=>some (.bx [])
 | _=>none
def nP:dy->Option aj
 | []=>some []
 | v::vs=>match aF v,nP vs with
  | some x,some xs=>some (x::xs)
  | _,_=>none
end
section
variable(P:aD)
def z9(t:ai):Option Nat:=(P.info? t).map (·.size)
def jI(t:ai):Option Bool:=(P.underlying t).map λ|.struct _|.array _ _=>true|_=>false
def qO(t:ai):bS:=(P.info? t).bind λi=>i.zero.bind aF
def jZ(t:ai)(cs:aj)(off:Nat):bS:=do
 if <- jI P t then
  let n <- z9 P t
  if off+n<=cs.length then some (.agg ((cs.drop off).take n)) else none
 else nth cs off
def KG(isAgg:Bool)(sz:Nat):Nat->aj->aj
 | 0,_=>[]
 | n+1,cs=>(if isAgg then .agg (cs.take sz) else cs.headD .mC)::KG isAgg sz n (cs.drop sz)
def kE(H:Hp)(elem:ai):V->Option aj
 | .aU=>some []
 | .sl sz xs _=>do
  let n <- z9 P elem
  if n=sz then some xs else none
 | .sr b off len _=>do
  let .cells cs _ <- H.get b|none
  let n <- z9 P elem
  let ag <- jI P elem
  if Nat.ble (off+len * n) cs.length && (ag || Nat.beq n 1) then some (KG ag n len ((cs.drop off).map aX)) else none
 | _=>none
def mc:aj->Option aR
 | []=>some []
 | .int .u8 n::r=>(mc r).map ((n.toNat % 256)::·)
 | _=>none
def sU:aR->aR->Bool
 | [],[]=>true
 | a::x,b::y=>Nat.beq a b && sU x y
 | _,_=>false
def HQ:aR->aR->Bool
 | _,[]=>false
 | [],_::_=>true
 | a::x,b::y=>Nat.blt a b || (Nat.beq a b && HQ x y)
def NF(eq:ai->V->V->Option Bool):List Field->aj->aj->Option Bool
 | [],_,_=>some true
 | f::fs,xs,ys =>
  if f.name= "_" then none else do
   let a <- jZ P f.type xs f.offset
   let b <- jZ P f.type ys f.offset
   if <- eq f.type a b then NF eq fs xs ys else some false
def J_(eq:ai->V->V->Option Bool)(e:ai)(n:Nat)(xs ys:aj):Nat->Nat->Option Bool
 | _,0=>some true
 | i,k+1=>do
  let a <- jZ P e xs (i * n)
  let b <- jZ P e ys (i * n)
  if <- eq e a b then J_ eq e n xs ys (i+1) k else some false
def Ch(ds:TypeDesc)(x y:V):Option Bool :=
 match ds with
 | .bool=>match x,y with
  | .bool a,.bool b=>some (a == b)
  | _,_=>none
 | .int _=>match x,y with
  | .int k a,.int k' b=>if k=k' then some (a == b) else none
  | _,_=>none
 | .string=>match x,y with
  | .str a,.str b=>some (sU a b)
  | _,_=>none
 | .pointer _=>match x,y with
  | .dx,.dx=>some true
  | .dx,.ptr _ _=>some false
  | .ptr _ _,.dx=>some false
  | .dx,.obj _=>some false
  | .obj _,.dx=>some false
  | _,_=>none
 | .interface _=>match x,y with
  | .bq,.bq=>some true
  | .bq,.bf _ _=>some false
  | .bf _ _,.bq=>some false
  | .bf tx _,.bf ty _=>if tx=ty then none else some false
  | _,_=>none
 | .slice _=>match x,y with
  | .aU,.aU=>some true
  | .aU,.sl _ (_::_) _=>some false
  | .sl _ (_::_) _,.aU=>some false
  | .aU,.sr _ _ _ _=>some false
  | .sr _ _ _ _,.aU=>some false
  | _,_=>none
 | .map _ _=>match x,y with
  | .mB,.mB=>some true
  | .mB,.map _=>some false
  | .map _,.mB=>some false
  | _,_=>none
 | .func _ _ _=>match x,y with
  | .nx,.nx=>some true
  | .nx,.fn _ _ _=>some false
  | .fn _ _ _,.nx=>some false
  | _,_=>none
 | _=>none
def ov:Nat->ai->V->V->Option Bool
 | 0,_,_,_=>none
 | d+1,t,x,y=>match P.underlying t with
  | none=>none
  | some ds=>match x,y with
   | .agg xs,.agg ys=>match ds with
    | .struct fs=>if P.stoodInHeld t then none else NF P (ov d) fs.toList xs ys
    | .array len e=>match z9 P e with
     | some n=>J_ P (ov d) e n xs ys 0 len
     | none=>none
    | _=>none
   | x,y=>Ch ds x y
def isConst:aH->Bool
 | .const _=>true
 | _=>false
def kF(t:ai)(x y:aH)(u v:V):Bool :=
 match u,v with
 | .bq,.bq=>isConst x || isConst y
 | .agg _,.agg _=>!P.eqGuardType P.depth t
 | .mC,_=>false
 | _,.mC=>false
 | _,_=>true
def jK(op:BinOp)(t:ai)(x y:aH)(u v:V):Bool :=
 match op with
 | .eql=>kF P t x y u v
 | .neq=>kF P t x y u v
 | _=>true
def Vb(op:BinOp)(k:IntKind)(x y:Int):bS :=
 if y<0 then none else
 let n:=min y.toNat k.bits
 match op with
 | .shl=>some (.int k (k.wrap (x * 2 ^ n)))
 | .shr=>some (.int k (x.fdiv (2 ^ n)))
 | _=>none
def v6(op:BinOp)(k:IntKind)(x y:Int):bS :=
 match op with
 | .add=>some (.int k (k.wrap (x+y)))
 | .sub=>some (.int k (k.wrap (x - y)))
 | .mul=>some (.int k (k.wrap (x * y)))
 | .quo=>if y=0 then none else some (.int k (k.wrap (x.tdiv y)))
 | .rem=>if y=0 then none else some (.int k (x.tmod y))
 | .and=>some (.int k (k.wrap ((BitVec.ofInt k.bits x &&& BitVec.ofInt k.bits y).toNat)))
 | .or=>some (.int k (k.wrap ((BitVec.ofInt k.bits x ||| BitVec.ofInt k.bits y).toNat)))
 | .xor=>some (.int k (k.wrap ((BitVec.ofInt k.bits x ^^^ BitVec.ofInt k.bits y).toNat)))
 | .andNot=>some (.int k (k.wrap ((BitVec.ofInt k.bits x &&& ~~~ (BitVec.ofInt k.bits y)).toNat)))
 | .eql=>some (.bool (x == y))
 | .neq=>some (.bool (x != y))
 | .lss=>some (.bool (x<y))
 | .leq=>some (.bool (x<=y))
 | .gtr=>some (.bool (x > y))
 | .geq=>some (.bool (x ≥ y))
 | _=>none
def Rz(op:BinOp)(x y:aR):bS :=
 match op with
 | .add=>if x.length+y.length<=140737488355328 then some (.str (x++y)) else none
 | .eql=>some (.bool (sU x y))
 | .neq=>some (.bool !(sU x y))
 | .lss=>some (.bool (HQ x y))
 | .leq=>some (.bool (HQ x y || sU x y))
 | .gtr=>some (.bool !(HQ x y || sU x y))
 | .geq=>some (.bool !(HQ x y))
 | _=>none
def vn(op:BinOp)(t:ai)(x y:V):bS :=
 match op,x,y with
 | .shl,.int k a,.int _ b|.shr,.int k a,.int _ b=>Vb op k a b
 | _,.int k a,.int k' b=>if k=k' then v6 op k a b else none
 | _,.str a,.str b=>Rz op a b
 | .eql,x,y=>(ov P 100 t x y).map .bool
 | .neq,x,y=>(ov P 100 t x y).map λb=>.bool !b
 | _,_,_=>none
def NG(op:UnOp)(x:V):bS :=
 match op,x with
 | .neg,.int k n=>some (.int k (k.wrap (0 - n)))
 | .xor,.int k n=>v6 .xor k (if k.signed then -1 else k.max) n
 | .not,.bool b=>some (.bool !b)
 | _,_=>none
def vM(src dst:ai)(x:V):bS:=do
 match <- P.underlying src,<- P.underlying dst,x with
 | _,.int k,.int _ n=>some (.int k (k.wrap n))
 | _,.string,.int _ n=>some (.str ((Utf8.encode n).data.toList.map UInt8.toNat))
 | _,.string,.str s=>some (.str s)
 | .slice e,.string,.aU=>do
  let .int .u8 <- P.underlying e|none
  some (.str [])
 | .slice e,.string,.sl 1 xs _=>do
  let .int .u8 <- P.underlying e|none
  (mc xs).map .str
 | .string,.slice e,.str s=>do
  let .int .u8 <- P.underlying e|none
  some (.sl 1 (s.map λ(b:Nat)=>.int .u8 b) .no)
 | _,_,_=>none
def jL(v:bS)(d:Nat):Option Nat :=
 match v with
 | none=>some d
 | some (.int _ n)=>if 0<=n then some n.toNat else none
 | _=>none
def yp(t:ai)(x:V)(lo hi:bS):bS:=do
 match <- P.underlying t,x with
 | .string,.str s=>do
  let h <- jL hi s.length
  let l <- jL lo 0
  if l<=h/\h<=s.length then some (.str ((s.take h).drop l)) else none
 | .slice e,.sl sz xs _=>do
  let h <- jL hi xs.length
  let l <- jL lo 0
  let n <- z9 P e
  if l<=h/\h<=xs.length/\n=sz then some (.sl sz ((xs.take h).drop l) .no) else none
 | .slice e,.aU=>do
  let h <- jL hi 0
  let l <- jL lo 0
  let _ <- z9 P e
  if l=0/\h=0 then some .aU else none
 | .slice e,.sr b off len cap=>do
  let h <- jL hi len
  let l <- jL lo 0
  let n <- z9 P e
  if l<=h/\h<=cap/\l<cap then some (.sr b (off+l * n) (h - l) (cap - l)) else
  if l=h/\h<=cap then some (.sl n [] .no) else none
 | _,_=>none
def zA(H:Hp)(gl:Nat->Nat->bS)(t:ai)(a:V):bS:=do
 match a with
 | .ptr b off=>do
  let .cells cs _ <- H.get b|none
  jZ P t cs off
 | .vp cs=>jZ P t cs 0
 | .ny b u k=>do
  let .ul bZ _ cs _ <- H.get b|none
  if Nat.beq bZ u then jZ P t cs k else none
 | .gj g off=>if <- jI P t then none else gl g off
 | _=>none
def PX(a b:V):Option Bool :=
 match a,b with
 | .int k x,.int k' y=>if k=k' then some (x == y) else none
 | .str x,.str y=>some (sU x y)
 | .bool x,.bool y=>some (x == y)
 | _,_=>none
def G7(ds:TypeDesc)(k:V):Bool :=
 match ds,k with
 | .int _,.int _ _=>true
 | .string,.str _=>true
 | .bool,.bool _=>true
 | _,_=>false
def PY(k:V):List (V×V)->Option bS
 | []=>some none
 | (a,v)::r=>match PX k a with
  | some true=>some (some v)
  | some false=>PY k r
  | none=>none
def PZ(k x:V):List (V×V)->Option (List (V×V))
 | []=>some [(k,x)]
 | (a,v)::r=>match PX k a with
  | some true=>some ((k,x)::r)
  | some false=>(PZ k x r).map ((a,v)::·)
  | none=>none
def KH(l:aR):Nat×Nat :=
 let at' (k:Nat):Nat:=l.getD k 0
 let cont (k:Nat):Bool:=Nat.blt k l.length && Nat.beq (at' k / 64) 2
 let b0:=at' 0
 if b0<0x80 then (b0,1)
 else if b0 / 32 == 6 && cont 1 then
  let c:=(b0 % 32) * 64+at' 1 % 64
  if c ≥ 0x80 then (c,2) else (Utf8.runeError,1)
 else if b0 / 16 == 14 && cont 1 && cont 2 then
  let c:=(b0 % 16) * 4096+(at' 1 % 64) * 64+at' 2 % 64
  if c ≥ 0x800 && Utf8.valid c then (c,3) else (Utf8.runeError,1)
 else if b0 / 8 == 30 && cont 1 && cont 2 && cont 3 then
  let c:=(b0 % 8) * 262144+(at' 1 % 64) * 4096+(at' 2 % 64) * 64+at' 3 % 64
  if c ≥ 0x10000 && Utf8.valid c then (c,4) else (Utf8.runeError,1)
 else (Utf8.runeError,1)
def qJ(t:ai)(v:V)(name:String):Option (FuncId×V):=do
 let i <- P.info? t
 let m <- i.methods.find? (·.name == name)
 if !m.path.isEmpty then none else
 let (f,pr) <- m.func
 match <- P.underlying t,pr with
 | .pointer _,true=>some (f,v)
 | .pointer _,false=>none
 | _,true=>none
 | _,false=>some (f,v)
def storeCells{α:Type}(cs:List α)(off:Nat):List α->List α
 | []=>cs
 | v::vs=>storeCells (cs.set off v) (off+1) vs
def locked:V->Bool
 | .sl _ _ .lock=>true
 | _=>false
def Yd(name:String)(args:aj):bS :=
 match name,args with
 | "internal/bytealg.IndexByteString",[.str s,.int .u8 c]=>if 0<=c/\c<256 then some (.int .i64 (match s.findIdx? (λ(b:Nat)=>Nat.beq b c.toNat) with|some i=>i|none=>-1)) else none
 | _,_=>none
end
def FZ:List Oper->bA
 | [a,b]=>match a.dst,b.dst,b.op with
  | some k,some r,.assign (.tmp x)=>match Nat.beq k 19 && Nat.beq x 19 && Nat.beq r 2 with
   | true=>[k]
   | false=>[]
  | _,_,_=>[]
 | _=>[]
def wi(ops:Array Oper):bA :=
 (ops.toList.filterMap λo=>match o.op with
  | .call { callee:=.builtin .append,args,.. }=>match (args[0]?:Option aH) with
   | some (.tmp t)=>some t
   | _=>none
  | _=>none)++FZ ops.toList
structure Cx where
 P:aD
 gl:Nat->Nat->bS
 call:FuncId->aj->Hp->Option (Out×Hp)
 uq:ai->Bool
def aq(env:aj):aH->bS
 | .tmp t=>match nth env t with
  | some v=>some (aX v)
  | none=>none
 | .const v=>aF v
 | .global g=>some (.gj g 0)
 | .func f=>some (.fn (.func f) [] [])
def d_(env:aj):Option aH->Option bS
 | none=>some none
 | some x=>match aq env x with
  | some v=>some (some v)
  | none=>none
def take(env:aj):aH->Option (V×aj)
 | .tmp t=>match nth env t with
  | some (.sl sz xs (.yes e))=>Mg env t (.sl sz xs .no) λenv=>some (.sl sz xs (.yes e),env)
  | some v=>some (aX v,env)
  | none=>none
 | x=>(aq env x).map (·,env)
def bt(env:aj):List aH->Option aj
 | []=>some []
 | x::xs=>match aq env x with
  | none=>none
  | some v=>fV v λv=>match bt env xs with
   | none=>none
   | some vs=>some (v::vs)
structure St where
 env:aj
 H:Hp
 lk:aC
 defers:aV
def KI{β:Type}(H:Hp)(b:aN)(k:Nat->Hp->β):β :=
 match H with
 | ⟨bs,es⟩=>wa bs.length λn=>fL (bs++[b]) λbs=>k n ⟨bs,es⟩
def HS{β:Type}(H:Hp)(b:Nat)(x:aN)(v:V)(k:Hp->β):β :=
 match H with
 | ⟨bs,es⟩=>Mg bs b x λbs=>if v.top<=b+1 then k ⟨bs,es⟩ else wa v.top λt=>k ⟨bs,(b,t)::es⟩
def KJ:Out×Hp->OR×Hp
 | (.ret v,H)=>(.val v,H)
 | (.rQ v,H)=>(.rQ v,H)
def Cx.cX(cx:Cx)(f:FuncId)(args:aj)(H:Hp):Option (OR×Hp) :=
 match cx.P.funcs[f]? with
 | none=>none
 | some fn=>match fn.body with
  | none=>match Yd fn.name args with
   | none=>none
   | some v=>some (.val v,H)
  | some _=>match cx.call f args H with
   | none=>none
   | some r=>some (KJ r)
def Cx.mD(cx:Cx)(fv:V)(args:aj)(H:Hp):Option (OR×Hp) :=
 match fv with
 | .fn (.func f) first cap=>fL ((first++args++cap).map aX) λargs=>cx.cX f args H
 | .fn (.method name) first _ =>
  match first++args with
  | .bf t v::rest=>match qJ cx.P t v name with
   | none=>none
   | some (f,r)=>fL ((r::rest).map aX) λargs=>cx.cX f args H
  | _=>none
 | _=>none
def jJ(n bytes:Nat):Bool:=Nat.ble n 140737488355328 && Nat.ble (n * bytes) 140737488355328
def jN(P:aD)(H:Hp)(t:ai)(v y:V):bS:=do
 let .slice e <- P.underlying t|none
 let n <- z9 P e
 let i <- P.info? e
 let z <- i.zero
 if !Nat.beq z.cells.size n then none else
 let ys <- kE P H e y
 match v with
 | .aU=>match ys with
  | []=>some .aU
  | ys=>if jJ ys.length i.bytes && !Nat.beq n 0 then some (.sl n ys (.yes e)) else none
 | .sl sz xs (.yes e')=>if Nat.beq e e' && Nat.beq n sz && !Nat.beq n 0 && jJ (xs.length+ys.length) i.bytes then some (.sl n (xs++ys) (.yes e)) else none
 | _=>none
def jM(P:aD)(H:Hp)(t:ai)(v:V):Option Int :=
 match P.underlying t,v with
 | some .string,.str l=>some l.length
 | some (.slice _),.aU=>some 0
 | some (.slice _),.sl _ xs _=>some xs.length
 | some (.slice _),.sr _ _ n _=>some n
 | some (.slice _),.fA _ _ n=>some n
 | some (.map _ _),.mB=>some 0
 | some (.map _ _),.map b=>match H.get b with
  | some (.map es)=>some es.length
  | _=>none
 | _,_=>none
def Cx.builtin(cx:Cx)(b:Builtin)(argTypes:Array ai)(args:nO)(env:aj)(H:Hp):Option (OR×aj) :=
 match b,args.toList,argTypes.toList with
 | .len,[x],[t]=>do some (.val (.int .i64 (<- jM cx.P H t (<- aq env x))),env)
 | .append,[x,y],[t,u]=>do
  if !Nat.beq t u then none else
  let y <- aq env y
  let (v,env) <- take env x
  some (.val (<- jN cx.P H t v y),env)
 | .min,[x,y],_=>do
  match <- aq env x,<- aq env y with
  | .int k a,.int _ b=>some (.val (.int k (if b<a then b else a)),env)
  | _,_=>none
 | .max,[x,y],_=>do
  match <- aq env x,<- aq env y with
  | .int k a,.int _ b=>some (.val (.int k (if b > a then b else a)),env)
  | _,_=>none
 | _,_,_=>none
def vN(cells:aj)(place:Nat->Option (Nat×Nat))(env:aj):List (Nat×aH)->Option aj
 | []=>some cells
 | (i,x)::r=>do
  let v <- aq env x
  let (off,n) <- place i
  if eF v && Nat.beq v.cells.length n && Nat.ble (off+n) cells.length then vN (storeCells cells off v.cells) place env r else none
def Ye(P:aD)(fs:Array Field):Option aC:=fs.toList.mapM (λf=>(P.info? f.type).map λi=>(f.offset,i.size))
def ki(P:aD)(t:ai)(parts:Array (Nat×aH))(env:aj):bS :=
 match qO P t with
 | none=>none
 | some z=>if !eF z then none else match P.underlying t with
  | some (.struct fs)=>match Ye P fs with
   | some ps=>(vN z.cells (nth ps) env parts.toList).map .agg
   | none=>none
  | some (.array _ e)=>match P.info? e with
   | some ie=>(vN z.cells (λi=>some (i * ie.size,ie.size)) env parts.toList).map .agg
   | none=>none
  | _=>none
def DM(n len:Nat)(env:aj):aj->List (Nat×aH)->Option aj
 | xs,[]=>some xs
 | xs,(i,x)::r=>do
  let v <- aq env x
  if eF v && Nat.beq v.cells.length n && Nat.blt i len then fV v λv=>Mg xs i v λxs=>DM n len env xs r else none
def Yf(P:aD)(t:ai)(k:V):Bool :=
 match P.underlying t with
 | some (.map kt _)=>match P.underlying kt with
  | some kd=>G7 kd k
  | none=>false
 | _=>false
def zO(P:aD)(t:ai)(x:V)(i:Int):bS :=
 match P.underlying t with
 | some (.array len e)=>match z9 P e with
  | none=>none
  | some n=>match x with
   | .ptr b off=>if 0<=i/\i<len then some (.ptr b (off+i.toNat * n)) else none
   | .gj g off=>if 0<=i/\i<len then some (.gj g (off+i.toNat * n)) else none
   | .ny b u k=>if 0<=i/\i<len then some (.ny b u (k+i.toNat * n)) else none
   | .vp cs=>if 0<=i/\i<len then some (.vp (cs.drop (i.toNat * n))) else none
   | _=>none
 | some (.slice e)=>match z9 P e with
  | none=>none
  | some n=>match x with
   | .sl sz xs _=>if Nat.beq n sz then (if i<0 then none else match nth xs i.toNat with
    | some x=>some (.vp x.cells)
    | none=>none) else none
   | .sr b off len _=>if 0<=i/\i<len then some (.ptr b (off+i.toNat * n)) else none
   | .fA b u len=>if 0<=i/\i<len then some (.ny b u (i.toNat * n)) else none
   | _=>none
 | _=>none
def P0(P:aD)(t:ai)(x:V)(i:Int):bS :=
 match P.underlying t with
 | some (.array len e)=>match z9 P e with
  | none=>none
  | some n=>match x with
   | .agg cs=>if 0<=i/\i<len then (jZ P e cs (i.toNat * n)).map aX else none
   | _=>none
 | some .string=>match x with
  | .str l=>if i<0 then none else match nth l i.toNat with
   | some b=>some (.int .u8 b)
   | none=>none
  | _=>none
 | _=>none
def bp:V->bS
 | .ptr b o=>some (.ptr b o)
 | .gj b o=>some (.gj b o)
 | .ny b u k=>some (.ny b u k)
 | .vp cs=>some (.vp cs)
 | .obj k=>some (.obj k)
 | .fn (.func f) a c=>some (.fn (.func f) a c)
 | .bf t v=>some (.bf t v)
 | _=>none
def yq(P:aD)(t:ai):Bool :=
 match P.underlying t with
 | none=>true
 | some (.interface _)=>true
 | _=>false
def Yg(H:Hp):V->Option (List (V×V))
 | .mB=>some []
 | .map b=>match H.get b with
  | some (.map es)=>some es
  | _=>none
 | _=>none
def Yh(P:aD)(e:ai)(k:V)(es:List (V×V)):Option (V×Bool) :=
 match PY k es with
 | some (some v)=>some (v,true)
 | some none=>(qO P e).map (·,false)
 | none=>none
def qi(P:aD)(gl:Nat->Nat->bS)(o:Oper)(env:aj)(H:Hp):bS:=do
 let ρ:=aq env
 match o.op with
 | .move x=>ρ x
 | .pick c a b=>do
  let .bool t <- ρ c|none
  match t with
  | true=>ρ a
  | false=>ρ b
 | .build t parts=>ki P t parts env
 | .buildSlice t len parts=>do
  let .slice e <- P.underlying t|none
  let n <- z9 P e
  let z <- qO P e
  if Nat.beq n 0 || Nat.blt 16777216 (len * n) || !Nat.beq z.cells.length n || !eF z then none else
  let xs <- DM n len env (List.replicate len z) parts.toList
  some (.sl n xs (.yes e))
 | .load t a=>do
  let v <- zA P H gl t (<- ρ a)
  some (aX v)
 | .nilCheck x=>do
  bp (<- ρ x)
 | .binOp op t x y _=>do
  let u <- ρ x
  let v <- ρ y
  if jK P op t x y u v then vn P op t u v else none
 | .unOp op _ x=>do NG op (<- ρ x)
 | .convert a b x=>do vM P a b (<- ρ x)
 | .makeInterface t x=>do
  let v <- ρ x
  if yq P t then none else some (.bf t v)
 | .makeFunc fn first cap=>do some (.fn fn (<- bt env first.toList) (<- bt env cap.toList))
 | .slice t x lo hi mx=>do
  if mx.isSome then none else
  let lo' <- d_ env lo
  let tF <- d_ env hi
  yp P t (<- ρ x) lo' tF
 | .fieldAddr t x f=>do
  let .struct fs <- P.underlying t|none
  let fd <- fs[f]?
  if Nat.beq (<- z9 P fd.type) 0 then none else
  match <- ρ x with
  | .ptr b off=>some (.ptr b (off+fd.offset))
  | .gj g off=>some (.gj g (off+fd.offset))
  | .ny b u k=>some (.ny b u (k+fd.offset))
  | .vp cs=>some (.vp (cs.drop fd.offset))
  | _=>none
 | .field t x f=>do
  let .struct fs <- P.underlying t|none
  let fd <- fs[f]?
  let .agg cs <- ρ x|none
  (jZ P fd.type cs fd.offset).map aX
 | .indexAddr t x ix=>do
  let .int _ i <- ρ ix|none
  zO P t (<- ρ x) i
 | .index t x ix=>do
  let .int _ i <- ρ ix|none
  P0 P t (<- ρ x) i
 | .lookup t m k ok=>do
  let .map kt e <- P.underlying t|none
  let kd <- P.underlying kt
  let k <- ρ k
  if !G7 kd k then none else
  let es <- Yg H (<- ρ m)
  let (v,f) <- Yh P e k es
  some (if ok then .bx [aX v,.bool f] else aX v)
 | .typeAssert x _ t ok=>do
  if yq P t then none else
  match <- ρ x with
  | .bq=>if ok then do some (.bx [<- qO P t,.bool false]) else none
  | .bf u v=>if Nat.beq u t then some (if ok then .bx [aX v,.bool true] else aX v) else if ok then do some (.bx [<- qO P t,.bool false]) else none
  | _=>none
 | .extract x i=>do
  let .bx vs <- ρ x|none
  match nth vs i with
  | some v=>some (aX v)
  | none=>none
 | _=>none
def wK(lk:aC)(b:Nat):Nat->Nat->aj->Bool
 | _,0,_=>true
 | _,_,[]=>false
 | off,n+1,c::cs=>(!locked c || lk.any λp=>Nat.beq p.1 b && Nat.beq p.2 off) && wK lk b (off+1) n cs
def dr:aj->aj
 | []=>[]
 | v::vs=>v.cells++dr vs
def CB(P:aD)(uq:ai->Bool)(t:ai):Bool :=
 match P.underlying t with
 | some (.slice e)=>uq e
 | _=>false
def vO(P:aD)(a b:ai)(x:aH)(env:aj):Option (V×aj) :=
 match Nat.beq a b,P.underlying a with
 | true,some (.slice e)=>match P.underlying e,take env x with
  | some (.int .u8),some (.sl sz (y::ys) (.yes _),env)=>some (.sl sz (y::ys) .no,env)
  | _,_=>none
 | _,_=>none
def Cx.m6(cx:Cx)(t:ai)(x y:aH)(env:aj)(H:Hp)(lk:aC)(df:aV):Option (OR×St):=do
 let .slice e <- cx.P.underlying t|none
 let n <- z9 cx.P e
 let i <- cx.P.info? e
 let z <- i.zero
 let ys <- kE cx.P H e (<- aq env y)
 if !Nat.beq z.cells.size n || Nat.beq n 0 then none else
 match <- aq env x with
 | .aU=>match ys with
  | []=>some (.val .aU,⟨env,H,lk,df⟩)
  | _=>if jJ ys.length i.bytes then DL (dr ys) λcs=>wa ys.length λlen=>KI H (.ul 0 n cs e) λb H=>some (.val (.fA b 0 len),⟨env,H,lk,df⟩) else none
 | .fA b u len=>match H.get b with
  | some (.ul bZ sz cs e') =>
   if Nat.beq e e' && Nat.beq n sz && Nat.beq bZ u && jJ (len+ys.length) i.bytes then
    DL (cs++dr ys) λcs=>wa (bZ+1) λu=>wa (len+ys.length) λlen=>HS H b (.ul u sz cs e) (.bx ys) λH=>some (.val (.fA b u len),⟨env,H,lk,df⟩)
   else none
  | _=>none
 | .sr b off len cap=>match H.get b with
  | some (.cells cs ty) =>
   let new:=(dr ys).map aX
   if Nat.beq off 0 && Nat.beq n 1 && Nat.beq ty e && Nat.beq new.length ys.length && Nat.ble (len+ys.length) cap && Nat.ble (len+ys.length) cs.length && wK lk b len ys.length (cs.drop len) then
    DL (storeCells cs len new) λcs=>wa (len+ys.length) λlen=>HS H b (.cells cs ty) (.bx new) λH=>some (.val (.sr b 0 len cap),⟨env,H,lk,df⟩)
   else none
  | _=>none
 | _=>none
def Cx.oZ(cx:Cx)(t:ai)(x:aH)(lo hi:Option aH)(env:aj)(H:Hp)(lk:aC)(df:aV):Option (OR×St) :=
 match cx.P.underlying t,aq env x,d_ env lo,d_ env hi with
 | some (.slice e'),some (.fA b u len),some none,some (some (.int _ h))=>match z9 cx.P e',H.get b with
  | some _,some (.ul bZ sz cs e) =>
   if Nat.beq bZ u && decide (0<=h) && Nat.ble h.toNat len then
    fL (cs.take (h.toNat * sz)) λcs=>wa (bZ+1) λu=>wa h.toNat λlen=>HS H b (.ul u sz cs e) .dx λH=>some (.val (.fA b u len),⟨env,H,lk,df⟩)
   else none
  | _,_=>none
 | _,some (.sr b off len cap),some lo,some hi=>match yp cx.P t (.sr b off len cap) lo hi with
  | some v=>some (.val v,⟨env,H,lk,df⟩)
  | none=>none
 | _,_,_,_=>none
def Cx.uh(cx:Cx)(t:ai)(x y:aH)(env:aj)(H:Hp)(lk:aC)(df:aV):Option (OR×St):=do
 let .slice e <- cx.P.underlying t|none
 let n <- z9 cx.P e
 let ys <- kE cx.P H e (<- aq env y)
 match <- aq env x with
 | .sr b off len _=>match H.get b with
  | some (.cells cs ty) =>
   let m:=min len ys.length
   let new:=(dr (ys.take m)).map aX
   if Nat.beq n 1 && Nat.beq new.length m && Nat.ble (off+m) cs.length && wK lk b off m (cs.drop off) then
    DL (storeCells cs off new) λcs=>HS H b (.cells cs ty) (.bx new) λH=>some (.val (.int .i64 (m:Nat)),⟨env,H,lk,df⟩)
   else none
  | _=>none
 | _=>none
def Cx.op(cx:Cx)(takes:bA)(o:Oper)(env:aj)(H:Hp)(lk:aC)(df:aV):Option (OR×St) :=
  let P:=cx.P
  let taken:=match o.dst with
    | some d=>takes.any (Nat.beq d)
    | none=>false
  let read (_:Unit):Option (OR×St):=match qi P cx.gl o env H with
    | none=>none
    | some v=>some (.val v,⟨env,H,lk,df⟩)
  match o.op with
  | .move x=>match taken with
    | true=>match take env x with
      | none=>none
      | some (v,env)=>some (.val v,⟨env,H,lk,df⟩)
    | false=>read ()
  | .assign x=>match take env x with
    | none=>none
    | some (v,env)=>some (.val v,⟨env,H,lk,df⟩)
  | .load t a=>match taken with
    | false=>read ()
    | true=>match jI P t,aq env a with
      | some false,some (.ptr b off)=>match H.get b with
        | some (.cells cs ty)=>match nth cs off with
          | some (.sl sz xs (.yes e))=>Mg cs off (.sl sz xs .lock) λcs=>HS H b (.cells cs ty) .dx λH=>some (.val (.sl sz xs (.yes e)),⟨env,H,(b,off)::lk,df⟩)
          | some .aU=>some (.val .aU,⟨env,H,lk,df⟩)
          | some (.fA c u n)=>some (.val (.fA c u n),⟨env,H,lk,df⟩)
          | _=>none
        | _=>none
      | _,_=>none
  | .alloc t=>match qO P t with
    | none=>none
    | some z=>if !eF z then none else fV z λz=>KI H (.cells z.cells t) λn H=>some (.val (.ptr n 0),⟨env,H,lk,df⟩)
  | .box t x=>match take env x with
    | none=>none
    | some (v,env)=>if !eF v then none else fV v λv=>DL v.laid λcs=>KI H (.cells cs t) λn H=>some (.val (.ptr n 0),⟨env,H,lk,df⟩)
  | .store t a x=>match aq env a with
    | some (.ptr b off)=>match take env x,z9 P t,H.get b with
      | some (v,env),some n,some (.cells cs ty) =>
        fV v λv=>DL v.laid λvs =>
          if eF v && Nat.beq vs.length n && Nat.ble (off+n) cs.length && wK lk b off n (cs.drop off) then
            fL (storeCells cs off vs) λcs=>HS H b (.cells cs ty) v λH=>some (.skip,⟨env,H,lk,df⟩)
          else none
      | _,_,_=>none
    | some (.ny b u k)=>match take env x,z9 P t,H.get b with
      | some (x,env),some n,some (.ul bZ sz cs e) =>
        fV (aX x) λx=>if Nat.beq bZ u && eF x && Nat.beq x.cells.length n && Nat.ble (k+n) cs.length then
          fL (storeCells cs k x.cells) λcs=>HS H b (.ul bZ sz cs e) x λH=>some (.skip,⟨env,H,lk,df⟩)
        else none
      | _,_,_=>none
    | _=>none
  | .makeMap _ r=>match r with
    | some _=>none
    | none=>KI H (.map []) λn H=>some (.val (.map n),⟨env,H,lk,df⟩)
  | .makeSlice t l c=>match P.underlying t,aq env l,aq env c with
    | some (.slice e),some (.int _ l),some (.int _ c)=>match z9 P e,P.info? e,qO P e with
      | some n,some i,some z =>
        if Nat.beq n 0 || l<0 || c<l || !jJ c.toNat i.bytes || !Nat.beq z.cells.length n || !eF z then none else
        match cx.uq e && Nat.blt 0 c.toNat with
        | true=>DL (List.replicate c.toNat z.cells).flatten λcs=>KI H (.cells cs e) λn H=>wa l.toNat λl=>wa c.toNat λc=>some (.val (.sr n 0 l c),⟨env,H,lk,df⟩)
        | false =>
        if l=0 then some (.val (.sl n [] (.yes e)),⟨env,H,lk,df⟩) else
        if l=c then DL (List.replicate c.toNat z.cells).flatten λcs=>KI H (.cells cs e) λn H=>some (.val (.sr n 0 l.toNat c.toNat),⟨env,H,lk,df⟩) else none
      | _,_,_=>none
    | _,_,_=>none
  | .mapUpdate t m k x|.insert t m k x=>match aq env m,aq env k,aq env x with
    | some (.map b),some k,some x=>if !Yf P t k then none else fV k λk=>fV x λx=>match H.get b with
      | some (.map es)=>match PZ k x es with
        | some es=>fL es λes=>HS H b (.map es) (.bx [k,x]) λH=>some (.skip,⟨env,H,lk,df⟩)
        | none=>none
      | _=>none
    | _,_,_=>none
  | .range t x=>match P.underlying t,aq env x with
    | some .string,some (.str l)=>KI H (.iter l 0) λn H=>some (.val (.ptr n 0),⟨env,H,lk,df⟩)
    | _,_=>none
  | .next it true=>match aq env it with
    | some (.ptr b 0)=>match H.get b with
      | some (.iter l pos) =>
        if Nat.blt pos l.length then
          let (c,w):=KH (l.drop pos)
          wa (pos+w) λq=>HS H b (.iter l q) .dx λH=>some (.val (.bx [.bool true,.int .i64 pos,.int .i32 c]),⟨env,H,lk,df⟩)
        else some (.val (.bx [.bool false]),⟨env,H,lk,df⟩)
      | _=>none
    | _=>none
  | .convert a b x=>match vO P a b x env with
    | some (v,env)=>some (.val v,⟨env,H,lk,df⟩)
    | none=>read ()
  | .slice t x lo hi none=>match CB P cx.uq t with
    | true=>cx.oZ t x lo hi env H lk df
    | false=>read ()
  | .call c=>match c.callee with
    | .builtin b=>match b,c.args.toList,c.argTypes.toList with
     | .copy,[x,y],t::_=>cx.uh t x y env H lk df
     | .append,[x,y],[t,u]=>match CB P cx.uq t with
       | true=>if Nat.beq t u then cx.m6 t x y env H lk df else none
       | false=>match cx.builtin b c.argTypes c.args env H with
        | none=>none
        | some (r,env)=>some (r,⟨env,H,lk,df⟩)
     | _,_,_=>match cx.builtin b c.argTypes c.args env H with
      | none=>none
      | some (r,env)=>some (r,⟨env,H,lk,df⟩)
    | .value f=>match aq env f,bt env c.args.toList with
      | some f,some args=>match cx.mD f args H with
        | none=>none
        | some (r,H)=>some (r,⟨env,H,lk,df⟩)
      | _,_=>none
    | .invoke r m=>match aq env r,bt env c.args.toList with
      | some r,some args=>match cx.mD (.fn (.method m) [] []) (r::args) H with
        | none=>none
        | some (r,H)=>some (r,⟨env,H,lk,df⟩)
      | _,_=>none
  | .defer c=>match c.callee with
    | .value f=>match aq env f,bt env c.args.toList with
      | some (.fn (.func f) first cap),some args=>some (.skip,⟨env,H,lk,(.fn (.func f) first cap,args)::df⟩)
      | _,_=>none
    | _=>none
  | .panic x=>match aq env x with
    | some (.bf t v)=>some (.rQ (.bf t v),⟨env,H,lk,df⟩)
    | _=>none
  | _=>read ()
def aI(env:aj)(dst:eC)(v:V):aj :=
 match dst with
 | some d=>env.set d v
 | none=>env
def HT{β:Type}(env:aj)(dst:eC)(v:V)(k:aj->β):β :=
 match dst with
 | some d=>fV v λv=>Mg env d v k
 | none=>k env
def zN(ops:Array Oper)(o:Oper)(env:aj):Option Bool :=
 match o.guard with
 | none=>some true
 | some (j,want)=>match (ops[j]?).bind (·.dst) with
  | none=>none
  | some d=>match nth env d with
   | some (.bool b)=>some (b == want)
   | some (.bx _)=>some false
   | _=>none
def Cx.ops(cx:Cx)(all:Array Oper)(takes:bA):List Oper->St->Option (Ex×St)
 | [],s=>some (.normal,s)
 | o::os,⟨env,H,lk,df⟩ =>
  match zN all o env with
  | none=>none
  | some false=>HT env o.dst (.bx []) λenv=>cx.ops all takes os ⟨env,H,lk,df⟩
  | some true=>match cx.op takes o env H lk df with
   | none=>none
   | some (.val v,⟨env,H,lk,df⟩)=>HT env o.dst v λenv=>cx.ops all takes os ⟨env,H,lk,df⟩
   | some (.skip,⟨env,H,lk,df⟩)=>HT env o.dst (.bx []) λenv=>cx.ops all takes os ⟨env,H,lk,df⟩
   | some (.rQ v,s)=>some (.rQ v,s)
mutual
def V.same:V->V->Bool
 | .bool a,.bool b=>a == b
 | .int k n,.int k' n'=>if k=k' then n == n' else false
 | .str a,.str b=>sU a b
 | .dx,.dx=>true
 | .ptr a b,.ptr c d=>Nat.beq a c && Nat.beq b d
 | .gj a b,.gj c d=>Nat.beq a c && Nat.beq b d
 | .obj a,.obj b=>Nat.beq a b
 | .vp a,.vp b=>gA a b
 | .aU,.aU=>true
 | .sl s a o,.sl s' b o'=>Nat.beq s s' && (if o=o' then gA a b else false)
 | .sr a b c d,.sr a' b' c' d'=>Nat.beq a a' && Nat.beq b b' && Nat.beq c c' && Nat.beq d d'
 | .mB,.mB=>true
 | .map a,.map b=>Nat.beq a b
 | .nx,.nx=>true
 | .fn f a c,.fn f' a' c'=>(if f=f' then true else false) && gA a a' && gA c c'
 | .bq,.bq=>true
 | .bf t v,.bf t' v'=>Nat.beq t t' && V.same v v'
 | .agg a,.agg b=>gA a b
 | .bx a,.bx b=>gA a b
 | .mC,.mC=>true
 | .fA a b n,.fA c d m=>Nat.beq a c && Nat.beq b d && Nat.beq n m
 | .ny a b e,.ny c d f=>Nat.beq a c && Nat.beq b d && Nat.beq e f
 | _,_=>false
def gA:aj->aj->Bool
 | [],[]=>true
 | x::xs,y::ys=>V.same x y && gA xs ys
 | _,_=>false
end
def qF(P:aD)(uq:ai->Bool)(takes:bA)(o:Oper):Bool :=
 match o.op with
 | .alloc _|.box ..|.store ..|.makeMap ..|.makeSlice ..|.mapUpdate ..|.insert ..|.range ..|.next ..|.defer _|.panic _=>true
 | .load ..=>match o.dst with
  | some d=>takes.any (Nat.beq d)
  | none=>false
 | .slice t _ _ _ none=>CB P uq t
 | .call c=>match c.callee with
  | .builtin .copy=>true
  | .builtin .append=>match c.argTypes.toList with
   | t::_=>CB P uq t
   | _=>false
  | .builtin _=>false
  | _=>true
 | _=>false
def wM(P:aD)(uq:ai->Bool)(o:Oper):Bool :=
 match o.op with
 | .slice t _ _ _ none=>CB P uq t
 | .load ..|.lookup ..|.call _=>true
 | _=>false
def ke(takes:bA)(o:Oper):Option aH :=
 match o.op with
 | .move x=>if (match o.dst with|some d=>takes.any (Nat.beq d)|none=>false) then some x else none
 | .assign x|.box _ x|.store _ _ x=>some x
 | .convert a b x=>if Nat.beq a b then some x else none
 | .call c=>match c.callee with
  | .builtin .append=>c.args.toList.head?
  | _=>none
 | _=>none
def gK:List aH->Nat
 | []=>0
 | .tmp t::xs=>Nat.lor (Nat.pow 2 t) (gK xs)
 | _::xs=>gK xs
structure Rec where
 idx:Nat
 o:Oper
 m:Nat
 tm:Nat
 lm:Nat
 hp:Bool
 free:Bool
 env:aj
 v:V
structure eZ where
 D:Nat
 H:Hp
 lk:aC
 df:aV
def bit(m i:Nat):Bool:=Nat.beq (Nat.mod (Nat.shiftRight m i) 2) 1
def kj(a b:Nat):Bool:=Nat.beq (Nat.land a b) a
def maskAt:List Rec->Nat->Option Nat
 | [],_=>none
 | r::rs,j=>if Nat.beq r.idx j then some r.m else maskAt rs j
def kG(rs:List Rec):List Edge->Option Nat
 | []=>some 0
 | e::es=>match Region.binds .any e with
  | false=>kG rs es
  | true=>match maskAt rs e.on with
   | none=>none
   | some m=>match kG rs es with
    | none=>none
    | some k=>some (Nat.lor k (Nat.lor m (Nat.pow 2 e.on)))
def Cx.dX(cx:Cx)(takes:bA)(o:Oper)(env:aj)(c:eZ)(D:Nat):Option (V×eZ) :=
 match cx.op takes o env c.H c.lk c.df with
 | some (.val v,s)=>some (v,⟨D,s.H,s.lk,s.defers⟩)
 | some (.skip,s)=>some (.bx [],⟨D,s.H,s.lk,s.defers⟩)
 | _=>none
def Cx.eU(cx:Cx)(takes:bA)(o:Oper)(env:aj)(v:V)(c:eZ):Bool :=
 match cx.dX takes o env c 0 with
 | some (u,_)=>V.same u v
 | none=>false
def uj:List (V×V)->List (V×V)->Bool
 | [],[]=>true
 | (a,b)::x,(c,d)::y=>V.same a c && V.same b d && uj x y
 | _,_=>false
def gM:aN->aN->Bool
 | .cells a t,.cells b u=>Nat.beq t u && gA a b
 | .map a,.map b=>uj a b
 | .iter a i,.iter b j=>Nat.beq i j && sU a b
 | .ul a b c d,.ul a' b' c' d'=>Nat.beq a a' && Nat.beq b b' && Nat.beq d d' && gA c c'
 | _,_=>false
def m7:List aN->List aN->Bool
 | [],[]=>true
 | a::x,b::y=>gM a b && m7 x y
 | _,_=>false
def mg:aC->aC->Bool
 | [],[]=>true
 | (a,b)::x,(c,d)::y=>Nat.beq a c && Nat.beq b d && mg x y
 | _,_=>false
def nQ:aV->aV->Bool
 | [],[]=>true
 | (a,b)::x,(c,d)::y=>V.same a c && gA b d && nQ x y
 | _,_=>false
def RA(a b:eZ):Bool:=mg a.lk b.lk && nQ a.df b.df && mg a.H.aS b.H.aS && m7 a.H.af b.H.af
def xP(D:Nat):List eZ->Option eZ
 | []=>none
 | c::cs=>if Nat.beq c.D D then some c else xP D cs
def cn:List Rec->Nat
 | []=>0
 | r::rs=>match r.hp with
  | true=>Nat.lor (Nat.pow 2 r.idx) (cn rs)
  | false=>cn rs
def jW{α:Type}(f:α->Bool):List α->Bool
 | []=>true
 | q::qs=>match f q with
  | true=>jW f qs
  | false=>false
def q9(D:Nat)(q:Rec):List Rec->Bool
 | []=>false
 | c::cs=>(c.hp && bit D c.idx && bit c.m q.idx) || q9 D q cs
def jG(r q:Rec):Bool :=
 match bit r.m q.idx with
 | true=>true
 | false=>Nat.beq (Nat.land q.tm r.lm) 0 && Nat.beq (Nat.land r.tm q.lm) 0
def Cx.lE(cx:Cx)(takes:bA)(o:Oper)(env:aj)(v:V)(m b:Nat):List eZ->Option (List eZ)
 | []=>some []
 | c::cs=>match kj m c.D with
  | false=>cx.lE takes o env v m b cs
  | true=>match cx.dX takes o env c (Nat.lor c.D b) with
   | none=>none
   | some (u,c2)=>match V.same u v with
    | false=>none
    | true=>match cx.lE takes o env v m b cs with
     | none=>none
     | some l=>some (c2::l)
def Cx.CC(cx:Cx)(takes:bA)(rs:List Rec)(Mh:Nat)(r:Rec)(all:List eZ)(c:eZ):Bool :=
 jW (λq=>match kj (Nat.land q.m Mh) c.D with
  | false=>true
  | true=>match q.hp with
   | true=>match bit c.D q.idx with
    | true=>true
    | false=>match cx.dX takes q.o q.env c 0,xP (Nat.lor c.D (Nat.pow 2 q.idx)) all with
     | some (u,c2),some c3=>V.same u q.v && RA c2 c3
     | _,_=>false
   | false=>q.free || bit r.m q.idx || q9 c.D q rs || cx.eU takes q.o q.env q.v c) rs
def zfq(all:Array Oper)(o:Oper):Nat :=
 match o.guard with
 | none=>0
 | some (j,_)=>match (all[j]?).bind (·.dst) with
  | none=>0
  | some d=>Nat.pow 2 d
def lT(takes:bA)(o:Oper):Nat :=
 match o.dst with
 | some d=>Nat.lor (Nat.pow 2 d) (gK (match ke takes o with|some x=>[x]|none=>[]))
 | none=>gK (match ke takes o with|some x=>[x]|none=>[])
def tG(all:Array Oper)(o:Oper):Nat:=Nat.lor (gK o.op.operands.toList) (zfq all o)
def Cx.lF(cx:Cx)(takes:bA)(rs:List Rec)(r:Rec)(c0 c1:eZ)(cs:List eZ)(k:List eZ->Option (Ex×St)):Option (Ex×St) :=
 let Mh:=cn rs
 match r.hp with
 | false=>match r.free || jW (λc=>match kj (Nat.land r.m Mh) c.D with
   | true=>cx.eU takes r.o r.env r.v c
   | false=>true) cs with
  | true=>k (c0::cs)
  | false=>none
 | true=>match cx.lE takes r.o r.env r.v (Nat.land r.m Mh) (Nat.pow 2 r.idx) cs with
  | none=>none
  | some l =>
   let all:=c1::l++c0::cs
   match jW (λc=>cx.CC takes rs Mh r all c) (c1::l) with
   | true=>k all
   | false=>none
def Cx.mh(cx:Cx)(all:Array Oper)(takes:bA):Nat->List Rec->List eZ->List Oper->St->Option (Ex×St)
 | _,_,_,[],s=>some (.normal,s)
 | i,rs,cs,o::os,⟨env,H,lk,df⟩ =>
  match kG rs o.after.toList with
  | none=>none
  | some m=>wa m λm=>wa (lT takes o) λtm=>wa (Nat.lor tm (tG all o)) λlm =>
   let next (hp free:Bool) (v:V) (s1:St):Option (Ex×St) :=
    match s1 with
    | ⟨bT,H1,c7,dB⟩=>fV v λv=>HT bT o.dst v λbT =>
     match jW (jG ⟨i,o,m,tm,lm,hp,free,env,v⟩) rs,cs with
     | true,c0::cs=>cx.lF takes rs ⟨i,o,m,tm,lm,hp,free,env,v⟩ c0 ⟨Nat.lor c0.D (Nat.pow 2 i),H1,c7,dB⟩ cs λcs =>
      cx.mh all takes (i+1) (⟨i,o,m,tm,lm,hp,free,env,v⟩::rs) cs os ⟨bT,H1,c7,dB⟩
     | _,_=>none
   match zN all o env with
   | none=>none
   | some false=>next false true (.bx []) ⟨env,H,lk,df⟩
   | some true=>match cx.op takes o env H lk df with
    | none=>none
    | some (.val v,s1)=>next (qF cx.P cx.uq takes o) (!wM cx.P cx.uq o) v s1
    | some (.skip,s1)=>next (qF cx.P cx.uq takes o) false (.bx []) s1
    | some (.rQ _,_)=>none
def Cx.draw(cx:Cx)(ops:Array Oper):St->Option (Ex×St)
 | ⟨env,H,_,df⟩=>cx.mh ops (wi ops) 0 [] [⟨0,H,[],df⟩] ops.toList ⟨env,H,[],df⟩
def yP(step:St->Option (Ex×St)):Nat->St->Option (Ex×St)
 | 0,_=>none
 | n+1,s=>match step s with
  | none=>none
  | some (.normal,s)=>yP step n s
  | some (e,s)=>some (e,s)
def Mi(o:Oper):Bool:=match o.op with|.defer _=>false|_=>true
def calm:Code->Bool
 | .region _ ops _=>ops.toList.all Mi
 | .seq x y|.cond _ x y=>calm x && calm y
 | .block _ c|.loop c=>calm c
 | .scope _=>false
 | .rangeFunc _ _ _ _=>false
 | _=>true
def aN.NH:aN->Bool
 | .cells _ _|.ul _ _ _ _=>true
 | _=>false
def yr(f:FuncId)(back:Bool)(t:ai):ai:=1099511627776+2 * (f * 1048576+t)+(if back then 1 else 0)
def nR:V->Bool
 | .agg _=>true
 | _=>false
def jk(back:Bool)(xs:aj):List aj:=if back then (List.range xs.length).map λk=>[V.int .i64 ((xs.length - 1 - k:Nat):Int),(nth xs (xs.length - 1 - k)).getD .dx] else xs.map λx=>[x]
def Cx.DN(cx:Cx)(f:V)(H:Hp):Option (Nat×ai×Option (Nat×aj)×Bool):=match f with
 | .fn (.func gf) [] [.ptr b 0]=>match H.get b with
  | some (.cells [lv] ty)=>match cx.P.underlying ty with
   | some (.slice e)=>match z9 cx.P e,jI cx.P e with
    | some sz,some ag =>
     let back:=cx.uq (yr gf true ty)
     if !(back || cx.uq (yr gf false ty)) || Nat.beq sz 0 || !Nat.blt ty 1048576 then none else
     match lv with
     | .aU=>some (b,ty,none,back)
     | .sl mj xs .no=>if Nat.beq sz mj && xs.all (λx=>nR x == ag) && Nat.ble xs.length 140737488355328 then some (b,ty,some (mj,xs),back) else none
     | _=>none
    | _,_=>none
   | _=>none
  | _=>none
 | _=>none
def cE(b:Nat)(ty:ai)(sz:Nat)(xs:aj)(bs:List aN):List aN:=bs.set b (.cells [.sl sz xs .lock] ty)
def iA(b:Nat)(H:Hp):Option Hp:=match nth H.af b with
 | some (.cells [.sl sz xs .lock] ty)=>some ⟨H.af.set b (.cells [.sl sz xs .no] ty),H.aS⟩
 | _=>none
def aN.isCells:aN->Bool
 | .cells _ _=>true
 | _=>false
def jp(n0:Nat)(bs:List aN):Bool:=(bs.drop n0).all aN.isCells
def yu(Mj:aj->List aN->Option (Ex×St))(bd:aj->List aN->Option (Ex×St))(ok:List aN->Bool):List aj->Hp->Option (Ex×Hp)
 | [],H=>some (.normal,H)
 | x::xs,⟨bs,es⟩=>match Mj x bs with
  | some (.normal,⟨e,⟨iU,AN⟩,_,[]⟩)=>if !ok iU then none else fL (e.map aX) λe=>match bd e iU with
   | some (.normal,⟨_,⟨j_,nS⟩,_,[]⟩)=>if !ok j_ then none else yu Mj bd ok xs ⟨j_,nS++(AN++es)⟩
   | some (.ret,⟨_,⟨j_,nS⟩,_,[]⟩)=>if !ok j_ then none else some (.ret,⟨j_,nS++(AN++es)⟩)
   | some (.exit i,⟨_,⟨j_,nS⟩,_,[]⟩)=>if !ok j_ then none else some (.exit i,⟨j_,nS++(AN++es)⟩)
   | _=>none
  | _=>none
def G8(env:aj)(ps:bA)(xs:aj):aj:=(ps.zip xs).foldl (λe p=>e.set p.1 (aX p.2)) env
def Cx.code(cx:Cx)(n:Nat):Code->St->Option (Ex×St)
 | .skip,s=>some (.normal,s)
 | .label _,s=>some (.normal,s)
 | .region _ ops false,⟨env,H,_,df⟩=>cx.ops ops (wi ops) ops.toList ⟨env,H,[],df⟩
 | .region _ ops true,s=>cx.draw ops s
 | .seq a b,s=>match cx.code n a s with
  | none=>none
  | some (.normal,s)=>cx.code n b s
  | some (e,s)=>some (e,s)
 | .cond c a b,s=>match aq s.env c with
  | some (.bool true)=>cx.code n a s
  | some (.bool false)=>cx.code n b s
  | _=>none
 | .block id c,s=>match cx.code n c s with
  | none=>none
  | some (.exit i,s)=>some (if Nat.beq i id then .normal else .exit i,s)
  | some (e,s)=>some (e,s)
 | .loop c,s=>yP (cx.code n c) n s
 | .exit id,s=>some (.exit id,s)
 | .ret,s=>some (.ret,s)
 | .scope c,s=>match cx.code n c s with
  | none=>none
  | some (.goto _,_)=>none
  | some (e,s)=>some (e,s)
 | .rangeFunc f ps as bd,⟨env,H,_,df⟩=>match aq env f with
  | none=>none
  | some fv=>match cx.DN fv H with
   | none=>none
   | some (b,ty,lv,back) =>
    if !(calm as && calm bd && Nat.beq ps.size (if back then 2 else 1)) then none else
    fL (env.map aX) λeN=>match lv with
    | none=>some (.normal,⟨eN,H,[],(.dx,[])::df⟩)
    | some (sz,ys)=>match H with
     | ⟨bs,es⟩=>match yu (λx bs=>cx.code n as ⟨G8 eN ps.toList x,⟨bs,[]⟩,[],[]⟩) (λe bs=>cx.code n bd ⟨e,⟨bs,[]⟩,[],[]⟩) (jp bs.length) (jk back ys) ⟨cE b ty sz ys bs,es⟩ with
      | none=>none
      | some (ex,H)=>match iA b H with
       | none=>none
       | some H=>some (ex,⟨eN,H,[],(.dx,[])::df⟩)
 | _,_=>none
def zG(P:aD)(H:Hp)(env:aj):List ResultVar->Option aj
 | []=>some []
 | .tmp t::r=>match nth env t,zG P H env r with
  | some v,some vs=>some (v::vs)
  | _,_=>none
 | .cell a t::r=>match nth env a with
  | some p=>match zA P H (λ_ _=>none) t p,zG P H env r with
   | some v,some vs=>some (aX v::vs)
   | _,_=>none
  | none=>none
def fN:aj->V
 | [v]=>v
 | vs=>.bx (vs.map aX)
def RB{β:Type}(n0:Nat)(es:aC)(top:Nat)(H:Hp)(k:Hp->β):β :=
 match H with
 | ⟨bs,new⟩ =>
  if Nat.ble top n0 && new.all (λe=>Nat.ble n0 e.1 || Nat.ble e.2 n0) then
   fL (bs.take n0) λbs=>fL (new.filter (λe=>Nat.blt e.1 n0)) λnew=>k ⟨bs,new++es⟩
  else k ⟨bs,new++es⟩
def zpZ(o:Oper):Bool :=
 match o.op with
 | .call c=>match c.callee with
  | .builtin .recover=>true
  | _=>false
 | _=>false
def Cx.As(cx:Cx)(iV:bS)(all:Array Oper)(takes:bA):List Oper->Bool->St->Option (Ex×Bool×St)
 | [],r,s=>some (.normal,r,s)
 | o::os,r,⟨env,H,lk,df⟩ =>
  match zN all o env with
  | none=>none
  | some false=>HT env o.dst (.bx []) λenv=>cx.As iV all takes os r ⟨env,H,lk,df⟩
  | some true=>match zpZ o with
   | true=>match iV,r with
    | some v,false=>HT env o.dst (aX v) λenv=>cx.As iV all takes os true ⟨env,H,lk,df⟩
    | _,_=>HT env o.dst .bq λenv=>cx.As iV all takes os r ⟨env,H,lk,df⟩
   | false=>match cx.op takes o env H lk df with
    | none=>none
    | some (.val v,⟨env,H,lk,df⟩)=>HT env o.dst v λenv=>cx.As iV all takes os r ⟨env,H,lk,df⟩
    | some (.skip,⟨env,H,lk,df⟩)=>HT env o.dst (.bx []) λenv=>cx.As iV all takes os r ⟨env,H,lk,df⟩
    | some (.rQ v,s)=>some (.rQ v,r,s)
def Cx.nr(cx:Cx)(n:Nat)(iV:bS):Code->Bool->St->Option (Ex×Bool×St)
 | .seq a b,r,s=>match cx.nr n iV a r s with
  | none=>none
  | some (.normal,r,s)=>cx.nr n iV b r s
  | some x=>some x
 | .cond c a b,r,s=>match aq s.env c with
  | some (.bool true)=>cx.nr n iV a r s
  | some (.bool false)=>cx.nr n iV b r s
  | _=>none
 | .region _ ops false,r,⟨env,H,_,df⟩=>cx.As iV ops (wi ops) ops.toList r ⟨env,H,[],df⟩
 | c,r,s=>match cx.code n c s with
  | none=>none
  | some (e,s)=>some (e,r,s)
def NI(P:aD)(gl:Nat->Nat->bS)(uq:ai->Bool)(call:FuncId->aj->Hp->Option (Out×Hp))(n:Nat)(iV:bS)(f:FuncId)(args:aj)(H:Hp):Option (Bool×Hp) :=
 match H with
 | ⟨bs,es⟩ =>
  match P.funcs[f]? with
  | none=>none
  | some fn=>match fn.body with
   | none=>none
   | some body =>
    wa bs.length λn0 =>
    fL (args++List.replicate (fn.ntmps - args.length) (.bx [])) λenv =>
    match Cx.nr { P,gl,call,uq } n iV body false ⟨env,⟨bs,[]⟩,[],[]⟩ with
    | some (.normal,r,⟨env,H,_,[]⟩)|some (.ret,r,⟨env,H,_,[]⟩)=>match zG P H env fn.results.toList with
     | none=>none
     | some _=>RB n0 es 0 H λH=>some (r,H)
    | _=>none
def ef:aV->aV
 | (.dx,[])::ds=>ef ds
 | ds=>ds
def wj(call:bS->FuncId->aj->Hp->Option (Bool×Hp)):bS->aV->Hp->Option (bS×Hp)
 | iV,[],H=>some (iV,H)
 | iV,(.fn (.func f) first cap,args)::ds,H=>fL ((first++args++cap).map aX) λargs=>match call iV f args H with
  | none=>none
  | some (true,H)=>wj call none ds H
  | some (false,H)=>wj call iV ds H
 | _,_,_=>none
def xq(call:bS->FuncId->aj->Hp->Option (Bool×Hp))(iV:bS)(ds:aV)(H:Hp):Option (bS×Hp):=wj call iV (ef ds) H
def AO:Ex->Option bS
 | .normal|.ret=>some none
 | .rQ v=>some (some v)
 | _=>none
structure Gl where
 g:Nat->Nat->bS
 hk:FuncId->aj->bS:=λ_ _=>none
 uq:ai->Bool:=λ_=>false
 fB:Nat->FuncId->aj->Hp->Option (Out×Hp):=λ_ _ _ _=>none
instance : CoeFun Gl (λ_=>Nat->Nat->bS):=⟨Gl.g⟩
instance : Coe Gl (Nat->Nat->bS):=⟨Gl.g⟩
def zl(P:aD)(gl:Gl):Nat->FuncId->aj->Hp->Option (Out×Hp)
 | 0,_,_,_=>none
 | n+1,f,args,⟨bs,es⟩ =>
  match gl.hk f args with
  | some v=>some (.ret v,⟨bs,es⟩)
  | none =>
  match gl.fB n f args ⟨bs,es⟩ with
  | some r=>some r
  | none =>
  match P.funcs[f]? with
  | none=>none
  | some fn=>match fn.body with
   | none=>none
   | some body =>
    wa bs.length λn0 =>
    fL (args++List.replicate (fn.ntmps - args.length) (.bx [])) λenv =>
    match Cx.code { P,gl:=gl.g,call:=zl P gl n,uq:=gl.uq } n body ⟨env,⟨bs,[]⟩,[],[]⟩ with
    | none=>none
    | some (ex,⟨env,H,_,df⟩)=>match AO ex with
     | none=>none
     | some iV=>match xq (NI P gl.g gl.uq (zl P gl n) n) iV df H with
      | none=>none
      | some (some v,H)=>RB n0 es v.top H λH=>some (.rQ v,H)
      | some (none,H)=>match zG P H env fn.results.toList with
       | none=>none
       | some vs=>fV (fN vs) λv=>RB n0 es v.top H λH=>some (.ret v,H)
end
section
inductive Loc where
 |slot (d t:Nat)
 |cell (b off:Nat)
 |ret
 deriving DecidableEq
structure Ob where
 adr:Nat->Addr
 lo:Nat->Prop
instance : CoeFun Ob (λ_=>Nat->Addr):=⟨Ob.adr⟩
structure Gh where
 M:Nat->Nat->Option aP
 br:Nat->Nat
 obj:Ob
 own:Nat->Option Loc
 lk:Nat->Nat->aP
 fD:Nat->Nat->Option aP
abbrev V.one(v:V):Bool:=oJ v
def zf{α:Type}:∀(l:List α)(n:Nat),nth l n=l[n]?
 | [],_=>by simp[nth]
 | _::_,0=>by simp[nth]
 | _::xs,n+1=>by simp[nth,zf xs n]
section force
variable{α β:Type}
def qh(n:Nat)(k:Nat->β):wa n k=k n:=by cases n<;>rfl
def zoA(n:Int)(k:Int->β):Yc n k=k n:=by cases n<;>simp[Yc,qh]
def CD:∀(l:aR)(k:aR->β),Va l k=k l
 | [],_=>rfl
 | x::xs,k=>by simp[Va,qh,CD xs]
def dN:∀(l:List α)(k:List α->β),fL l k=k l
 | [],_=>rfl
 | x::xs,k=>by simp[fL,dN xs]
def zp0(v:V)(k:V->β):fC v k=k v:=by
 unfold fC;split<;>simp[zoA,CD,qh,dN]
def dD:∀(l:aj)(k:aj->β),DL l k=k l
 | [],_=>rfl
 | x::xs,k=>by simp[DL,zp0,dD xs]
def zQ(v:V)(k:V->β):fV v k=k v:=by
 unfold fV;split<;>simp[dD,zp0]
def eV:∀(l:List α)(n:Nat)(v:α)(k:List α->β),Mg l n v k=k (l.set n v)
 | [],_,_,_=>rfl
 | _::_,0,_,_=>rfl
 | x::xs,n+1,v,k=>by simp[Mg,eV xs]
def qb(H:Hp)(b:aN)(k:Nat->Hp->β):KI H b k=k H.af.length (H.push b):=by
 cases H;simp[KI,qh,dN,Hp.push]
def qx(H:Hp)(b:Nat)(x:aN)(v:V)(k:Hp->β):HS H b x v k=k ((H.set b x).bQ b v):=by
 cases H;simp only[HS,eV,qh,Hp.set,Hp.bQ];split<;>rfl
def jc(env:aj)(dst:eC)(v:V)(k:aj->β):HT env dst v k=k (aI env dst v):=by
 cases dst<;>simp[HT,aI,zQ,eV]
end force
def zL(xs:aj):aj:=xs.flatMap V.cells
def bytes(s:aR):ByteArray:=⟨(s.map UInt8.ofNat).toArray⟩
inductive aL(g:Gh):V->aP->Prop where
 |bool (b:Bool):aL g (.bool b) (.bool b)
 |int (k:IntKind) (n:Int):aL g (.int k n) (.int k n)
 |str {s:aR}:(∀b:Nat,b∈s->b<256)->aL g (.str s) (.string (bytes s))
 |dx:aL g .dx (.pointer none)
 |ptr (b off:Nat):aL g (.ptr b off) (.pointer (some ⟨g.br b,off,none⟩))
 |gj (k off:Nat):aL g (.gj k off) (.pointer (some ⟨k,off,none⟩))
 |obj (k:Nat):aL g (.obj k) (.pointer (some (g.obj k)))
 |vp {cs:aj} {c o:Nat} (f:Nat->aP):(∀(j:Nat)(x:V),cs[j]?=some x->x.one=true)->(∀(j:Nat)(x:V),cs[j]?=some x->g.M c (o+j)=some (f j))->(∀(j:Nat)(x:V),cs[j]?=some x->aL g x (f j)) ->
   aL g (.vp cs) (.pointer (some ⟨c,o,none⟩))
 |aU:aL g .aU (.slice none 0 0)
 |sl {sz:Nat} {xs:aj} {ow:Own} {a:Option Addr} {cap c o:Nat} (f:Nat->aP):(∀x:V,x∈xs->x.cells.length=sz)->xs.length<=cap->(xs≠[]->a=some ⟨c,o,none⟩) ->
   (∀(j:Nat)(x:V),(zL xs)[j]?=some x->x.one=true)->(∀(j:Nat)(x:V),(zL xs)[j]?=some x->g.M c (o+j)=some (f j))->(∀(j:Nat)(x:V),(zL xs)[j]?=some x->aL g x (f j)) ->
   aL g (.sl sz xs ow) (.slice a xs.length cap)
 |sr {b off len cap:Nat}:len<=cap->aL g (.sr b off len cap) (.slice (some ⟨g.br b,off,none⟩) len cap)
 |mB:aL g .mB (.map none)
 |map (b:Nat):aL g (.map b) (.map (some (g.br b)))
 |nx:aL g .nx .nilFunc
 |fn {f:Fn} {as cs:aj} {fa fc:cO}:as.length=fa.size->cs.length=fc.size->(∀(j:Nat)(x:V)(v:aP),as[j]?=some x->fa[j]?=some v->aL g x v) ->
   (∀(j:Nat)(x:V)(v:aP),cs[j]?=some x->fc[j]?=some v->aL g x v)->aL g (.fn f as cs) (.func f fa fc)
 |bq:aL g .bq .nilIface
 |bf {t:ai} {v:V} {cv:aP}:aL g v cv->aL g (.bf t v) (.iface t cv)
 |agg {cs:aj} {arr:cO}:cs.length=arr.size->(∀(j:Nat)(x:V),cs[j]?=some x->x.one=true)->(∀(j:Nat)(x:V)(v:aP),cs[j]?=some x->arr[j]?=some v->aL g x v)->aL g (.agg cs) (.agg arr)
 |bx {cs:aj} {arr:cO}:cs.length=arr.size->(∀(j:Nat)(x:V)(v:aP),cs[j]?=some x->arr[j]?=some v->aL g x v)->aL g (.bx cs) (.tuple arr)
 |fA {b u len cap c o:Nat}:g.fD b u=some (.slice (some ⟨c,o,none⟩) len cap)->aL g (.fA b u len) (.slice (some ⟨c,o,none⟩) len cap)
 |ny {b u len cap c o:Nat} (k:Nat):g.fD b u=some (.slice (some ⟨c,o,none⟩) len cap)->aL g (.ny b u k) (.pointer (some ⟨c,o+k,none⟩))
 |mC (v:aP):aL g .mC v
def zk{x:V}:∀{cs:aj},x∈cs->x.top<=aA cs
 | c::cs,h=>by
  simp only[aA];rcases cS.1 h with rfl|h
  ·exact FX _ _
  ·exact cR (zk h) (KF _ _)
def qU{n:Nat}:∀{cs:aj},(∀x∈cs,x.top<=n)->aA cs<=n
 | [],_=>dJ _
 | c::cs,h=>by
  simp only[aA];exact Ar.2 ⟨h c (ew ..),qU λx hx=>h x (cZ _ hx)⟩
def Vc{x y:V}(h:y∈x.cells):y.top<=x.top:=by
 cases x<;>simp only[V.cells,HM] at h<;>try (subst h;exact bV _)
 simp only[V.top];exact zk h
def Yi{xs:aj}{y:V}(h:y∈zL xs):y.top<=aA xs:=by
 obtain⟨x,hx,hy⟩:=List.mem_flatMap.1 h;exact cR (Vc hy) (zk hx)
def dw(v:V):(aX v).top=v.top:=by
 cases v<;>rfl
def ju:∀(cs:aj),aA (cs.map aX)=aA cs
 | []=>rfl
 | c::cs=>by simp[aA,dw,ju cs]
def Yj(v:V):(aX v).one=v.one:=by cases v<;>rfl
def aL.aX{g:Gh}{v:V}{cv:aP}(h:aL g v cv):aL g (aX v) cv:=by
 cases h<;>first
  |constructor<;>assumption
  |(rename_i f h1 h2 h3 h4 h5 h6;exact .sl f h1 h2 h3 h4 h5 h6)
  |(rename_i f h1 h2 h3;exact .vp f h1 h2 h3)
structure Gh.Le(n:Nat)(g g':Gh):Prop where
 M:∀c o v,g.M c o=some v->g'.M c o=some v
 br:∀b,b<n->g'.br b=g.br b
 obj:g'.obj=g.obj
 fD:∀b u v,b<n->g.fD b u=some v->g'.fD b u=some v
def Gh.Le.refl(n:Nat)(g:Gh):Gh.Le n g g:=⟨λ_ _ _ h=>h,λ_ _=>rfl,rfl,λ_ _ _ _ h=>h⟩
def Gh.Le.trans{n:Nat}{a b c:Gh}(h:Gh.Le n a b)(k:Gh.Le n b c):Gh.Le n a c :=
 ⟨λ_ _ _ e=>k.M _ _ _ (h.M _ _ _ e),λi hi=>(k.br i hi).trans (h.br i hi),k.obj.trans h.obj,λb u v hb e=>k.fD b u v hb (h.fD b u v hb e)⟩
def Gh.Le.mono{n m:Nat}{a b:Gh}(h:Gh.Le n a b)(hm:m<=n):Gh.Le m a b:=⟨h.M,λi hi=>h.br i (rY hi hm),h.obj,λb u v hb e=>h.fD b u v (rY hb hm) e⟩
def zy{α:Type}{l:List α}{j:Nat}{x:α}(h:l[j]?=some x):x∈l:=oH h
def aL.le{n:Nat}{g g':Gh}(hg:Gh.Le n g g'){v:V}{cv:aP}(h:aL g v cv):v.top<=n->aL g' v cv:=by
 induction h with
 | bool b=>intro _;exact .bool b
 | int k m=>intro _;exact .int k m
 | str h=>intro _;exact .str h
 | dx=>intro _;exact .dx
 | ptr b off=>intro ht;simp only[V.top] at ht;rw[<- hg.br b (by omega)];exact .ptr b off
 | gj k off=>intro _;exact .gj k off
 | obj k=>intro _;rw[<- hg.obj];exact .obj k
 | vp f h1 h2 _ ih=>intro ht;exact .vp f h1 (λj x hx=>hg.M _ _ _ (h2 j x hx)) λj x hx=>ih j x hx (cR (zk (zy hx)) ht)
 | aU=>intro _;exact .aU
 | sl f h1 h2 h3 h4 h5 _ ih=>intro ht;exact .sl f h1 h2 h3 h4 (λj x hx=>hg.M _ _ _ (h5 j x hx)) λj x hx=>ih j x hx (cR (Yi (zy hx)) ht)
 | sr hl=>intro ht;simp only[V.top] at ht;rw[<- hg.br _ (by omega)];exact .sr hl
 | mB=>intro _;exact .mB
 | map b=>intro ht;simp only[V.top] at ht;rw[<- hg.br b (by omega)];exact .map b
 | nx=>intro _;exact .nx
 | fn h1 h2 _ _ iha ihc =>
  intro ht;simp only[V.top] at ht;have:=Ar.1 ht;exact .fn h1 h2 (λj x v hx hv=>iha j x v hx hv (cR (zk (zy hx)) this.1)) (λj x v hx hv=>ihc j x v hx hv (cR (zk (zy hx)) this.2))
 | bq=>intro _;exact .bq
 | bf _ ih=>intro ht;exact .bf (ih ht)
 | agg h1 h2 _ ih=>intro ht;exact .agg h1 h2 λj x v hx hv=>ih j x v hx hv (cR (zk (zy hx)) ht)
 | bx h1 _ ih=>intro ht;exact .bx h1 λj x v hx hv=>ih j x v hx hv (cR (zk (zy hx)) ht)
 | fA h=>intro ht;simp only[V.top] at ht;exact .fA (hg.fD _ _ _ (by omega) h)
 | ny k h=>intro ht;simp only[V.top] at ht;exact .ny k (hg.fD _ _ _ (by omega) h)
 | mC v=>intro _;exact .mC v
def aL.pQ{g:Gh}{v:V}{cv:aP}(h:aL g v cv)(h1:v.one=true):cv.oneCell'=true:=by
 cases h<;>first|rfl|(simp[V.one,oJ] at h1)
def iW(g:Gh)(n:Nat)(w:aB)(l:Loc)(e sz len:Nat)(cv:aP):Prop :=
 ∃xs,w.ownsRow 0 e sz cv len xs/\∀c,cv.ownBlock=some c->g.own c=some l/\(∀o,len * sz<=o->g.M c o=none)/\(∀b,b<n->g.br b≠c)
def cq(g:Gh)(n:Nat)(w:aB)(l:Loc):V->aP->Prop
 | .sl sz xs (.yes e),cv=>iW g n w l e sz xs.length cv
 | _,_=>True
def NJ(g:Gh)(b off:Nat):V->aP->Prop
 | .sl _ _ .lock,cv=>cv=g.lk b off
 | _,_=>True
def aN.top:aN->Nat
 | .cells cs _=>aA cs
 | .map es=>max (aA (es.map (·.1))) (aA (es.map (·.2)))
 | .iter _ _=>0
 | .ul _ _ cs _=>aA cs
structure KK(g:Gh)(n:Nat)(w:aB)(b bZ sz:Nat)(cs:aj)(e:ai)(c len cap:Nat)(vs:dy):Prop where
 fD:g.fD b bZ=some (.slice (some ⟨c,0,none⟩) len cap)
 pos:0<sz
 row:w.ownsRow 0 e sz (.slice (some ⟨c,0,none⟩) len cap) len vs
 uk:c=g.br b\/g.own c=some (.cell b 0)
 M:∀o,g.M c o=none
 others:∀b',b'<n->b'≠b->g.br b'≠c
 len:cs.length=vs.length
 cells:∀(j:Nat)(x:V)(v:aP),cs[j]?=some x->vs[j]?=some v->x.one=true/\aL g x v
 fresh:∀u,bZ<u->g.fD b u=none
def fO(g:Gh)(n:Nat)(w:aB)(b:Nat):aN->Prop
 | .cells cs t=>∃arr,w.heap[g.br b]?=some (.cells arr t (0,0))/\cs.length=arr.size /\
   ∀(j:Nat)(x:V)(v:aP),cs[j]?=some x->arr[j]?=some v->x.one=true/\aL g x v/\cq g n w (.cell b j) x v/\NJ g b j x v
 | .map es=>∃en ck,w.heap[g.br b]?=some (.map en ck)/\es.length=en.size/\∀(j:Nat)(x:V×V)(me:MapEntry),es[j]?=some x->en[j]?=some me->aL g x.1 me.key/\aL g x.2 me.val
 | .iter s pos=>w.heap[g.br b]?=some (.stringIter (bytes s) pos)/\∀b:Nat,b∈s->b<256
 | .ul bZ sz cs e=>∃c len cap vs,KK g n w b bZ sz cs e c len cap vs
structure m8(g:Gh)(bs:List aN)(w:aB):Prop where
 mem:∀c o v,g.M c o=some v->w.cell? ⟨c,o,none⟩=some v
 lt:∀b,b<bs.length->g.br b<w.heap.size
 inj:∀b b',b<bs.length->b'<bs.length->g.br b=g.br b'->b=b'
 apart:∀b,b<bs.length->∀o,g.M (g.br b) o=none
 dF:∀c l,g.own c=some l->c<w.heap.size
 cF:∀b,b<bs.length->g.own (g.br b)=none
 ok:∀(b:Nat)(x:aN),bs[b]?=some x->fO g bs.length w b x
 aA:∀(b:Nat)(x:aN),bs[b]?=some x->x.top<=bs.length
 laid:∀c,g.obj.lo c->(∃cs t,w.heap[c]?=some (.cells cs t (0,0)))/\g.own c=none/\∀b,b<bs.length->g.br b≠c
def pR(d n:Nat)(g:Gh)(w:aB)(c:Nat):Prop :=
 c<w.heap.size/\(∀b,b<n->g.br b≠c)/\(g.own c=none\/∃d' t,g.own c=some (.slot d' t)/\d<d')
def qP(bs:List aN)(b off:Nat):Prop:=∃cs t sz xs,bs[b]?=some (.cells cs t)/\cs[off]?=some (.sl sz xs .lock)
structure Fr(d:Nat)(bs:List aN)(g:Gh)(w:aB)(g':Gh)(w':aB):Prop where
 le:Gh.Le bs.length g g'
 heap:∀c,pR d bs.length g w c->w'.heap[c]?=w.heap[c]?
 own:∀c,pR d bs.length g w c->g'.own c=g.own c
 M:∀c,pR d bs.length g w c->∀o,g'.M c o=g.M c o
 size:w.heap.size<=w'.heap.size
 lk:∀b off,qP bs b off->g'.lk b off=g.lk b off
 os:w'.os=w.os
 tape:w'.tape=w.tape
 output:w'.output=w.output
def Fr.refl(d:Nat)(bs:List aN)(g:Gh)(w:aB):Fr d bs g w g w :=
 ⟨.refl _ _,λ_ _=>rfl,λ_ _=>rfl,λ_ _ _=>rfl,bV _,λ_ _ _=>rfl,rfl,rfl,rfl⟩
def Fr.trans{d:Nat}{Ah bs:List aN}{g0 g g':Gh}{w0 w w':aB}(h1:Fr d Ah g0 w0 g w)(hlen:Ah.length<=bs.length)
  (fZ:∀b,Ah.length<=b->b<bs.length->w0.heap.size<=g.br b) (mW:∀b off,qP Ah b off->qP bs b off) (h2:Fr d bs g w g' w'):Fr d Ah g0 w0 g' w':=by
 have hp:∀c,pR d Ah.length g0 w0 c->pR d bs.length g w c:=λc hc=>by
  refine⟨rY hc.1 h1.size,λb hb e=>?_,by rw[h1.own c hc];exact hc.2.2⟩
  rcases iT b Ah.length with bu|tH
  ·exact hc.2.1 b bu ((h1.le.br b bu).symm.trans e)
  ·have:=fZ b tH hb;have:=hc.1;omega
 exact⟨h1.le.trans (h2.le.mono hlen),λc hc=>(h2.heap c (hp c hc)).trans (h1.heap c hc),λc hc=>(h2.own c (hp c hc)).trans (h1.own c hc),
  λc hc o=>(h2.M c (hp c hc) o).trans (h1.M c hc o),cR h1.size h2.size,λb off hl=>(h2.lk b off (mW b off hl)).trans (h1.lk b off hl),
  h2.os.trans h1.os,h2.tape.trans h1.tape,h2.output.trans h1.output⟩
def Vd(Ah:List aN)(H:Hp):Prop :=
 ∀(b:Nat)(x:aN),H.af[b]?=some x->x.top<=b+1\/(∃m,(b,m)∈H.aS/\x.top<=m)\/∃y:aN,Ah[b]?=some y/\x.top<=y.top
structure Yk where
 t:Nat
 v:V
 cv:aP
 at_:Option (Nat×Nat)
structure dK where
 d:Nat
 bs:List aN
 g:Gh
 w:aB
 bh:List Yk
def HU(B:dK)(b off:Nat):Prop:=qP B.bs b off\/∃q∈B.bh,q.at_=some (b,off)
def E3(g:Gh)(n:Nat)(x:V×aj)(d:Deferred):Prop :=
 ∃(f:FuncId)(as cs:aj)(fc:cO),x.1=.fn (.func f) as cs/\d.target=.fn (.func f) fc/\(as++x.2).length=d.args.size/\cs.length=fc.size/\(∀(j:Nat)(y:V)(v:aP),(as++x.2)[j]?=some y->d.args[j]?=some v->aL g y v) /\
  (∀(j:Nat)(y:V)(v:aP),cs[j]?=some y->fc[j]?=some v->aL g y v)/\aA (as++x.2)<=n/\aA cs<=n
def Bn(g:Gh)(n:Nat)(x:V×aj)(d:Deferred):Prop:=E3 g n x d\/(x=(.dx,[])/\∃D,d={ target:=.collected D,args:=#[] })
def zsZ(g:Gh)(n:Nat)(w:aB)(D:Nat):Prop:=w.heap[D]?=some (.deferred (some []))/\(∀b,b<n->g.br b≠D)/\g.own D=none
structure Rel(B:dK)(g:Gh)(s:St)(a:Act)(w:aB):Prop where
 bW:m8 g s.H.af w
 len:s.env.length=a.tmps.size
 env:∀(t:Nat)(x:V)(v:aP),s.env[t]?=some x->a.tmps[t]?=some v->aL g x v/\cq g s.H.af.length w (.slot B.d t) x v
 b_:∀(t:Nat)(x:V),s.env[t]?=some x->x.top<=s.H.af.length
 n0:B.bs.length<=s.H.af.length
 aS:Vd B.bs s.H
 cK:∀b,B.bs.length<=b->b<s.H.af.length->B.w.heap.size<=g.br b
 fr:Fr B.d B.bs B.g B.w g w
 gm:∀b off,HU B b off->qP s.H.af b off
 nB:∀p∈s.lk,¬HU B p.1 p.2
 bh:∀p∈B.bh,s.env.length<p.t/\aL g p.v p.cv/\cq g s.H.af.length w (.slot B.d p.t) p.v p.cv/\p.v.top<=s.H.af.length/\∀b off,p.at_=some (b,off)->g.lk b off=p.cv
 cY:s.defers.length=a.defers.length
 defers:∀(j:Nat)(x:V×aj)(d:Deferred),s.defers[j]?=some x->a.defers[j]?=some d->Bn g s.H.af.length x d
 marks:∀d∈a.defers,∀D,d.target=.collected D->B.w.heap.size<=D/\zsZ g s.H.af.length w D
 iD:a.defers.Pairwise λd d'=>∀D,d.target=.collected D->d'.target≠.collected D
structure lG(d:Nat)(b0:Option Nat)(l0:Option Loc)(n:Nat)(g:Gh)(w:aB)(g':Gh)(w':aB):Prop where
 le:Gh.Le n g g'
 heap:∀c,c<w.heap.size->(∀b,b0=some b->g.br b≠c)->(∀l,l0=some l->g.own c≠some l)->w'.heap[c]?=w.heap[c]?
 own:∀c,c<w.heap.size->(∀l,l0=some l->g.own c≠some l)->g'.own c=g.own c
 M:∀c,c<w.heap.size->(∀l,l0=some l->g.own c≠some l)->∀o,g'.M c o=g.M c o
 size:w.heap.size<=w'.heap.size
 lk:∀b off,(∀l,l0=some l->l≠.cell b off)->g'.lk b off=g.lk b off
 RD:∀l,l0=some l->(∃t,l=.slot d t)\/∃b j,l=.cell b j/\b0=some b
 F0:∀b,b0=some b->b<n
 fD:∀b u,b<n->b0≠some b->g'.fD b u=g.fD b u
 os:w'.os=w.os
 tape:w'.tape=w.tape
 output:w'.output=w.output
def v7{w w':aB}{base e sz:Nat}{cv:aP}{n:Nat}{xs:dy}(h:w.ownsRow base e sz cv n xs)(hh:∀c,cv.ownBlock=some c->w'.heap[c]?=w.heap[c]?) :
  w'.ownsRow base e sz cv n xs:=by
 refine⟨h.1,h.2.imp id ?_⟩;rintro⟨c,cap,cur,rfl,hb,hc,r⟩;exact⟨c,cap,cur,rfl,hb,by rw[hh c rfl];exact hc,r⟩
def iW.lt{g:Gh}{n:Nat}{w:aB}{l:Loc}{e sz len:Nat}{cv:aP}(h:iW g n w l e sz len cv):∀c,cv.ownBlock=some c->c<w.heap.size:=by
 obtain⟨xs,ho,_⟩:=h;exact λc hc=>(ho.lt c hc).2
def iW.same{d:Nat}{b0:Option Nat}{l0:Option Loc}{n n':Nat}{g g':Gh}{w w':aB}(hs:lG d b0 l0 n g w g' w'){l:Loc}(hl:l0≠some l)
  (hn:∀b,n<=b->b<n'->w.heap.size<=g'.br b) {e sz len:Nat} {cv:aP} (h:iW g n w l e sz len cv):iW g' n' w' l e sz len cv:=by
 have bu:=h.lt;obtain⟨xs,ho,hc⟩:=h;have cg:∀c,cv.ownBlock=some c->∀l',l0=some l'->g.own c≠some l':=λc lX l' lY e=>by
  rw[(hc c lX).1] at e;cases e;exact hl lY
 refine⟨xs,v7 ho λc lX=>hs.heap c (bu c lX) (λb hb=>(hc c lX).2.2 b (hs.F0 b hb)) (cg c lX),λc lX=>⟨?_,?_,?_⟩⟩
 ·rw[hs.own c (bu c lX) (cg c lX)];exact(hc c lX).1
 ·intro o P3;rw[hs.M c (bu c lX) (cg c lX)];exact(hc c lX).2.1 o P3
 ·intro b hb e;rcases iT b n with h1|h1
  ·exact(hc c lX).2.2 b h1 ((hs.le.br b h1).symm.trans e)
  ·have:=hn b h1 hb;have:=bu c lX;omega
def cq.same{d:Nat}{b0:Option Nat}{l0:Option Loc}{n n':Nat}{g g':Gh}{w w':aB}(hs:lG d b0 l0 n g w g' w'){l:Loc}(hl:l0≠some l)
  (hn:∀b,n<=b->b<n'->w.heap.size<=g'.br b) {x:V} {cv:aP} (h:cq g n w l x cv):cq g' n' w' l x cv:=by
 unfold cq at *;split
 ·exact iW.same hs hl hn h
 ·trivial
def ko(g:Gh)(n:Nat)(w:aB)(l:Loc)(x:V)(cv:aP):cq g n w l (aX x) cv:=by
 cases x<;>simp[aX,cq]
def fO.same{d:Nat}{b0:Option Nat}{l0:Option Loc}{n n':Nat}{g g':Gh}{w w':aB}(hs:lG d b0 l0 n g w g' w'){b:Nat}(hb:b0≠some b)(Ai:b<n)
  (bu:g.br b<w.heap.size) (iE:g.own (g.br b)=none) (NK:∀b',b0=some b'->g.br b'≠g.br b)
  (hn:∀b,n<=b->b<n'->w.heap.size<=g'.br b) {x:aN} (bX:x.top<=n) (h:fO g n w b x):fO g' n' w' b x:=by
 have cg:∀l,l0=some l->g.own (g.br b)≠some l:=by
  intro l _;rw[iE];simp
 have sV:w'.heap[g'.br b]?=w.heap[g.br b]?:=by
  rw[hs.le.br b Ai];exact hs.heap _ bu NK cg
 have eS:∀j,l0≠some (.cell b j):=λj e=>by
  rcases hs.RD _ e with⟨t,ht⟩|⟨b',j',he,bY⟩
  ·cases ht
  ·cases he;exact hb bY
 cases x with
 | cells cs t =>
  obtain⟨arr,ha,hl,hj⟩:=h;refine⟨arr,sV.trans ha,hl,λj x v hx hv=>?_⟩;obtain⟨h1,h2,h3,h4⟩:=hj j x v hx hv;have RE:x.top<=n:=cR (zk (zy hx)) bX;refine⟨h1,h2.le hs.le RE,cq.same hs (eS j) hn h3,?_⟩;unfold NJ at *;split
  ·rw[hs.lk b j λl hl e=>eS j (e ▸ hl)];exact h4
  ·trivial
 | map es =>
  obtain⟨en,ck,ha,hl,hj⟩:=h;have ht:=Ar.1 (show max (aA (es.map (·.1))) (aA (es.map (·.2)))<=n from bX);refine⟨en,ck,sV.trans ha,hl,λj x me hx hme=>?_⟩;obtain⟨h1,h2⟩:=hj j x me hx hme;exact⟨h1.le hs.le (cR (zk (G0 (f:=(·.1)) (zy hx))) ht.1),h2.le hs.le (cR (zk (G0 (f:=(·.2)) (zy hx))) ht.2)⟩
 | iter s pos=>exact⟨sV.trans h.1,h.2⟩
 | ul bZ sz cs e =>
  obtain⟨c,len,cap,vs,hu⟩:=h;have bu:c<w.heap.size:=(hu.row.lt c rfl).2;have lC:∀l,l0=some l->g.own c≠some l:=λl lY e'=>by
   rcases hu.uk with h1|h1
   ·exact cg l lY (h1 ▸ e')
   ·rw[h1] at e';cases e';exact eS 0 lY
  have G9:∀b',b0=some b'->g.br b'≠c:=λb' bY=>hu.others b' (hs.F0 b' bY) λe'=>hb (e' ▸ bY);refine⟨c,len,cap,vs,?_,hu.pos,v7 hu.row λk hk=>?_,?_,λo=>?_,λb' bY Yl e'=>?_,hu.len,λj x v hx hv=>?_,λu Ve=>?_⟩
  ·rw[hs.fD b bZ Ai hb];exact hu.fD
  ·cases hk;exact hs.heap c bu G9 lC
  ·rw[hs.le.br b Ai,hs.own c bu lC];exact hu.uk
  ·rw[hs.M c bu lC];exact hu.M o
  ·rcases iT b' n with h1|h1
   ·exact hu.others b' h1 Yl ((hs.le.br b' h1).symm.trans e')
   ·have:=hn b' h1 bY;omega
  ·obtain⟨h1,h2⟩:=hu.cells j x v hx hv;exact⟨h1,h2.le hs.le (cR (zk (zy hx)) bX)⟩
  ·rw[hs.fD b u Ai hb];exact hu.fresh u Ve
def lG.fr{d:Nat}{b0:Option Nat}{l0:Option Loc}{bs:List aN}{g g':Gh}{w w':aB}(hs:lG d b0 l0 bs.length g w g' w')(hl:∀b j,l0=some (.cell b j)->¬qP bs b j) :
  Fr d bs g w g' w':=by
 have cg:∀c,pR d bs.length g w c->∀l,l0=some l->g.own c≠some l:=by
  intro c hc l lY e;rcases hc.2.2 with h0|⟨d',t,h1,hd⟩
  ·rw[h0] at e;cases e
  ·rw[h1] at e;cases e;rcases hs.RD _ lY with⟨t',ht⟩|⟨b,j,hj,_⟩
   ·cases ht;omega
   ·cases hj
 exact⟨hs.le,λc hc=>hs.heap c hc.1 (λb hb=>hc.2.1 b (hs.F0 b hb)) (cg c hc),λc hc=>hs.own c hc.1 (cg c hc),λc hc=>hs.M c hc.1 (cg c hc),hs.size,
  λb off mW=>hs.lk b off λl lY e=>hl b off (e ▸ lY) mW,hs.os,hs.tape,hs.output⟩
def E3.le{n n':Nat}{g g':Gh}(hg:Gh.Le n g g')(hn:n<=n'){x:V×aj}{d:Deferred}(h:E3 g n x d):E3 g' n' x d:=by
 obtain⟨f,as,cs,fc,h1,h2,h3,h4,h5,h6,h7,h8⟩:=h
 exact⟨f,as,cs,fc,h1,h2,h3,h4,λj y v hy hv=>(h5 j y v hy hv).le hg (cR (zk (zy hy)) h7),λj y v hy hv=>(h6 j y v hy hv).le hg (cR (zk (zy hy)) h8),
  cR h7 hn,cR h8 hn⟩
def Bn.le{n n':Nat}{g g':Gh}(hg:Gh.Le n g g')(hn:n<=n'){x:V×aj}{d:Deferred}(h:Bn g n x d):Bn g' n' x d:=h.imp (λh=>h.le hg hn) id
def Rel.ij{B:dK}{g:Gh}{s:St}{a:Act}{w:aB}(h:Rel B g s a w){b0:Option Nat}{l0:Option Loc}{g':Gh}{w':aB}(hs:lG B.d b0 l0 s.H.af.length g w g' w'){s':St}
  (hlen:s.H.af.length<=s'.H.af.length)
  (hold:∀b,b<s.H.af.length->b0≠some b->s'.H.af[b]?=s.H.af[b]?)
  (KL:∀(b:Nat)(x:aN),(b0=some b\/s.H.af.length<=b)->s'.H.af[b]?=some x->fO g' s'.H.af.length w' b x/\x.top<=s'.H.af.length)
  (fZ:∀b,s.H.af.length<=b->b<s'.H.af.length->w.heap.size<=g'.br b/\g'.br b<w'.heap.size/\g'.own (g'.br b)=none/\∀o,g'.M (g'.br b) o=none)
  (NK:∀b b',s.H.af.length<=b->b<s'.H.af.length->s.H.af.length<=b'->b'<s'.H.af.length->g'.br b=g'.br b'->b=b')
  (fE:∀c o v,g'.M c o=some v->w'.cell? ⟨c,o,none⟩=some v)
  (DO:∀c l,g'.own c=some l->c<w'.heap.size)
  (AP:∀b j,l0=some (.cell b j)->¬qP s.H.af b j)
  (Mk:s'.env.length=s.env.length) (KM:s'.defers=s.defers)
  (oK:∀(t:Nat)(x:V),s'.env[t]?=some x->∃y,s.env[t]?=some y/\(x=y/\l0≠some (.slot B.d t)\/x=aX y))
  (NL:Vd B.bs s'.H) (KN:∀b off,HU B b off->qP s'.H.af b off) (KO:∀p∈s'.lk,¬HU B p.1 p.2) (lH:∀t,l0=some (.slot B.d t)->t<=s.env.length):Rel B g' s' a w':=by
 have hn:∀b,s.H.af.length<=b->b<s'.H.af.length->w.heap.size<=g'.br b:=λb h1 h2=>(fZ b h1 h2).1;have cg:∀b,b<s.H.af.length->∀l,l0=some l->g.own (g.br b)≠some l:=λb hb l _=>by rw[h.bW.cF b hb];simp
 have m9:∀b,b<s.H.af.length->g'.br b=g.br b:=λb hb=>hs.le.br b hb;refine { bW:=?_,len:=Mk.trans h.len,env:=?_,b_:=?_,n0:=cR h.n0 hlen,aS:=NL,cK:=?_,fr:=?_,gm:=KN,nB:=KO,bh:=?_,cY:=by rw[KM];exact h.cY,defers:=?_,marks:=λd hd D hD=>?_,iD:=h.iD }
 ·refine { mem:=fE,lt:=?_,inj:=?_,apart:=?_,dF:=DO,cF:=?_,ok:=?_,aA:=?_,laid:=?_ }
  ·intro b hb;rcases iT b s.H.af.length with h1|h1
   ·rw[m9 b h1];exact rY (h.bW.lt b h1) hs.size
   ·exact(fZ b h1 hb).2.1
  ·intro b b' hb bY e;rcases iT b s.H.af.length with h1|h1<;>rcases iT b' s.H.af.length with h2|h2
   ·rw[m9 b h1,m9 b' h2] at e;exact h.bW.inj b b' h1 h2 e
   ·have:=hn b' h2 bY;have:=h.bW.lt b h1;rw[m9 b h1] at e;omega
   ·have:=hn b h1 hb;have:=h.bW.lt b' h2;rw[m9 b' h2] at e;omega
   ·exact NK b b' h1 hb h2 bY e
  ·intro b hb o;rcases iT b s.H.af.length with h1|h1
   ·rw[m9 b h1,hs.M _ (h.bW.lt b h1) (cg b h1)];exact h.bW.apart b h1 o
   ·exact(fZ b h1 hb).2.2.2 o
  ·intro b hb;rcases iT b s.H.af.length with h1|h1
   ·rw[m9 b h1,hs.own _ (h.bW.lt b h1) (cg b h1)];exact h.bW.cF b h1
   ·exact(fZ b h1 hb).2.2.1
  ·intro b x hx
   by_cases hc:b0=some b\/s.H.af.length<=b
   ·exact(KL b x hc hx).1
   ·have h1:b<s.H.af.length:=by omega
    have h2:b0≠some b:=λe=>hc (.inl e);rw[hold b h1 h2] at hx;exact fO.same hs h2 h1 (h.bW.lt b h1) (h.bW.cF b h1) (λb' bY e=>h2 (by rw[bY,h.bW.inj b' b (hs.F0 b' bY) h1 e])) hn (h.bW.aA b x hx) (h.bW.ok b x hx)
  ·intro b x hx
   by_cases hc:b0=some b\/s.H.af.length<=b
   ·exact(KL b x hc hx).2
   ·have h1:b<s.H.af.length:=by omega
    rw[hold b h1 (λe=>hc (.inl e))] at hx;exact cR (h.bW.aA b x hx) hlen
  ·intro c hc;rw[hs.le.obj] at hc;obtain⟨⟨cs,t,h1⟩,h2,h3⟩:=h.bW.laid c hc;have bu:c<w.heap.size:=(ud.1 h1).1;have lC:∀l,l0=some l->g.own c≠some l:=λl _=>by rw[h2];simp
   refine⟨⟨cs,t,by rw[hs.heap c bu (λb hb=>h3 b (hs.F0 b hb)) lC];exact h1⟩,by rw[hs.own c bu lC];exact h2,λb hb e=>?_⟩
   rcases iT b s.H.af.length with h4|h4
   ·rw[m9 b h4] at e;exact h3 b h4 e
   ·have:=hn b h4 hb;omega
 ·intro t x v hx hv;obtain⟨y,hy,Bo⟩:=oK t x hx;obtain⟨h1,h2⟩:=h.env t y v hy hv;have h3:=h.b_ t y hy;rcases Bo with⟨rfl,hl⟩|rfl
  ·exact⟨h1.le hs.le h3,cq.same hs hl hn h2⟩
  ·exact⟨(h1.le hs.le h3).aX,ko _ _ _ _ _ _⟩
 ·intro t x hx;obtain⟨y,hy,Bo⟩:=oK t x hx;have h3:=h.b_ t y hy;rcases Bo with⟨rfl,_⟩|rfl
  ·exact cR h3 hlen
  ·rw[dw];exact cR h3 hlen
 ·intro b h1 h2;rcases iT b s.H.af.length with h3|h3
  ·rw[m9 b h3];exact h.cK b h1 h3
  ·exact cR h.fr.size (hn b h3 h2)
 ·exact h.fr.trans h.n0 h.cK (λb off hl=>h.gm b off (.inl hl)) (hs.fr AP)
 ·intro p hp;obtain⟨p1,p2,p3,p4,p5⟩:=h.bh p hp;refine⟨by rw[Mk];exact p1,p2.le hs.le p4,cq.same hs (λe=>?_) hn p3,cR p4 hlen,λb off e=>?_⟩
  ·have:=lH _ e;omega
  ·rw[hs.lk b off λl hl e'=>AP b off (e' ▸ hl) (h.gm b off (.inr ⟨p,hp,e⟩))];exact p5 b off e
 ·intro j x d hx hd;rw[KM] at hx;exact(h.defers j x d hx hd).le hs.le hlen
 ·obtain⟨h0,h1,h2,h3⟩:=h.marks d hd D hD;have bu:D<w.heap.size:=(ud.1 h1).1;have lC:∀l,l0=some l->g.own D≠some l:=λl _=>by rw[h3];simp
  refine⟨h0,by rw[hs.heap D bu (λb hb=>h2 b (hs.F0 b hb)) lC];exact h1,λb hb e=>?_,by rw[hs.own D bu lC];exact h3⟩
  rcases iT b s.H.af.length with h4|h4
  ·rw[m9 b h4] at e;exact h2 b h4 e
  ·have:=hn b h4 hb;omega
end
section
mutual
def Ym(g:Gh):∀(v:aP)(x:V),aF v=some x->aL g x v/\x.top=0
 | .bool b,x,h=>by simp only[aF,aO] at h;subst h;exact⟨.bool b,rfl⟩
 | .int k n,x,h=>by simp only[aF,aO] at h;subst h;exact⟨.int k n,rfl⟩
 | .float _ _,x,h=>by simp[aF] at h
 | .complex _ _ _,x,h=>by simp[aF] at h
 | .string s,x,h=>by
  simp only[aF,aO] at h;subst h;have e:s=bytes (s.data.toList.map UInt8.toNat):=by
   cases s;simp[bytes,Function.comp_def]
  refine⟨?_,rfl⟩
  conv=>rhs;rw[e]
  exact .str λb hb=>by
   obtain⟨c,_,rfl⟩:=r7.1 hb;exact c.toNat_lt
 | .pointer a,x,h=>by
  cases a with
  | none=>simp only[aF,aO] at h;subst h;exact⟨.dx,rfl⟩
  | some _=>simp[aF] at h
 | .slice a n c,x,h=>by
  unfold aF at h;split at h<;>first|(rename_i e;cases e;done)|skip
  all_goals first
   |(simp only[aO] at h;subst h;rename_i e;cases e;first|exact⟨.aU,rfl⟩)
   |(cases h;done)
   |(rename_i e;cases e)
 | .map r,x,h=>by
  cases r with
  | none=>simp only[aF,aO] at h;subst h;exact⟨.mB,rfl⟩
  | some _=>simp[aF] at h
 | .chan _,x,h=>by simp[aF] at h
 | .func f ⟨as⟩ ⟨cs⟩,x,h=>by
  cases as with
  | nil=>cases cs with
   | nil =>
    simp only[aF,aO] at h;subst h;exact⟨.fn rfl rfl (λj x v hx=>by simp at hx) (λj x v hx=>by simp at hx),rfl⟩
   | cons _ _=>simp[aF] at h
  | cons _ _=>simp[aF] at h
 | .nilFunc,x,h=>by simp only[aF,aO] at h;subst h;exact⟨.nx,rfl⟩
 | .iface _ _,x,h=>by simp[aF] at h
 | .nilIface,x,h=>by simp only[aF,aO] at h;subst h;exact⟨.bq,rfl⟩
 | .agg ⟨cs⟩,x,h=>by
  simp only[aF,fy] at h;obtain⟨l,hl,h⟩:=h;split at h
  ·rename_i dz;simp only[aO] at h;subst h;obtain⟨h1,h2,h3⟩:=zea g cs l hl;refine⟨.agg (by simpa using h1) (λj x hx=>Cf.1 dz x (zy hx)) (λj x v hx hv=>h2 j x v hx (by simpa using hv)),?_⟩
   simp only[V.top];exact h3
  ·cases h
 | .tuple ⟨vs⟩,x,h=>by
  cases vs with
  | nil=>simp only[aF,aO] at h;subst h;exact⟨.bx rfl (λj x v hx=>by simp at hx),rfl⟩
  | cons _ _=>simp[aF] at h
def zea(g:Gh):∀(vs:dy)(xs:aj),nP vs=some xs->xs.length=vs.length/\(∀(j:Nat)(x:V)(v:aP),xs[j]?=some x->vs[j]?=some v->aL g x v)/\aA xs=0
 | [],xs,h=>by simp only[nP,aO] at h;subst h;exact⟨rfl,λj x v hx=>by simp at hx,rfl⟩
 | v::vs,xs,h=>by
  simp only[nP] at h;split at h
  ·rename_i x ys hx AQ;simp only[aO] at h;subst h;obtain⟨h1,h2⟩:=Ym g v x hx;obtain⟨h3,h4,h5⟩:=zea g vs ys AQ;refine⟨by simp[h3],λj y u hy hu=>?_,by simp[aA,h2,h5]⟩
   cases j with
   | zero=>simp at hy hu;subst hy;subst hu;exact h1
   | succ j=>simp at hy hu;exact h4 j y u hy hu
  ·cases h
end
variable{B:dK}{g:Gh}{s:St}{a:Act}{w:aB}
def Rel.slot(h:Rel B g s a w){t:Nat}{x:V}(hx:s.env[t]?=some x):∃v,a.tmps[t]?=some v/\a.eval (.tmp t)=v:=by
 have bu:t<a.tmps.size:=by rw[<- h.len];exact(dW.1 hx).1
 refine⟨a.tmps[t],HI bu,?_⟩;simp[Act.eval,Array.getD,bu]
def zfr{n:Nat}{l:Loc}{x:V}{v cv:aP}(h:aF v=some x):cq g n w l x cv:=by
 unfold cq;split
 ·unfold aF at h;split at h<;>try (simp at h;done)
  all_goals (simp only[fy] at h;obtain⟨l,_,h⟩:=h;split at h<;>simp at h)
 ·trivial
def zD(h:Rel B g s a w){x:aH}{v:V}(hp:aq s.env x=some v) :
  aL g v (a.eval x)/\v.top<=s.H.af.length/\∀n l,cq g n w l v (a.eval x):=by
 cases x with
 | tmp t =>
  simp only[aq,zf] at hp;split at hp<;>simp only[aO,reduceCtorEq] at hp;rename_i y hy;subst hp;obtain⟨cv,nJ,he⟩:=h.slot hy;rw[he];exact⟨(h.env t y cv hy nJ).1.aX,by rw[dw];exact h.b_ t y hy,λ_ _=>ko _ _ _ _ _ _⟩
 | const c =>
  simp only[aq] at hp;obtain⟨h1,h2⟩:=Ym g c v hp;exact⟨h1,by omega,λ_ _=>zfr hp⟩
 | global k =>
  simp only[aq,aO] at hp;subst hp;exact⟨.gj k 0,dJ _,λ_ _=>trivial⟩
 | func f =>
  simp only[aq,aO] at hp;subst hp;exact⟨.fn rfl rfl (λj x v hx=>by simp at hx) (λj x v hx=>by simp at hx),dJ _,λ_ _=>trivial⟩
def Rel.hand(h:Rel B g s a w){t:Nat}{v:V}(hv:s.env[t]?=some v)(c:Nat)(hc:g.own c=some (.slot B.d t))(hcw:c<w.heap.size)(l:Loc) :
  Rel B { g with own:=λx=>if x=c then some l else g.own x } { s with env:=s.env.set t (aX v) } a w:=by
 have ht:t<s.env.length:=(dW.1 hv).1;refine h.ij (b0:=none) (l0:=some (.slot B.d t)) ?_ (bV _) (λ_ _ _=>rfl) (λb x hb hx=>?_) (λb h1 h2=>?_) (λb b' h1 h2=>?_) h.bW.mem (λc' l' ez=>?_) (λb j e=>by cases e) (by simp) rfl (λt' x hx=>?_) h.aS h.gm h.nB ?_
 ·refine⟨⟨λ_ _ _ e=>e,λ_ _=>rfl,rfl,λ_ _ _ _ e=>e⟩,λ_ _ _ _=>rfl,λc' _ h'=>?_,λ_ _ _ _=>rfl,bV _,λ_ _ _=>rfl,λl' lY=>?_,λb hb=>(by cases hb),λ_ _ _ _=>rfl,rfl,rfl,rfl⟩
  ·show(if c'=c then some l else g.own c')=g.own c'
   rw[if_neg];rintro rfl;exact h' _ rfl hc
  ·cases lY;exact .inl ⟨t,rfl⟩
 ·rcases hb with hb|hb
  ·cases hb
  ·have:=(dW.1 hx).1;simp only at this;omega
 ·simp only at h2;omega
 ·simp only at h2;omega
 ·simp only at ez;split at ez
  next e=>rw[e];exact hcw
  ·exact h.bW.dF c' l' ez
 ·simp only[AM] at hx;split at hx
  next e=>subst e;simp only[aO] at hx;exact⟨v,hv,.inr hx.symm⟩
  next e=>exact⟨x,hx,.inl ⟨rfl,λe'=>e (by cases e';rfl)⟩⟩
 ·intro t' e;cases e;exact DK ht
def Rel.clear(h:Rel B g s a w){t:Nat}{v:V}(hv:s.env[t]?=some v):Rel B g { s with env:=s.env.set t (aX v) } a w:=by
 have ht:t<s.env.length:=(dW.1 hv).1;refine h.ij (b0:=none) (l0:=none) ?_ (bV _) (λ_ _ _=>rfl) (λb x hb hx=>?_) (λb h1 h2=>?_) (λb b' h1 h2=>?_) h.bW.mem h.bW.dF (λb j e=>by cases e) (by simp) rfl (λt' x hx=>?_) h.aS h.gm h.nB ?_
 ·exact⟨⟨λ_ _ _ e=>e,λ_ _=>rfl,rfl,λ_ _ _ _ e=>e⟩,λ_ _ _ _=>rfl,λ_ _ _=>rfl,λ_ _ _ _=>rfl,bV _,λ_ _ _=>rfl,λl' lY=>(by cases lY),λb hb=>(by cases hb),λ_ _ _ _=>rfl,rfl,rfl,rfl⟩
 ·rcases hb with hb|hb
  ·cases hb
  ·have:=(dW.1 hx).1;simp only at this;omega
 ·simp only at h2;omega
 ·simp only at h2;omega
 ·simp only[AM] at hx;split at hx
  next e=>subst e;simp only[aO] at hx;exact⟨v,hv,.inr hx.symm⟩
  ·exact⟨x,hx,.inl ⟨rfl,λe'=>by cases e'⟩⟩
 ·intro t' e;cases e
structure Gh.Alike(g g':Gh):Prop where
 M:g'.M=g.M
 br:g'.br=g.br
 obj:g'.obj=g.obj
 lk:g'.lk=g.lk
 fD:g'.fD=g.fD
def Gh.Alike.refl(g:Gh):Gh.Alike g g:=⟨rfl,rfl,rfl,rfl,rfl⟩
def Gh.Alike.le{g g':Gh}(h:Gh.Alike g g')(n:Nat):Gh.Le n g g':=⟨λ_ _ _ e=>by rw[h.M];exact e,λ_ _=>by rw[h.br],h.obj,λ_ _ _ _ e=>by rw[h.fD];exact e⟩
def Gh.Alike.rel{g g':Gh}(h:Gh.Alike g g'){v:V}{cv:aP}(hr:aL g v cv):aL g' v cv:=hr.le (h.le v.top) (bV _)
def gN(h:Rel B g s a w){x:aH}{v:V}{bB:aj}(ht:take s.env x=some (v,bB))(l:Loc) :
  ∃g',Rel B g' { s with env:=bB } a w/\aL g' v (a.eval x)/\cq g' s.H.af.length w l v (a.eval x)/\v.top<=s.H.af.length/\Gh.Alike g g':=by
 have plain:∀y,(∀t,y≠.tmp t)->take s.env y=some (v,bB)->∃g',Rel B g' { s with env:=bB } a w/\aL g' v (a.eval y)/\cq g' s.H.af.length w l v (a.eval y)/\v.top<=s.H.af.length/\Gh.Alike g g':=by
  intro y hy J';have hp:aq s.env y=some v/\s.env=bB:=by
   cases y with
   | tmp t=>exact absurd rfl (hy t)
   | _ =>
    simp only[take,nq,bP] at J';obtain⟨u,hu,rfl,rfl⟩:=J';exact⟨hu,rfl⟩
  obtain⟨h1,h2,h3⟩:=zD h hp.1;rw[<- hp.2];exact⟨g,h,h1,h3 _ _,h2,.refl g⟩
 cases x with
 | tmp t =>
  simp only[take,zf,eV] at ht;split at ht<;>simp only[aO,bP,reduceCtorEq] at ht
  ·rename_i sz xs e hy;obtain⟨rfl,rfl⟩:=ht;obtain⟨cv,nJ,he⟩:=h.slot hy;obtain⟨h1,h2⟩:=h.env t _ cv hy nJ;have h3:=h.b_ t _ hy;rw[he];have sW:iW g s.H.af.length w (.slot B.d t) e sz xs.length cv:=h2;cases F1:cv.ownBlock with
   | none =>
    obtain⟨ys,ho,_⟩:=sW;exact⟨g,h.clear hy,h1,⟨ys,ho,λc hc=>by rw[F1] at hc;cases hc⟩,h3,.refl g⟩
   | some c =>
    have bu:=sW.lt c F1;obtain⟨ys,ho,hc⟩:=sW;obtain⟨c1,c2,c3⟩:=hc c F1;refine⟨_,h.hand hy c c1 bu l,?_,⟨ys,ho,λc' ez=>?_⟩,h3,⟨rfl,rfl,rfl,rfl,rfl⟩⟩
    ·exact Gh.Alike.rel (g:=g) (g':={ g with own:=λx=>if x=c then some l else g.own x }) ⟨rfl,rfl,rfl,rfl,rfl⟩ h1
    ·rw[F1] at ez;cases ez;exact⟨by simp,c2,c3⟩
  next y _ hy=>obtain⟨rfl,rfl⟩:=ht;obtain⟨cv,nJ,he⟩:=h.slot hy;obtain⟨h1,h2⟩:=h.env t _ cv hy nJ;rw[he];exact⟨g,h,h1.aX,ko _ _ _ _ _ _,by rw[dw];exact h.b_ t _ hy,.refl g⟩
 | const c=>exact plain _ (λt=>by simp) ht
 | global k=>exact plain _ (λt=>by simp) ht
 | func f=>exact plain _ (λt=>by simp) ht
structure F2(B:dK)(g:Gh)(s:St)(a:Act)(w:aB)(dst:eC)(v:V)(cv:aP):Prop where
 rel:Rel B g s a w
 val:aL g v cv
 own:∀t,dst=some t->cq g s.H.af.length w (.slot B.d t) v cv
 top:v.top<=s.H.af.length
def yx{dst:eC}{v:V}{cv:aP}(h:F2 B g s a w dst v cv):Rel B g { s with env:=aI s.env dst v } (a.put dst cv) w:=by
 cases dst with
 | none=>exact h.rel
 | some t =>
  have hr:=h.rel;refine { bW:=hr.bW,len:=by simpa[aI,Act.put] using hr.len,env:=?_,b_:=?_,n0:=hr.n0,aS:=hr.aS,cK:=hr.cK,fr:=hr.fr,gm:=hr.gm,nB:=hr.nB,bh:=by simpa[aI] using hr.bh,cY:=hr.cY,defers:=hr.defers,marks:=hr.marks,iD:=hr.iD }
  ·intro t' x u hx hu;simp only[aI,AM] at hx;simp only[Act.put,Array.getElem?_setIfInBounds] at hu
   by_cases e:t=t'
   ·subst e;simp only[aT] at hx hu;split at hx
    ·simp only[aO] at hx;split at hu
     ·simp only[aO] at hu;subst hx;subst hu;exact⟨h.val,h.own t rfl⟩
     ·cases hu
    ·cases hx
   ·simp only[e,aZ] at hx hu;exact hr.env t' x u hx hu
  ·intro t' x hx;simp only[aI,AM] at hx
   by_cases e:t=t'
   ·subst e;simp only[aT] at hx;split at hx
    ·simp only[aO] at hx;subst hx;exact h.top
    ·cases hx
   ·simp only[e,aZ] at hx;exact hr.b_ t' x hx
end
section
variable{P:aD}{g:Gh}{w:aB}
def jq{t:ai}{n:Nat}(h:z9 P t=some n)(w:aB):(sizeOf t).run P w=.ok n w:=by
 simp only[z9,nq] at h;obtain⟨i,hi,rfl⟩:=h;simp[sizeOf,typeInfo,hi]
def Vf{t:ai}{b:Bool}(h:jI P t=some b)(w:aB):(isAgg t).run P w=.ok b w:=by
 simp only[jI,nq] at h;obtain⟨d,hd,rfl⟩:=h;unfold isAgg;simp only[Sem.run_bind,run_underlying hd,Result.andThen_ok];cases d<;>rfl
structure bz(g:Gh)(cs:aj)(vs:dy):Prop where
 len:cs.length=vs.length
 one:∀(j:Nat)(x:V),cs[j]?=some x->x.one=true
 rel:∀(j:Nat)(x:V)(v:aP),cs[j]?=some x->vs[j]?=some v->aL g x v
def bz.get{cs:aj}{vs:dy}(h:bz g cs vs){j:Nat}{x:V}(hx:cs[j]?=some x):∃v,vs[j]?=some v/\aL g x v:=by
 have bu:j<vs.length:=by rw[<- h.len];exact(dW.1 hx).1
 exact⟨vs[j],lB bu,h.rel j x _ hx (lB bu)⟩
def bz.drop{cs:aj}{vs:dy}(h:bz g cs vs)(k:Nat):bz g (cs.drop k) (vs.drop k) :=
 ⟨by simp[h.len],λj x hx=>h.one (k+j) x (by simpa using hx),λj x v hx hv=>h.rel (k+j) x v (by simpa using hx) (by simpa using hv)⟩
def bz.take{cs:aj}{vs:dy}(h:bz g cs vs)(k:Nat):bz g (cs.take k) (vs.take k):=by
 refine⟨by simp[h.len],λj x hx=>?_,λj x v hx hv=>?_⟩
 ·rw[Bk] at hx;split at hx
  ·exact h.one j x hx
  ·cases hx
 ·rw[Bk] at hx hv;split at hx
  next hj=>rw[if_pos hj] at hv;exact h.rel j x v hx hv
  ·cases hx
def bz.agg{cs:aj}{arr:cO}(h:bz g cs arr.toList):aL g (.agg cs) (.agg arr) :=
 .agg (by simpa using h.len) h.one λj x v hx hv=>h.rel j x v hx (by simpa using hv)
def wN{cs:aj}{cv:aP}(h:aL g (.agg cs) cv):∃arr,cv=.agg arr/\bz g cs arr.toList:=by
 cases h with
 | agg h1 h2 h3=>exact⟨_,rfl,⟨by simpa using h1,h2,λj x v hx hv=>h3 j x v hx (by simpa using hv)⟩⟩
def bz.Bp{cs:aj}{vs:dy}(h:bz g cs vs):bz g (cs.map aX) vs:=by
 refine⟨by simp[h.len],λj x hx=>?_,λj x v hx hv=>?_⟩
 ·simp only[pH,nq] at hx;obtain⟨y,hy,rfl⟩:=hx;exact(Yj y).trans (h.one j y hy)
 ·simp only[pH,nq] at hx;obtain⟨y,hy,rfl⟩:=hx;exact(h.rel j y v hy hv).aX
def P4{cs:aj}{arr:cO}(h:bz g cs arr.toList){t:ai}{off:Nat}{v:V}(hv:jZ P t cs off=some v)(w:aB) :
  ∃cv,(part t arr off).run P w=.ok cv w/\aL g v cv/\v.top<=aA cs/\(∀ys,v=.agg ys->∃vs,cv=.agg vs/\vs=arr.extract off (off+ys.length)):=by
 simp only[jZ,Option.bind_eq_bind,fy] at hv;obtain⟨b,hb,hv⟩:=hv;unfold part;simp only[Sem.run_bind,Vf hb,Result.andThen_ok];cases b with
 | true =>
  simp only[aT,fy] at hv;obtain⟨n,hn,hv⟩:=hv;split at hv<;>simp only[aO,reduceCtorEq] at hv;rename_i hle;subst hv;simp only[aT,Sem.run_bind,jq hn,Result.andThen_ok,Sem.run_pure];have hl:(List.take n (List.drop off cs)).length=n:=by simp;omega
  refine⟨_,rfl,?_,?_,λys AQ=>?_⟩
  ·refine bz.agg ?_;have:=(h.drop off).take n;simpa[List.take_drop] using this
  ·simp only[V.top];exact qU λx hx=>zk (FR (EZ hx))
  ·cases AQ;exact⟨_,rfl,by rw[hl]⟩
 | false =>
  simp only[bH,aZ,zf] at hv;obtain⟨cv,nJ,hr⟩:=h.get hv;simp only[bH,aZ];have:arr[off]?=some cv:=by simpa using nJ
  rw[this];refine⟨cv,rfl,hr,zk (zy hv),λys AQ=>?_⟩;subst AQ;have:=h.one off _ hv;simp[V.one,oJ] at this
def Yn{cs:aj}{vs:dy}(h:bz g cs vs){c o:Nat}(hc:∀j v,vs[j]?=some v->w.cell? ⟨c,o+j,none⟩=some v){t:ai}{off:Nat}{v:V}(hv:jZ P t cs off=some v) :
  ∃cv,(loadVar t ⟨c,o+off,none⟩).run P w=.ok cv w/\aL g v cv/\v.top<=aA cs:=by
 simp only[jZ,Option.bind_eq_bind,fy] at hv;obtain⟨b,hb,hv⟩:=hv;unfold loadVar;simp only[Sem.run_bind,Vf hb,Result.andThen_ok];cases b with
 | true =>
  simp only[aT,fy] at hv;obtain⟨n,hn,hv⟩:=hv;split at hv<;>simp only[aO,reduceCtorEq] at hv;rename_i hle;subst hv;have hr:=(h.drop off).take n;have hl:((vs.drop off).take n).length=n:=by simp;have:=h.len;omega
  have cj:=run_loadCells_list (P:=P) (w:=w) ⟨c,o+off,none⟩ ((vs.drop off).take n) (λj v hj=>by
   rw[Bk] at hj;split at hj
   ·rw[Addr.add_lit];rw[HN] at hj;rw[HP];exact hc _ _ hj
   ·cases hj)
  rw[hl] at cj;simp only[aT,Sem.run_bind,jq hn,Result.andThen_ok,cj,Sem.run_pure];refine⟨_,rfl,bz.agg (by simpa using hr),?_⟩
  simp only[V.top];exact qU λx hx=>zk (FR (EZ hx))
 | false =>
  simp only[bH,aZ,zf] at hv;obtain⟨cv,nJ,hr⟩:=h.get hv;refine⟨cv,?_,hr,zk (zy hv)⟩;simp[hc off cv nJ]
end
section
variable{P:aD}{g:Gh}{w:aB}
def zml{op:BinOp}{k:IntKind}{x y:Int}{v:V}(t:ai)(h:v6 op k x y=some v)(w:aB) :
  ∃cv,(binOp op t (.int k x) (.int k y)).run P w=.ok cv w/\aL g v cv/\v.top=0/\∀m l,cq g m w l v cv:=by
 cases op<;>simp only[v6,aO,reduceCtorEq] at h
 case quo =>
  split at h<;>simp only[aO,reduceCtorEq] at h;rename_i hy;subst h;refine⟨.int _ _,?_,.int _ _,rfl,λ_ _=>trivial⟩;simp[binOp,Op.intDiv,hy]
 case rem =>
  split at h<;>simp only[aO,reduceCtorEq] at h;rename_i hy;subst h;refine⟨.int _ _,?_,.int _ _,rfl,λ_ _=>trivial⟩;simp[binOp,Op.intDiv,hy]
 all_goals subst h
 all_goals first
  | (refine⟨.int _ _,?_,.int _ _,rfl,λ_ _=>trivial⟩;simp[binOp,Op.intArith,Op.intBits];done)
  | (refine⟨.bool _,?_,.bool _,rfl,λ_ _=>trivial⟩;simp[binOp,Op.intCmp];done)
def zht{op:BinOp}{k k':IntKind}{x y:Int}{v:V}(h:Vb op k x y=some v)(w:aB) :
  ∃cv,(Op.shift op k x k' y).run P w=.ok cv w/\aL g v cv/\v.top=0/\∀m l,cq g m w l v cv:=by
 simp only[Vb] at h;split at h
 ·cases h
 ·rename_i hy;cases op<;>simp only[aO,reduceCtorEq] at h
  all_goals
   subst h;refine⟨.int _ _,?_,.int _ _,rfl,λ_ _=>trivial⟩;simp[Op.shift,hy]
def pS:∀(x y:aR),(∀b:Nat,b∈x->b<256)->(∀b:Nat,b∈y->b<256)->(x.map UInt8.ofNat == y.map UInt8.ofNat)=sU x y
 | [],[],_,_=>rfl
 | [],_::_,_,_=>rfl
 | _::_,[],_,_=>rfl
 | a::x,b::y,hx,hy=>by
  have ih:=pS x y (λc hc=>hx c (cZ _ hc)) (λc hc=>hy c (cZ _ hc));have ha:=hx a (ew ..);have hb:=hy b (ew ..);have e:(UInt8.ofNat a == UInt8.ofNat b)=Nat.beq a b:=by
   rw[FY,beq_iff_eq,G5];constructor
   ·intro h;have:=congrArg UInt8.toNat h;simpa[UInt8.toNat_ofNat',FV ha,FV hb] using this
   ·rintro rfl;rfl
  simp only[iC,sU];rw[<- ih,<- e];rfl
def E4:∀(x y:aR),(∀b:Nat,b∈x->b<256)->(∀b:Nat,b∈y->b<256)->Op.bytesLess (x.map UInt8.ofNat) (y.map UInt8.ofNat)=HQ x y
 | [],[],_,_=>rfl
 | [],_::_,_,_=>rfl
 | _::_,[],_,_=>rfl
 | a::x,b::y,hx,hy=>by
  have ih:=E4 x y (λc hc=>hx c (cZ _ hc)) (λc hc=>hy c (cZ _ hc));have ha:=hx a (ew ..);have hb:=hy b (ew ..);have e:(UInt8.ofNat a == UInt8.ofNat b)=Nat.beq a b:=by
   rw[FY,beq_iff_eq,G5];constructor
   ·intro h;have:=congrArg UInt8.toNat h;simpa[UInt8.toNat_ofNat',FV ha,FV hb] using this
   ·rintro rfl;rfl
  have e2:decide (UInt8.ofNat a<UInt8.ofNat b)=Nat.blt a b:=by
   rw[FY,decide_eq_true_iff,UInt8.lt_iff_toNat_lt,UInt8.toNat_ofNat',UInt8.toNat_ofNat',FV ha,FV hb];simp only[Nat.blt,Nat.ble_eq];exact Nat.lt_iff_add_one_le
  simp only[iC,Op.bytesLess,HQ,ih,e,e2]
def wO(x:aR):(bytes x).toList=x.map UInt8.ofNat:=by
 rw[ByteArray.toList_eq];simp[bytes]
def jR(x:aR):(bytes x).size=x.length:=by simp[bytes,ByteArray.size]
def zge(x y:aR):bytes x++bytes y=bytes (x++y):=by
 apply ByteArray.ext;simp[bytes,ByteArray.data_append]
def zmm{op:BinOp}{x y:aR}{v:V}(t:ai)(hx:∀b:Nat,b∈x->b<256)(hy:∀b:Nat,b∈y->b<256)(h:Rz op x y=some v)(w:aB) :
  ∃cv,(binOp op t (.string (bytes x)) (.string (bytes y))).run P w=.ok cv w/\aL g v cv/\v.top=0/\∀m l,cq g m w l v cv:=by
 have e1:=pS x y hx hy;have e2:=E4 x y hx hy;have e0:(binOp op t (.string (bytes x)) (.string (bytes y)))=Op.stringOp op (bytes x) (bytes y):=by
  cases op<;>rfl
 rw[e0];cases op<;>simp only[Rz,aO,reduceCtorEq] at h
 case add =>
  split at h<;>simp only[aO,reduceCtorEq] at h;rename_i hl;subst h;have hm:IntKind.i64.max=9223372036854775807:=by decide
  refine⟨.string (bytes (x++y)),?_,.str λb hb=>?_,rfl,λ_ _=>trivial⟩
  ·have:¬(((bytes x).size+(bytes y).size:Nat):Int) > IntKind.i64.max:=by rw[hm,jR,jR];omega
   simp only[Op.stringOp,if_neg this,zge];rfl
  ·rcases rO.1 hb with hb|hb
   ·exact hx b hb
   ·exact hy b hb
 all_goals
  subst h;refine⟨.bool _,?_,.bool _,rfl,λ_ _=>trivial⟩;simp only[Op.stringOp,wO,e1,e2,Sem.run_pure]
def P5(P:aD)(d:Nat)(e:ai)(n:Nat)(xs ys:cO):aR->Sem Bool
 | []=>pure true
 | i::is=>do
  let a <- part e xs (i * n)
  let b <- part e ys (i * n)
  let r <- Op.equalIn d e a b
  if (!r)=true then pure false else P5 P d e n xs ys is
def zb2(d:Nat)(t e:ai)(len n:Nat)(xs ys:cO)(ht:P.underlying t=some (.array len e))(hn:z9 P e=some n)(w:aB) :
  (Op.equalIn (d+1) t (.agg xs) (.agg ys)).run P w=(P5 P d e n xs ys (List.range' 0 len)).run P w:=by
 simp only[Op.equalIn,Sem.run_bind,run_underlying ht,jq hn,Result.andThen_ok];rw[Std.Legacy.Range.forIn_eq_forIn_range'];simp only[Std.Legacy.Range.size,Nat.sub_zero,Nat.add_sub_cancel,Nat.div_one];generalize List.range' 0 len=is
 induction is generalizing w with
 | nil=>simp[P5]
 | cons f fs ih =>
  simp only[List.forIn_cons,P5,Sem.run_bind,Sem.run_ite];generalize (part e xs (f * n)).run P w=r1;cases r1 with
  | ok a w1 =>
   simp only[Result.andThen_ok];generalize (part e ys (f * n)).run P w1=r2;cases r2 with
   | ok b w2 =>
    simp only[Result.andThen_ok];generalize (Op.equalIn d e a b).run P w2=r3;cases r3 with
    | ok r w3 =>
     cases r
     ·simp only[Result.andThen_ok,Dr,aT,Sem.run_pure]
     ·simp only[Result.andThen_ok,pI,bH,aZ,Sem.run_pure];exact ih w3
    | halt x w3=>simp[Result.andThen]
   | halt x w2=>simp[Result.andThen]
  | halt x w1=>simp[Result.andThen]
def zjV{eq:ai->V->V->Option Bool}{d:Nat}(heq:∀t x y b cx cy,eq t x y=some b->aL g x cx->aL g y cy->(Op.equalIn d t cx cy).run P w=.ok b w){xs ys:aj}{ax ay:cO}
  (hx:bz g xs ax.toList) (hy:bz g ys ay.toList):∀(fs:List Field)(b:Bool),NF P eq fs xs ys=some b->(Op.eqFields d ax ay fs).run P w=.ok b w
 | [],b,h=>by simp only[NF,aO] at h;subst h;rfl
 | f::fs,b,h=>by
  simp only[NF] at h;split at h
  ·cases h
  ·rename_i hf;simp only[Option.bind_eq_bind,fy] at h;obtain⟨u,hu,v,hv,r,hr,h⟩:=h;obtain⟨cu,KP,Ka,_⟩:=P4 hx hu w;obtain⟨cv,CE,Ci,_⟩:=P4 hy hv w;simp only[Op.eqFields,ne_eq,hf,not_false_eq_true,aT,Sem.run_bind,KP,CE,heq _ _ _ _ _ _ hr Ka Ci,Result.andThen_ok];cases r with
   | true=>simp only[aT] at h;simpa using zjV heq hx hy fs b h
   | false=>simp only[bH,aZ,aO] at h;subst h;simp
def zjW{eq:ai->V->V->Option Bool}{d:Nat}(heq:∀t x y b cx cy,eq t x y=some b->aL g x cx->aL g y cy->(Op.equalIn d t cx cy).run P w=.ok b w){xs ys:aj}{ax ay:cO}
  (hx:bz g xs ax.toList) (hy:bz g ys ay.toList) (e n:Nat):∀(k i:Nat)(b:Bool),J_ P eq e n xs ys i k=some b->(P5 P d e n ax ay (List.range' i k)).run P w=.ok b w
 | 0,i,b,h=>by simp only[J_,aO] at h;subst h;rfl
 | k+1,i,b,h=>by
  simp only[J_,Option.bind_eq_bind,fy] at h;obtain⟨u,hu,v,hv,r,hr,h⟩:=h;obtain⟨cu,KP,Ka,_⟩:=P4 hx hu w;obtain⟨cv,CE,Ci,_⟩:=P4 hy hv w;simp only[List.range'_succ,P5,Sem.run_bind,KP,CE,heq _ _ _ _ _ _ hr Ka Ci,Result.andThen_ok];cases r with
  | true=>simp only[aT] at h;simpa using zjW heq hx hy e n k (i+1) b h
  | false=>simp only[bH,aZ,aO] at h;subst h;simp
def zqz{D:Nat}{t:ai}{ds:TypeDesc}(hd:P.underlying t=some ds){x y:V}{b:Bool}{cx cy:aP}(h:Ch ds x y=some b)(hx:aL g x cx)(hy:aL g y cy):(Op.equalIn (D+1) t cx cy).run P w=.ok b w:=by
 have hu:=run_underlying hd w;unfold Ch at h;split at h
 ·split at h<;>simp only[aO,reduceCtorEq] at h;subst h;cases hx;cases hy;exact run_equalIn_bool' w D t _ _ hd
 ·split at h<;>try (simp only[reduceCtorEq] at h;done)
  split at h<;>simp only[aO,reduceCtorEq] at h;rename_i e;subst h;subst e;cases hx;cases hy;exact run_equalIn_int w D t _ _ _ _ hd
 ·split at h<;>simp only[aO,reduceCtorEq] at h;subst h;cases hx with
  | str h1=>cases hy with
   | str h2 =>
    rw[run_equalIn_string w D t _ _ hd,wO,wO,pS _ _ h1 h2]
 ·split at h<;>simp only[aO,reduceCtorEq] at h
  all_goals (subst h;cases hx;cases hy;simp[Op.equalIn,hu];done)
 ·split at h<;>try (simp only[reduceCtorEq] at h;done)
  ·simp only[aO] at h;subst h;cases hx;cases hy;simp[Op.equalIn,hu]
  ·simp only[aO] at h;subst h;cases hx;cases hy;simp[Op.equalIn,hu]
  ·simp only[aO] at h;subst h;cases hx;cases hy;simp[Op.equalIn,hu]
  ·split at h<;>simp only[aO,reduceCtorEq] at h;rename_i e;subst h;cases hx;cases hy;simp[Op.equalIn,hu,e]
 ·split at h<;>simp only[aO,reduceCtorEq] at h
  ·subst h;cases hx;cases hy;simp[Op.equalIn,hu]
  ·subst h;cases hx;cases hy with
   | sl f h1 h2 h3=>rw[h3 (by simp)];simp[Op.equalIn,hu]
  ·subst h;cases hy;cases hx with
   | sl f h1 h2 h3=>rw[h3 (by simp)];simp[Op.equalIn,hu]
  ·subst h;cases hx;cases hy;simp[Op.equalIn,hu]
  ·subst h;cases hx;cases hy;simp[Op.equalIn,hu]
 ·split at h<;>simp only[aO,reduceCtorEq] at h
  all_goals (subst h;cases hx;cases hy;simp[Op.equalIn,hu];done)
 ·split at h<;>simp only[aO,reduceCtorEq] at h
  all_goals (subst h;cases hx;cases hy;simp[Op.equalIn,hu];done)
 ·cases h
def DP:∀(d D:Nat)(t:ai)(x y:V)(b:Bool)(cx cy:aP),d<=D->ov P d t x y=some b->aL g x cx->aL g y cy->(Op.equalIn D t cx cy).run P w=.ok b w
 | 0,D,t,x,y,b,cx,cy,_,h,_,_=>by simp[ov] at h
 | d+1,0,t,x,y,b,cx,cy,hD,h,_,_=>by omega
 | d+1,D+1,t,x,y,b,cx,cy,hD,h,hx,hy=>by
  have ih:=λt x y b cx cy=>DP d D t x y b cx cy (by omega)
  simp only[ov] at h;split at h
  ·cases h
  ·rename_i ds hd;split at h
   ·obtain⟨ax,rfl,h1⟩:=wN hx;obtain⟨ay,rfl,h2⟩:=wN hy;split at h
    ·rename_i fs;split at h
     ·cases h
     ·rename_i hp;have hf:P.fieldsOf t=fs:=by simp[Program.fieldsOf,hd]
      rw[run_equalIn_struct w D t ax ay (by rw[hf];exact hd) (by simpa using hp),hf]
      exact zjV ih h1 h2 _ _ h
    ·split at h
     next n hn=>rw[zb2 D t _ _ n ax ay hd hn];exact zjW ih h1 h2 _ _ _ _ _ h
     ·cases h
    ·cases h
   ·exact zqz hd h hx hy
def iF{op:BinOp}{t:ai}{x y:V}{cx cy:aP}{ox oy:aH}(hg:jK P op t ox oy x y=true)(hx:aL g x cx)(hy:aL g y cy)(w:aB):(eqGuard op t ox oy cx cy).run P w=.ok () w:=by
 have key:(op=.eql\/op=.neq)->(eqGuard op t ox oy cx cy).run P w=.ok () w:=by
  intro ho;have P6:kF P t ox oy x y=true:=by rcases ho with rfl|rfl<;>exact hg
  by_cases ha:∃xs ys,cx=.agg xs/\cy=.agg ys
  ·obtain⟨xs,ys,rfl,rfl⟩:=ha;refine run_eqGuard_agg w op t ox oy xs ys ?_;cases hx<;>cases hy<;>first|(simp[kF] at P6;done)|(simpa[kF] using P6)
  ·by_cases hn:cx=.nilIface/\cy=.nilIface
   ·obtain⟨rfl,rfl⟩:=hn;have hc:isConst ox=true\/isConst oy=true:=by
     cases hx<;>cases hy<;>first|(simp[kF] at P6;done)|(simpa[kF] using P6)
    rcases ho with rfl|rfl<;>rcases hc with hc|hc<;>(cases ox<;>cases oy<;>simp[isConst] at hc<;>simp[eqGuard])
   ·rcases ho with rfl|rfl
    all_goals
     cases cx<;>cases cy<;>first
      |rfl
      |exact absurd ⟨rfl,rfl⟩ hn
      |exact absurd ⟨_,_,rfl,rfl⟩ ha
 cases op<;>first
  |exact key (.inl rfl)
  |exact key (.inr rfl)
  |simp[eqGuard]
def zjX{d:Nat}{t:ai}{k:IntKind}{n:Int}{y:V}{b:Bool}(h:ov P d t (.int k n) y=some b):∃k' m,y=.int k' m:=by
 cases d with
 | zero=>simp[ov] at h
 | succ d =>
  simp only[ov] at h;split at h
  ·cases h
  next ds _=>cases ds<;>cases y<;>simp[Ch] at h;exact⟨_,_,rfl⟩
def zjY{d:Nat}{t:ai}{s:aR}{y:V}{b:Bool}(h:ov P d t (.str s) y=some b):∃s',y=.str s':=by
 cases d with
 | zero=>simp[ov] at h
 | succ d =>
  simp only[ov] at h;split at h
  ·cases h
  next ds _=>cases ds<;>cases y<;>simp[Ch] at h;exact⟨_,rfl⟩
def zhu{d:Nat}{t:ai}{y:V}{b:Bool}(h:ov P d t .mC y=some b):False:=by
 cases d with
 | zero=>simp[ov] at h
 | succ d =>
  simp only[ov] at h;split at h
  ·cases h
  next ds _=>cases ds<;>simp[Ch] at h
def zoB{op:BinOp}{t:ai}{x y:V}{v:V}{cx cy:aP}(h:vn P op t x y=some v)(hx:aL g x cx)(hy:aL g y cy)(w:aB) :
  ∃cv,(binOp op t cx cy).run P w=.ok cv w/\aL g v cv/\v.top=0/\∀m l,cq g m w l v cv:=by
 unfold vn at h;split at h
 next k1 a1 k2 b1=>cases hx;cases hy;exact zht (k':=k2) h w
 next k1 a1 k2 b1=>cases hx;cases hy;exact zht (k':=k2) h w
 ·split at h
  next e=>subst e;cases hx;cases hy;exact zml t h w
  ·cases h
 ·cases hx with
  | str h1=>cases hy with
   | str h2=>exact zmm t h1 h2 h w
 ·rename_i n1 n2;simp only[nq] at h;obtain⟨b,hb,rfl⟩:=h;have e:binOp .eql t cx cy=(do pure (.bool (<- Op.equal t cx cy))):=by
   cases hx<;>first
    |rfl
    |(obtain⟨k',m,rfl⟩:=zjX hb;exact absurd rfl (n1 _ _ _ _ rfl))
    |(obtain⟨s',rfl⟩:=zjY hb;exact absurd rfl (n2 _ _ rfl))
    |exact(zhu hb).elim
  rw[e];refine⟨.bool b,?_,.bool b,rfl,λ_ _=>trivial⟩;simp only[Sem.run_bind,Op.equal,DP 100 Op.maxDepth t _ _ b cx cy (by decide) hb hx hy,Result.andThen_ok,Sem.run_pure]
 ·rename_i n1 n2;simp only[nq] at h;obtain⟨b,hb,rfl⟩:=h;have e:binOp .neq t cx cy=(do pure (.bool (!(<- Op.equal t cx cy)))):=by
   cases hx<;>first
    |rfl
    |(obtain⟨k',m,rfl⟩:=zjX hb;exact absurd rfl (n1 _ _ _ _ rfl))
    |(obtain⟨s',rfl⟩:=zjY hb;exact absurd rfl (n2 _ _ rfl))
    |exact(zhu hb).elim
  rw[e];refine⟨.bool (!b),?_,.bool _,rfl,λ_ _=>trivial⟩;simp only[Sem.run_bind,Op.equal,DP 100 Op.maxDepth t _ _ b cx cy (by decide) hb hx hy,Result.andThen_ok,Sem.run_pure]
 ·cases h
end
section
variable{P:aD}{B:dK}{g:Gh}{s:St}{a:Act}{w:aB}
def P7(P:aD)(g:Gh)(n:Nat)(w:aB)(m:Sem aP)(v:V):Prop:=∃cv,m.run P w=.ok cv w/\aL g v cv/\v.top<=n/\∀k l,cq g k w l v cv
def zjZ{n:Nat}{l:Loc}{v:V}{cv:aP}(h:∀sz xs e,v≠.sl sz xs (.yes e)):cq g n w l v cv:=by
 cases v with
 | sl sz xs o=>cases o with
  | yes e=>exact absurd rfl (h sz xs e)
  | _=>trivial
 | _=>trivial
def NM(g:Gh):bS->Option aP->Prop
 | none,none=>True
 | some x,some v=>aL g x v
 | _,_=>False
def Yo{isSlice:Bool}{len cap:Nat}{lo hi:bS}{Bq HV:Option aP}{l h:Nat}(tI:NM g lo Bq)(r9:NM g hi HV)(h1:jL hi len=some h)(h2:jL lo 0=some l)
  (hl:l<=h) (hh:h<=cap) (w:aB):(Instr.sliceBounds isSlice len cap Bq HV none).run P w=.ok (l,h,cap) w:=by
 have e1:∀code,(match HV with|some v=>Instr.sliceBound v cap code|none=>pure len:Sem Nat).run P w=.ok h w:=by
  intro code;cases HV with
  | none=>cases hi with
   | none=>simp only[jL,aO] at h1;simp[h1]
   | some _=>exact r9.elim
  | some cv=>cases hi with
   | none=>exact r9.elim
   | some x =>
    simp only[jL] at h1;split at h1<;>first|(rename_i e;simp at e;done)|skip
    ·rename_i k m e;simp only[aO] at e;subst e;split at h1<;>simp only[aO,reduceCtorEq] at h1;rename_i hm;have hr:aL g (.int k m) cv:=r9;cases hr;have:0<=m/\m<=(cap:Int):=⟨hm,by omega⟩
     simp[Instr.sliceBound,asIntOf,this,h1]
    ·cases h1
 have e2:∀code,(match Bq with|some v=>Instr.sliceBound v h code|none=>pure 0:Sem Nat).run P w=.ok l w:=by
  intro code;cases Bq with
  | none=>cases lo with
   | none=>simp only[jL,aO] at h2;simp[h2]
   | some _=>exact tI.elim
  | some cv=>cases lo with
   | none=>exact tI.elim
   | some x =>
    simp only[jL] at h2;split at h2<;>first|(rename_i e;simp at e;done)|skip
    ·rename_i k m e;simp only[aO] at e;subst e;split at h2<;>simp only[aO,reduceCtorEq] at h2;rename_i hm;have hr:aL g (.int k m) cv:=tI;cases hr;have:0<=m/\m<=(h:Int):=⟨hm,by omega⟩
     simp[Instr.sliceBound,asIntOf,this,h2]
    ·cases h2
 unfold Instr.sliceBounds;cases HV with
 | none =>
  have KQ:=e1 .sliceAcap;simp only[Sem.run_pure,Result.ok.injEq,r8] at KQ;cases Bq with
  | none=>have HW:=e2 .sliceB;simp only[Sem.run_pure,Result.ok.injEq,r8] at HW;simp[KQ,HW]
  | some cv=>have HW:=e2 .sliceB;simp only at HW;simp[KQ,HW]
 | some cu =>
  have KQ:=e1 (if isSlice then .sliceAcap else .sliceAlen)
  simp only at KQ;cases Bq with
  | none=>have HW:=e2 .sliceB;simp only[Sem.run_pure,Result.ok.injEq,r8] at HW;simp[KQ,HW]
  | some cv=>have HW:=e2 .sliceB;simp only at HW;simp[KQ,HW]
def Vg{isSlice:Bool}{len cap:Nat}{lo hi:bS}{Bq HV:Option aP}{l h:Nat}(tI:NM g lo Bq)(r9:NM g hi HV)(h1:jL hi len=some h)(h2:jL lo 0=some l)
  (hl:l<=h) (hh:h<=len) (hc:len<=cap) (w:aB):(Instr.sliceBounds isSlice len cap Bq HV none).run P w=.ok (l,h,cap) w:=Yo tI r9 h1 h2 hl (cR hh hc) w
def zff(x:aR)(l h:Nat):(bytes x).extract l h=bytes ((x.take h).drop l):=by
 apply ByteArray.ext;simp[bytes,ByteArray.data_extract,List.extract,<- List.map_take,<- List.map_drop,List.drop_take]
def zqA{op:UnOp}{x v:V}{cx:aP}(h:NG op x=some v)(hx:aL g x cx)(n:Nat)(w:aB):P7 P g n w (Op.unary op cx) v:=by
 unfold NG at h;split at h
 ·simp only[aO] at h;subst h;cases hx;exact⟨.int _ _,by simp[Op.unary,Op.intArith],.int _ _,dJ _,λ_ _=>trivial⟩
 ·simp only[v6,aO] at h;subst h;cases hx;exact⟨.int _ _,by simp[Op.unary,Op.intBits],.int _ _,dJ _,λ_ _=>trivial⟩
 ·simp only[aO] at h;subst h;cases hx;exact⟨.bool _,by simp[Op.unary],.bool _,dJ _,λ_ _=>trivial⟩
 ·cases h
def vC{t:ai}{f:Nat}{fs:Array Field}{fd:Field}{sz:Nat}(ht:P.underlying t=some (.struct fs))(hf:fs[f]?=some fd)(hs:z9 P fd.type=some sz)(h0:Nat.beq sz 0=false)(c o:Nat)(w:aB) :
  (Instr.fieldAt t (.pointer (some ⟨c,o,none⟩)) f).run P w=.ok (.pointer (some ⟨c,o+fd.offset,none⟩)) w:=by
 have:sz≠0:=by intro e;subst e;simp at h0
 unfold Instr.fieldAt;simp[run_underlying ht,hf,Instr.sureAddr,fieldPlace,jq hs,this,Addr.add_lit]
def aL.E5{cs:aj}{c o:Nat}(h:aL g (.vp cs) (.pointer (some ⟨c,o,none⟩)))(k:Nat):aL g (.vp (cs.drop k)) (.pointer (some ⟨c,o+k,none⟩)):=by
 cases h with
 | vp f h1 h2 h3 =>
  refine .vp (λj=>f (k+j)) (λj x hx=>h1 (k+j) x (by simpa using hx)) (λj x hx=>?_) (λj x hx=>h3 (k+j) x (by simpa using hx))
  rw[HP];exact h2 (k+j) x (by simpa using hx)
def mF(cs:aj)(k:Nat):aA (cs.drop k)<=aA cs:=qU λ_ hx=>zk (FR hx)
def RF{sz:Nat}:∀{xs:aj}{i:Nat}{x:V},(∀y:V,y∈xs->y.cells.length=sz)->xs[i]?=some x->∀j y,x.cells[j]?=some y->(zL xs)[i * sz+j]?=some y
 | [],i,x,_,h,_,_,_=>by simp at h
 | z::xs,0,x,hs,h,j,y,hy=>by
  simp at h;subst h;simp only[zL,FU,Nat.zero_mul,eM];rw[nH (dW.1 hy).1];exact hy
 | z::xs,i+1,x,hs,h,j,y,hy=>by
  have hz:=hs z (ew ..);simp only[zL,FU];rw[nN (by rw[hz,CA];omega),hz]
  have:=RF (xs:=xs) (i:=i) (λy hy=>hs y (cZ _ hy)) (by simpa using h) j y hy
  have e:(i+1) * sz+j - sz=i * sz+j:=by rw[CA];omega
  rw[e];exact this
def aL.elem{sz:Nat}{xs:aj}{ow:Own}{c o len cap:Nat}(h:aL g (.sl sz xs ow) (.slice (some ⟨c,o,none⟩) len cap)){i:Nat}{x:V}(hx:xs[i]?=some x) :
  aL g (.vp x.cells) (.pointer (some ⟨c,o+i * sz,none⟩)):=by
 cases h with
 | sl f h1 h2 h3 h4 h5 h6 =>
  have cg:xs≠[]:=by rintro rfl;simp at hx
  have he:=h3 cg;cases he;refine .vp (λj=>f (i * sz+j)) (λj y hy=>h4 _ _ (RF h1 hx j y hy)) (λj y hy=>?_) (λj y hy=>h6 _ _ (RF h1 hx j y hy));rw[HP];exact h5 _ _ (RF h1 hx j y hy)
def aL.E6{sz:Nat}{xs:aj}{ow:Own}{cv:aP}(h:aL g (.sl sz xs ow) cv):∃ad cap,cv=.slice ad xs.length cap/\xs.length<=cap/\(xs≠[]->∃c o,ad=some ⟨c,o,none⟩):=by
 cases h with
 | sl f h1 h2 h3=>exact⟨_,_,rfl,h2,λcg=>⟨_,_,h3 cg⟩⟩
def xf{t e:ai}{c o len cap sz:Nat}{k:IntKind}{i:Int}(ht:P.underlying t=some (.slice e))(hs:z9 P e=some sz)(h0:0<=i)(hi:i<len)(w:aB) :
  (Instr.indexAt t (.slice (some ⟨c,o,none⟩) len cap) (.int k i)).run P w=.ok (.pointer (some ⟨c,o+i.toNat * sz,none⟩)) w:=by
 unfold Instr.indexAt;simp[asIntOf,run_underlying ht,h0,hi,jq hs,Addr.add_lit]
def yi{t e:ai}{c o n sz:Nat}{k:IntKind}{i:Int}(ht:P.underlying t=some (.array n e))(hs:z9 P e=some sz)(h0:0<=i)(hi:i<n)(w:aB) :
  (Instr.indexAt t (.pointer (some ⟨c,o,none⟩)) (.int k i)).run P w=.ok (.pointer (some ⟨c,o+i.toNat * sz,none⟩)) w:=by
 unfold Instr.indexAt;simp[asIntOf,run_underlying ht,h0,hi,jq hs,Addr.add_lit,Instr.sureAddr]
def qd{sz:Nat}:∀{xs:aj},(∀y:V,y∈xs->y.cells.length=sz)->(zL xs).length=xs.length * sz
 | [],_=>by simp[zL]
 | z::xs,hs=>by
  have:=qd (xs:=xs) λy hy=>hs y (cZ _ hy);simp only[zL,FU,oI,fY,hs z (ew ..)] at *;rw[this,CA];omega
def Yp(xs ys:aj):zL (xs++ys)=zL xs++zL ys:=by simp[zL]
def Yq{sz:Nat}{xs:aj}(hs:∀y:V,y∈xs->y.cells.length=sz){b c j:Nat}{y:V}(h:(zL ((xs.take b).drop c))[j]?=some y):(zL xs)[c * sz+j]?=some y:=by
 have h1:(zL (xs.take b))[c * sz+j]?=some y:=by
  have hc:c<=(xs.take b).length:=by
   rcases iT (xs.take b).length c with bu|tH
   ·rw[List.drop_eq_nil_of_le (by omega)] at h;simp[zL] at h
   ·exact tH
  have e:zL (xs.take b)=zL ((xs.take b).take c)++zL ((xs.take b).drop c):=by rw[<- Yp,Cy]
  have hl:(zL ((xs.take b).take c)).length=c * sz:=by
   rw[qd λy hy=>hs y (EZ (EZ hy)),tR,NC hc]
  rw[e,nN (by omega),hl,Nat.add_sub_cancel_left]
  exact h
 have e:zL xs=zL (xs.take b)++zL (xs.drop b):=by rw[<- Yp,Cy]
 rw[e,nH (dW.1 h1).1];exact h1
def zft{t:ai}{x v:V}{lo hi:bS}{cx:aP}{Bq HV:Option aP}{n:Nat}(h:yp P t x lo hi=some v)(hx:aL g x cx)(tI:NM g lo Bq)(r9:NM g hi HV)(ht:x.top<=n)(w:aB) :
  P7 P g n w (Instr.sliceAt t cx Bq HV none) v:=by
 simp only[yp,Option.bind_eq_bind,fy] at h;obtain⟨ds,hd,h⟩:=h;have hu:=run_underlying hd w;split at h
 ·rename_i l;simp only[fy] at h;obtain⟨b,hb,c,hc,h⟩:=h;split at h<;>simp only[aO,reduceCtorEq] at h;rename_i hle;subst h;cases hx with
  | str h1 =>
   refine⟨.string (bytes ((l.take b).drop c)),?_,.str λy hy=>h1 y (EZ (FR hy)),dJ _,λ_ _=>trivial⟩;have bY:=Vg (P:=P) (isSlice:=false) tI r9 hb hc hle.1 hle.2 (bV _) w;rw[<- jR l] at bY;simp[Instr.sliceAt,hu,Instr.slice,bY,zff]
 ·rename_i e sz xs ow;simp only[fy] at h;obtain⟨b,hb,c,hc,m,hm,h⟩:=h;split at h<;>simp only[aO,reduceCtorEq] at h;rename_i hle;obtain⟨DQ,RG,rfl⟩:=hle;subst h;cases hx with
  | sl f h1 h2 h3 h4 h5 h6 =>
   rename_i ad cap cb o;have bY:=Vg (P:=P) (isSlice:=true) tI r9 hb hc DQ RG h2 w;have hlen:((xs.take b).drop c).length=b - c:=by simp;omega
   have cg:(xs.take b).drop c≠[]->xs≠[]:=by rintro h rfl;simp at h
   refine⟨.slice (if cap=c then ad else ad.map (·.add (c * m))) (b - c) (cap - c),?_,?_,?_,λ_ _=>trivial⟩
   ·simp[Instr.sliceAt,hu,Instr.slice,bY,jq hm]
   ·rw[<- hlen];refine .sl (c:=cb) (o:=o+c * m) (λj=>f (c * m+j)) (λy hy=>h1 y (EZ (FR hy))) (by rw[hlen];omega) (λhn=>?_) (λj x hx=>h4 _ x (Yq h1 hx)) (λj x hx=>?_) (λj x hx=>h6 _ x (Yq h1 hx))
    ·have:0<b - c:=by rw[<- hlen];exact NA.2 hn
     rw[if_neg (by omega),h3 (cg hn)]
     simp[Addr.add_lit]
    ·rw[HP];exact h5 _ x (Yq h1 hx)
   ·exact cR (qU λy hy=>zk (EZ (FR hy))) ht
 next e=>simp only[fy] at h;obtain⟨b,hb,c,hc,m,hm,h⟩:=h;split at h<;>simp only[aO,reduceCtorEq] at h;rename_i hle;obtain⟨rfl,rfl⟩:=hle;subst h;cases hx;have bY:=Vg (P:=P) (isSlice:=true) tI r9 hb hc (bV _) (bV _) (bV _) w;exact⟨.slice none 0 0,by simp[Instr.sliceAt,hu,Instr.slice,bY,jq hm],.aU,dJ _,λ_ _=>trivial⟩
 ·rename_i e bb off len cap;simp only[fy] at h;obtain⟨b,hb,c,hc,m,hm,h⟩:=h;cases hx with
  | sr tJ =>
   split at h
   ·rename_i hle;simp only[aO] at h;subst h;have bY:=Yo (P:=P) (isSlice:=true) tI r9 hb hc hle.1 hle.2.1 w;refine⟨.slice (some ⟨g.br bb,off+c * m,none⟩) (b - c) (cap - c),?_,.sr (by omega),ht,λ_ _=>trivial⟩
    have:¬cap=c:=by omega
    simp[Instr.sliceAt,hu,Instr.slice,bY,jq hm,this,Addr.add_lit]
   ·split at h<;>simp only[aO,reduceCtorEq] at h;rename_i hle;obtain⟨rfl,hle⟩:=hle;subst h;have bY:=Yo (P:=P) (isSlice:=true) tI r9 hb hc (bV _) hle w;refine⟨_,by simp only[Instr.sliceAt,hu,Instr.slice,bY,jq hm,Sem.run_bind,Result.andThen_ok,Sem.run_pure];rfl,?_,dJ _,λ_ _=>trivial⟩
    rw[G4];exact .sl (c:=0) (o:=0) (λ_=>.nilFunc) (λy hy=>by simp at hy) (dJ _) (λhn=>absurd rfl hn) (λj x hx=>by simp[zL] at hx) (λj x hx=>by simp[zL] at hx) (λj x hx=>by simp[zL] at hx)
 ·cases h
end
section
variable{P:aD}{B:dK}{g:Gh}{s:St}{a:Act}{w:aB}
def gv(_P:aD)(gl:Nat->Nat->bS)(g:Gh):Prop:=(∀k off v,gl k off=some v->∃cv,g.M k off=some cv/\aL g v cv/\v.top=0) /\
 ∀k U j,gl k 0=some (.bf U (.obj j))->g.obj.lo (g.obj j).block/\∀k' U' j',gl k' 0=some (.bf U' (.obj j'))->g.obj j=g.obj j'->j=j'
def gv.le{gl:Nat->Nat->bS}{n:Nat}{g g':Gh}(hg:Gh.Le n g g')(h:gv P gl g):gv P gl g':=by
 refine⟨λk off v hv=>?_,λk U j hv=>?_⟩
 ·obtain⟨cv,h1,h2,h3⟩:=h.1 k off v hv;exact⟨cv,hg.M _ _ _ h1,h2.le hg (by omega),h3⟩
 ·rw[hg.obj];exact h.2 k U j hv
def vP(v:V):∀sz xs e,aX v≠.sl sz xs (.yes e):=by
 intro sz xs e;cases v<;>simp[aX]
def xr(h:Rel B g s a w){b:Nat}{cs:aj}{t:ai}(hb:s.H.get b=some (.cells cs t)) :
  ∃arr,w.heap[g.br b]?=some (.cells arr t (0,0))/\bz g cs arr.toList/\aA cs<=s.H.af.length/\(∀(j:Nat)(x:V)(v:aP),cs[j]?=some x->arr[j]?=some v->cq g s.H.af.length w (.cell b j) x v/\NJ g b j x v):=by
 simp only[Hp.get,zf] at hb;obtain⟨arr,h1,h2,h3⟩:=h.bW.ok b _ hb;have ht:=h.bW.aA b _ hb;refine⟨arr,h1,⟨by simpa using h2,λj x hx=>?_,λj x v hx hv=>(h3 j x v hx (by simpa using hv)).2.1⟩,ht,λj x v hx hv=>(h3 j x v hx hv).2.2⟩
 have hj:j<arr.size:=by rw[<- h2];exact(dW.1 hx).1
 exact(h3 j x arr[j] hx (HI hj)).1
def zmn{w:aB}{e:ai}{sz c len cap:Nat}{vs:dy}(h:w.ownsRow 0 e sz (.slice (some ⟨c,0,none⟩) len cap) len vs){j:Nat}{v:aP}(hj:vs[j]?=some v):w.cell? ⟨c,j,none⟩=some v:=by
 obtain⟨_,h|⟨c',o5,cur,hv,_,hb,_,_,_,hx⟩⟩:=h
 ·cases h.1
 ·cases hv;refine(cell_of_row w c j cur e (0,0) hb).trans ?_;rw[<- hx,Bk] at hj;split at hj
  ·simpa using hj
  ·cases hj
def Vh(h:Rel B g s a w){b bZ sz:Nat}{cs:aj}{e:ai}(hb:s.H.get b=some (.ul bZ sz cs e)) :
  ∃c len cap vs,KK g s.H.af.length w b bZ sz cs e c len cap vs/\bz g cs vs/\aA cs<=s.H.af.length:=by
 simp only[Hp.get,zf] at hb;obtain⟨c,len,cap,vs,hu⟩:=h.bW.ok b _ hb;have ht:=h.bW.aA b _ hb;refine⟨c,len,cap,vs,hu,⟨hu.len,λj x hx=>?_,λj x v hx hv=>(hu.cells j x v hx hv).2⟩,ht⟩;have hj:j<vs.length:=by rw[<- hu.len];exact(dW.1 hx).1
 exact(hu.cells j x vs[j] hx (lB hj)).1
def zhv(h:Rel B g s a w){gl:Nat->Nat->bS}(cU:gv P gl g){t:ai}{p v:V}{cp:aP}(hp:aL g p cp)(G_:p.top<=s.H.af.length)(hv:zA P s.H gl t p=some v) :
  ∃cv,(Instr.loadAt t cp).run P w=.ok cv w/\aL g v cv/\v.top<=s.H.af.length:=by
 simp only[zA] at hv;split at hv
 ·rename_i b off;simp only[Option.bind_eq_bind,fy] at hv;obtain⟨x,hx,hv⟩:=hv;split at hv<;>try (cases hv;done)
  rename_i cs ty;obtain⟨arr,h1,h2,h3,_⟩:=xr h hx;cases hp;obtain⟨cv,c1,c2,c3⟩:=Yn (P:=P) (w:=w) h2 (c:=g.br b) (o:=0) (λj v hj=>by rw[eM,cell_of_row w _ j arr ty (0,0) h1];simpa using hj) hv
  rw[eM] at c1;exact⟨cv,by simpa[Instr.loadAt,Instr.sureAddr] using c1,c2,cR c3 h3⟩
 ·rename_i cs;cases hp with
  | vp f h1 h2 h3 =>
   rename_i c o
   have dA:bz g cs ((List.range cs.length).map f):=⟨by simp,h1,λj x v hx hv=>by
    have hj:=(dW.1 hx).1;simp[hj] at hv;subst hv
    exact h3 j x hx⟩
   obtain⟨cv,c1,c2,c3⟩:=Yn (P:=P) (w:=w) dA (c:=c) (o:=o) (λj v hj=>by
    have Ml:j<cs.length:=by have:=(dW.1 hj).1;simpa using this
    have hx:cs[j]?=some cs[j]:=lB Ml;have e:f j=v:=by simpa[Ml] using hj
    rw[<- e]
    exact h.bW.mem _ _ _ (h2 j _ hx)) hv
   rw[rP] at c1;exact⟨cv,by simpa[Instr.loadAt,Instr.sureAddr] using c1,c2,cR c3 (by simpa[V.top] using G_)⟩
 ·rename_i b u k;simp only[Option.bind_eq_bind,fy] at hv;obtain⟨x,hx,hv⟩:=hv;split at hv<;>try (cases hv;done)
  rename_i bZ sz cs e;split at hv
  ·rename_i Yr;have:=eT Yr;subst this;obtain⟨c,len,cap,vs,hu,h2,h3⟩:=Vh h hx;cases hp with
   | ny k hh =>
    rw[hu.fD] at hh;cases hh;obtain⟨cv,c1,c2,c3⟩:=Yn (P:=P) (w:=w) h2 (c:=c) (o:=0) (λj v hj=>by rw[eM];exact zmn hu.row hj) hv
    exact⟨cv,by simpa[Instr.loadAt,Instr.sureAddr] using c1,c2,cR c3 h3⟩
  ·cases hv
 ·rename_i k off;simp only[Option.bind_eq_bind,fy] at hv;obtain⟨b,hb,hv⟩:=hv;split at hv
  ·cases hv
  ·rename_i bY;obtain⟨cv,c1,c2,c3⟩:=cU.1 k off v hv;cases hp;refine⟨cv,?_,c2,by omega⟩
   have hbf:b=false:=by simpa using bY
   subst hbf;simp[Instr.loadAt,Instr.sureAddr,loadVar,Vf hb,h.bW.mem _ _ _ c1]
 ·cases hv
def zlf(l:aR)(i:Nat):(bytes l)[i]?=(l[i]?).map UInt8.ofNat:=by
 by_cases hi:i<l.length
 ·have h1:i<(bytes l).size:=by rw[jR];exact hi
  rw[getElem?_pos (bytes l) i h1,lB hi];simp only[cA,aO];show(bytes l).data[i]=_;simp[bytes]
 ·rw[getElem?_neg (bytes l) i (by rw[jR];exact hi),tE (by omega)]
  rfl
def zgf{t:ai}{l:aR}{k:IntKind}{i:Int}{b:Nat}(ht:P.underlying t=some .string)(hl:∀c:Nat,c∈l->c<256)(h0:¬i<0)(hb:l[i.toNat]?=some b)(w:aB) :
  (Instr.index t (.string (bytes l)) (.int k i)).run P w=.ok (.int .u8 b) w:=by
 have bY:b<256:=hl b (zy hb);have hi:0<=i:=by omega
 unfold Instr.index;simp[asIntOf,run_underlying ht,hi,zlf,hb,UInt8.toNat_ofNat',FV bY]
def zfg{t e:ai}{cs:aj}{arr:cO}{len n:Nat}{k:IntKind}{i:Int}{v:V}(ht:P.underlying t=some (.array len e))(hn:z9 P e=some n)(hr:bz g cs arr.toList)(h0:0<=i)(hi:i<len)
  (hv:jZ P e cs (i.toNat * n)=some v) (w:aB):∃cv,(Instr.index t (.agg arr) (.int k i)).run P w=.ok cv w/\aL g v cv/\v.top<=aA cs:=by
 obtain⟨cv,c1,c2,c3,_⟩:=P4 (P:=P) hr hv w;refine⟨cv,?_,c2,c3⟩;unfold Instr.index;simp[asIntOf,run_underlying ht,h0,hi,jq hn,c1]
def sX:∀{xs:aj}{l:aR},mc xs=some l->∃ns:List Int,xs=ns.map (V.int .u8)/\l=ns.map λn=>n.toNat % 256
 | [],l,h=>by simp only[mc,aO] at h;subst h;exact⟨[],rfl,rfl⟩
 | x::xs,l,h=>by
  unfold mc at h;split at h
  next e=>cases e
  next n r e=>cases e;simp only[nq] at h;obtain⟨l',hl,rfl⟩:=h;obtain⟨ns,rfl,rfl⟩:=sX hl;exact⟨n::ns,rfl,rfl⟩
  ·cases h
def sY:∀(ns:List Int)(l:aR),ns.foldl (λr n=>r.push (UInt8.ofNat n.toNat)) (bytes l)=bytes (l++ns.map λn=>n.toNat % 256)
 | [],l=>by simp
 | n::ns,l=>by
  have e:(bytes l).push (UInt8.ofNat n.toNat)=bytes (l++[n.toNat % 256]):=by
   apply ByteArray.ext;have:UInt8.ofNat (n.toNat % 256)=UInt8.ofNat n.toNat:=by
    apply UInt8.toNat_inj.1;simp[UInt8.toNat_ofNat']
   simp[bytes,ByteArray.push,this]
  simp only[List.foldl_cons,e,sY ns,iC,nI,List.singleton_append]
def zi4{xs:aj}{ow:Own}{cx:aP}{l:aR}(h:mc xs=some l)(hx:aL g (.sl 1 xs ow) cx)(fE:∀c o u,g.M c o=some u->w.cell? ⟨c,o,none⟩=some u) :
  (Conv.bytesToString cx).run P w=.ok (.string (bytes l)) w/\∀b:Nat,b∈l->b<256:=by
 obtain⟨ns,rfl,rfl⟩:=sX h;refine⟨?_,λb hb=>?_⟩
 ·cases hx with
  | sl f h1 h2 h3 h4 h5 h6 =>
   rename_i ad cap c o;cases ad with
   | none =>
    have:ns=[]:=by
     cases ns with
     | nil=>rfl
     | cons n ns=>have:=h3 (by simp);cases this
    subst this;rfl
   | some ad =>
    have nT:zL (ns.map (V.int .u8))=ns.map (V.int .u8):=by
     clear h h1 h2 h3 h4 h5 h6
     induction ns with
     | nil=>rfl
     | cons n ns ih=>simp only[zL,iC,FU,V.cells] at *;rw[ih];rfl
    have hl:(loadCells ad (ns.map (V.int .u8)).length).run P w=.ok (ns.map (Value.int .u8)).toArray w:=by
     have:=run_loadCells_list (P:=P) w ad (ns.map (Value.int .u8)) (λj v hj=>by
      simp only[pH,nq] at hj;obtain⟨n,hn,rfl⟩:=hj;have m_:(zL (ns.map (V.int .u8)))[j]?=some (.int .u8 n):=by rw[nT];simp[hn]
      have cg:ns.map (V.int .u8)≠[]:=by rintro e;simp at e;subst e;simp at hn
      have e:=h3 cg;cases e;rw[Addr.add_lit];have h7:=h6 j _ m_;have h8:=fE _ _ _ (h5 j _ m_);generalize f j=u at h7 h8;cases h7
      exact h8)
     simpa using this
    rw[run_bytesToString w ad _ cap ns hl];have:=sY ns [];have e0:bytes []=ByteArray.empty:=rfl;rw[e0] at this;rw[this];rfl
 ·obtain⟨n,_,rfl⟩:=r7.1 hb;omega
def zmo{src dst:ai}{x v:V}{cx:aP}{n:Nat}(h:vM P src dst x=some v)(hx:aL g x cx)(RH:∀s,x≠.str s\/P.underlying dst=some .string)(fE:∀c o u,g.M c o=some u->w.cell? ⟨c,o,none⟩=some u):P7 P g n w (convert src dst cx) v:=by
 simp only[vM,Option.bind_eq_bind,fy] at h;obtain⟨ds,hs,dd,hd,h⟩:=h;have DS:=run_underlying hs w;have Ys:=run_underlying hd w;split at h
 ·simp only[aO] at h;subst h;cases hx;exact⟨.int _ _,by simp[convert,DS,Ys,Conv.intToInt],.int _ _,dJ _,λ_ _=>trivial⟩
 ·rename_i k m;simp only[aO] at h;subst h;cases hx;have e:Utf8.encode m=bytes ((Utf8.encode m).data.toList.map UInt8.toNat):=by
   apply ByteArray.ext;simp[bytes,Function.comp_def]
  refine⟨.string (bytes ((Utf8.encode m).data.toList.map UInt8.toNat)),by rw[<- e];simp[convert,DS,Ys,Conv.intToString],.str λb hb=>?_,dJ _,λ_ _=>trivial⟩
  obtain⟨c,_,rfl⟩:=r7.1 hb;exact c.toNat_lt
 ·simp only[aO] at h;subst h;cases hx with
  | str h1=>exact⟨_,by simp[convert,DS,Ys],.str h1,dJ _,λ_ _=>trivial⟩
 ·rename_i e;simp only[fy] at h;obtain⟨d8,h8,h⟩:=h;split at h<;>simp only[aO,reduceCtorEq] at h;subst h;cases hx;refine⟨.string (bytes []),?_,.str (by simp),dJ _,λ_ _=>trivial⟩
  rw[run_convert_bytes_string w src dst e _ _ _ hs h8 hd];rfl
 ·rename_i e xs ow;simp only[fy] at h;obtain⟨d8,h8,h⟩:=h;split at h<;>try (cases h;done)
  simp only[nq] at h;obtain⟨l,hl,rfl⟩:=h;obtain⟨ad,cap,rfl,_,_⟩:=hx.E6;obtain⟨c1,c2⟩:=zi4 (P:=P) hl hx fE;refine⟨.string (bytes l),?_,.str c2,dJ _,λ_ _=>trivial⟩;rw[run_convert_bytes_string w src dst e _ _ _ hs h8 hd];exact c1
 ·rename_i l _ _;rcases RH _ with hn|hn
  ·exact absurd rfl hn
  ·rw[hd] at hn;cases hn
 ·cases h
def xu{t:ai}{v:V}(h:qO P t=some v)(w:aB):∃cv,(zeroValue t).run P w=.ok cv w/\aL g v cv/\v.top=0/\(∀k l,cq g k w l v cv)/\(P.info? t).bind (·.zero)=some cv:=by
 simp only[qO,fy] at h;obtain⟨i,hi,z,hz,hv⟩:=h;obtain⟨h1,h2⟩:=Ym g z v hv;refine⟨z,?_,h1,h2,λk l=>zfr hv,by simp[hi,hz]⟩
 simp[zeroValue,typeInfo,hi,hz]
end
section
variable{P:aD}{B:dK}{g:Gh}{s:St}{a:Act}{w:aB}
def P8(P:aD)(B:dK)(s:St)(a:Act)(w:aB)(_g:Gh)(o:Oper)(v:V):Prop :=
 ∃g' cv w',(execOp a.eval o).run P w=.ok (.value cv) w'/\F2 B g' s a w' o.dst v cv
def yy(h:Rel B g s a w){o:Oper}{m:Sem aP}{v:V}(hm:P7 P g s.H.af.length w m v)(he:execOp a.eval o=(do pure (.value (<- m)))):P8 P B s a w g o v:=by
 obtain⟨cv,h1,h2,h3,h4⟩:=hm;exact⟨g,cv,w,by rw[he];simp[h1],⟨h,h2,λ_ _=>h4 _ _,h3⟩⟩
def Vi(h:Rel B g s a w):∀{xs:List aH}{vs:aj},bt s.env xs=some vs ->
  vs.length=xs.length/\(∀(j:Nat)(x:V)(v:aP),vs[j]?=some x->(xs.map a.eval)[j]?=some v->aL g x v)/\aA vs<=s.H.af.length/\∀x∈vs,∀sz ys e,x≠.sl sz ys (.yes e)
 | [],vs,hp=>by simp only[bt,aO] at hp;subst hp;exact⟨rfl,λj x v hx=>by simp at hx,dJ _,λx hx=>by simp at hx⟩
 | x::xs,vs,hp=>by
  simp only[bt,zQ] at hp;split at hp
  ·cases hp
  ·rename_i v hv;split at hp<;>simp only[aO,reduceCtorEq] at hp;rename_i ys AQ;subst hp;obtain⟨h1,h2,h3⟩:=zD h hv;obtain⟨i1,i2,i3,i4⟩:=Vi h AQ;refine⟨by simp[i1],λj y u hy hu=>?_,by simp only[aA];exact Ar.2 ⟨h2,i3⟩,λy hy=>?_⟩
   ·cases j with
    | zero=>simp at hy hu;subst hy;subst hu;exact h1
    | succ j=>simp at hy;exact i2 j y u hy (by simpa using hu)
   ·rcases cS.1 hy with rfl|hy
    ·intro sz ys e he;subst he;cases x with
     | tmp t =>
      simp only[aq] at hv;split at hv<;>simp only[aO,reduceCtorEq] at hv;exact vP _ _ _ _ hv
     | const c =>
      simp only[aq] at hv;unfold aF at hv;split at hv<;>try (simp at hv;done)
      all_goals (simp only[fy] at hv;obtain⟨l,_,hv⟩:=hv;split at hv<;>simp at hv)
     | global k=>simp[aq] at hv
     | func f=>simp[aq] at hv
    ·exact i4 y hy
structure nU(g:Gh)(es:List (V×V))(en:List MapEntry):Prop where
 len:es.length=en.length
 rel:∀(j:Nat)(x:V×V)(e:MapEntry),es[j]?=some x->en[j]?=some e->aL g x.1 e.key/\aL g x.2 e.val
def nU.tail{x:V×V}{es:List (V×V)}{e:MapEntry}{en:List MapEntry}(h:nU g (x::es) (e::en)):nU g es en/\aL g x.1 e.key/\aL g x.2 e.val :=
 ⟨⟨by have:=h.len;simpa using this,λj y f hy hf=>h.rel (j+1) y f (by simpa using hy) (by simpa using hf)⟩,h.rel 0 x e (by simp) (by simp)⟩
def yz{kd:TypeDesc}{k x:V}{ck cx:aP}{b:Bool}(hk:G7 kd k=true)(h:PX k x=some b)(h1:aL g k ck)(h2:aL g x cx):Instr.sameNow kd ck cx=some b:=by
 unfold PX at h;split at h
 ·split at h<;>simp only[aO,reduceCtorEq] at h;rename_i e;subst h;subst e;cases h1;cases h2;cases kd<;>simp[G7] at hk;simp[Instr.sameNow]
 ·simp only[aO] at h;subst h;cases h1 with
  | str b1=>cases h2 with
   | str b2 =>
    cases kd<;>simp[G7] at hk;simp only[Instr.sameNow,beq_toListBytes,wO,pS _ _ b1 b2]
 ·simp only[aO] at h;subst h;cases h1;cases h2;cases kd<;>simp[G7] at hk;simp[Instr.sameNow]
 ·cases h
def zhw{kd:TypeDesc}{k:V}{ck:aP}(hk:G7 kd k=true)(h1:aL g k ck):∀{es:List (V×V)}{en:List MapEntry}(i:Nat){r:bS},nU g es en->PY k es=some r ->
  ∃r',Instr.findNow kd ck en i=some r'/\match r,r' with
   | none,none=>True
   | some v,some (_,cv)=>aL g v cv/\∃x∈es,x.2=v
   | _,_=>False
 | [],[],i,r,_,h=>by simp only[PY,aO] at h;subst h;exact⟨none,rfl,trivial⟩
 | [],_::_,i,r,hr,h=>by have:=hr.len;simp at this
 | _::_,[],i,r,hr,h=>by have:=hr.len;simp at this
 | (x,v)::es,e::en,i,r,hr,h=>by
  obtain⟨ht,hx,hv⟩:=hr.tail;simp only[PY] at h;split at h
  next Ds=>simp only[aO] at h;subst h;refine⟨some (i,e.val),?_,hv,_,ew ..,rfl⟩;simp[Instr.findNow,yz hk Ds h1 hx]
  ·rename_i Ds;obtain⟨r',h3,h4⟩:=zhw hk h1 (i+1) ht h;refine⟨r',by simp[Instr.findNow,yz hk Ds h1 hx,h3],?_⟩
   cases r<;>cases r'
   ·trivial
   ·exact h4
   ·exact h4
   ·obtain⟨h5,y,hy,P9⟩:=h4;exact⟨h5,y,cZ _ hy,P9⟩
  ·cases h
def zgg(n:Nat){kt:ai}{kd:TypeDesc}(Br:P.underlying kt=some kd){k:V}{ck:aP}(hk:G7 kd k=true)(h1:aL g k ck)(e:Bool)(w:aB):(Instr.checkKey e (n+1) kt ck).run P w=.ok () w:=by
 have hu:=run_underlying Br w;cases kd<;>cases k<;>simp[G7] at hk
 all_goals (cases h1;simp[Instr.checkKey,hu])
def zdm{kt:ai}{kd:TypeDesc}(Br:P.underlying kt=some kd){k:V}{ck:aP}(hk:G7 kd k=true)(h1:aL g k ck)(e:Bool)(w:aB):(Instr.checkKey e 10000 kt ck).run P w=.ok () w :=
 zgg 9999 Br hk h1 e w
def Yt(h:Rel B g s a w){b:Nat}{es:List (V×V)}(hb:s.H.get b=some (.map es)) :
  ∃en ck,w.heap[g.br b]?=some (.map en ck)/\nU g es en.toList/\aA (es.map (·.1))<=s.H.af.length/\aA (es.map (·.2))<=s.H.af.length:=by
 simp only[Hp.get,zf] at hb;obtain⟨en,ck,h1,h2,h3⟩:=h.bW.ok b _ hb;have ht:=Ar.1 (show max (aA (es.map (·.1))) (aA (es.map (·.2)))<=_ from h.bW.aA b _ hb);exact⟨en,ck,h1,⟨by simpa using h2,λj x e hx he=>h3 j x e hx (by simpa using he)⟩,ht.1,ht.2⟩
def zlg(h:Rel B g s a w){t kt e:ai}{kd:TypeDesc}{m k v:V}{cm ck:aP}{es:List (V×V)}{b ok:Bool}(ht:P.underlying t=some (.map kt e))(Br:P.underlying kt=some kd)(hk:G7 kd k=true)
  (hm:aL g m cm) (hkr:aL g k ck) (Bt:Yg s.H m=some es) (hf:Yh P e k es=some (v,b)) :
  P7 P g s.H.af.length w (Instr.lookup t cm ck ok) (if ok then .bx [aX v,.bool b] else aX v):=by
 have main:∃en:List MapEntry,nU g es en/\aA (es.map (·.2))<=s.H.af.length/\∀(K:Array MapEntry->Sem aP),(do
   let es <- match cm with
    | .map none=>pure #[]
    | .map (some r)=>do
     let .map es _ <- getObj r|stuck "Lookup: map expected"
     pure es
    | _=>stuck "Lookup: map expected"
   K es:Sem aP).run P w=(K en.toArray).run P w:=by
  unfold Yg at Bt;split at Bt
  ·simp only[aO] at Bt;subst Bt;cases hm;exact⟨[],⟨rfl,λj x e hx=>by simp at hx⟩,dJ _,λK=>by simp⟩
  next bb=>split at Bt<;>simp only[aO,reduceCtorEq] at Bt;rename_i fJ hb;subst Bt;cases hm;obtain⟨en,clock,h1,h2,_,h3⟩:=Yt h hb;exact⟨en.toList,h2,h3,λK=>by simp[getObj,Sem.run,h1]⟩
  ·cases Bt
 obtain⟨en,Yu,pT,cj⟩:=main
 have Mm:∃cv,∀(K:aP×Bool->Sem aP),(do
   Instr.checkKey en.toArray.isEmpty 10000 kt ck
   let x <- match <- Instr.findKey kt ck en.toArray.toList with
    | some (_,v)=>pure (v,true)
    | none=>pure (<- zeroValue e,false)
   K x:Sem aP).run P w=(K (cv,b)).run P w/\aL g v cv/\v.top<=s.H.af.length:=by
  unfold Yh at hf;cases Mn:PY k es with
  | none=>rw[Mn] at hf;cases hf
  | some r =>
   obtain⟨r',h1,h2⟩:=zhw hk hkr 0 Yu Mn;have hk1:=λb=>zdm (P:=P) Br hk hkr b w;cases r with
   | some v' =>
    rw[Mn] at hf;simp only[aO,bP] at hf;obtain⟨rfl,rfl⟩:=hf;cases r' with
    | none=>exact h2.elim
    | some ic =>
     obtain⟨i,cv⟩:=ic;obtain⟨h3,y,hy,P9⟩:=h2;refine⟨cv,λK=>⟨?_,h3,?_⟩⟩
     ·simp[hk1,Instr.findKey,run_underlying Br,h1]
     ·rw[<- P9];exact cR (zk (G0 (f:=(·.2)) hy)) pT
   | none =>
    rw[Mn] at hf;simp only[nq,bP] at hf;obtain⟨z,hz,rfl,rfl⟩:=hf;cases r' with
    | some ic=>obtain⟨i,cv⟩:=ic;exact h2.elim
    | none =>
     obtain⟨cz,z1,z2,z3,_⟩:=xu (g:=g) hz w;refine⟨cz,λK=>⟨?_,z2,by omega⟩⟩
     simp[hk1,Instr.findKey,run_underlying Br,h1,z1]
 obtain⟨cv,Mm⟩:=Mm;have fF:=(Mm (λ_=>pure .nilFunc)).2;refine⟨if ok then .tuple #[cv,.bool b] else cv,?_,?_,?_,λk l=>zjZ ?_⟩
 ·unfold Instr.lookup;simp only[Sem.run_bind,run_underlying ht,Result.andThen_ok]
  have e1:=cj (λes=>do
   Instr.checkKey es.isEmpty 10000 kt ck
   let (v,ok') <- match <- Instr.findKey kt ck es.toList with
    | some (_,v)=>pure (v,true)
    | none=>pure (<- zeroValue e,false)
   pure (if ok then .tuple #[v,.bool ok'] else v))
  have e2:=(Mm (λx=>pure (if ok then .tuple #[x.1,.bool x.2] else x.1))).1
  simp only[Sem.run_bind] at e1;refine Eq.trans e1 ?_;refine Eq.trans ?_ e2;simp only[Sem.run_bind]
 ·cases ok with
  | true =>
   refine .bx rfl λj x u hx hu=>?_;rcases j with _|_|j
   ·simp at hx hu;subst hx;subst hu;exact fF.1.aX
   ·simp at hx hu;subst hx;subst hu;exact .bool b
   ·simp at hx
  | false=>exact fF.1.aX
 ·cases ok with
  | true=>simp only[aT,V.top,aA,dw];have:=fF.2;omega
  | false=>simp only[bH,aZ,dw];exact fF.2
 ·cases ok with
  | true=>intro sz xs e he;simp at he
  | false=>intro sz xs e he;exact vP v sz xs e (by simpa using he)
end
section
variable{P:aD}{B:dK}{g:Gh}{s:St}{a:Act}{w:aB}
def xw{w w':aB}{c:Nat}(hh:w'.heap[c]?=w.heap[c]?)(o:Nat):w'.cell? ⟨c,o,none⟩=w.cell? ⟨c,o,none⟩:=by
 simp[World.cell?,hh]
def wP{c o:Nat}{v:aP}(h:w.cell? ⟨c,o,none⟩=some v):c<w.heap.size:=by
 rcases iT c w.heap.size with h1|h1
 ·exact h1
 ·simp[World.cell?,Array.getElem?_eq_none h1] at h
def Gh.row(g:Gh)(N:Nat)(vs:dy)(l:Option Loc):Gh :=
 {g with M:=λc o=>if c=N then vs[o]? else g.M c o,own:=λc=>if c=N then l else g.own c }
def Rel.settle(h:Rel B g s a w)(vs:dy)(l:Option Loc){w':aB}(fR:w.heap.size<w'.heap.size)(hold:∀c,c<w.heap.size->w'.heap[c]?=w.heap[c]?)
  (eS:∀o v,vs[o]?=some v->w'.cell? ⟨w.heap.size,o,none⟩=some v) (Au:w'.os=w.os) (ht:w'.tape=w.tape) (mm:w'.output=w.output) :
  Rel B (g.row w.heap.size vs l) s a w':=by
 have hM:∀c o v,g.M c o=some v->c<w.heap.size:=λc o v hv=>wP (h.bW.mem c o v hv);refine h.ij (b0:=none) (l0:=none) ?_ (bV _) (λ_ _ _=>rfl) (λb x hb hx=>?_) (λb h1 h2=>?_) (λb b' h1 h2=>?_) (λc o v hv=>?_) (λc l' hc=>?_) (λb j e=>by cases e) rfl rfl
  (λt x hx=>⟨x,hx,.inl ⟨rfl,λe=>by cases e⟩⟩) h.aS h.gm h.nB (λ_ e=>by cases e)
 ·refine⟨⟨λc o v hv=>?_,λ_ _=>rfl,rfl,λ_ _ _ _ e=>e⟩,λc hc _ _=>hold c hc,λc hc _=>?_,λc hc _ o=>?_,DK fR,λ_ _ _=>rfl,λl' lY=>(by cases lY),λb hb=>(by cases hb),λ_ _ _ _=>rfl,Au,ht,mm⟩
  ·have:=hM c o v hv;simp only[Gh.row];rw[if_neg (by omega)]
   exact hv
  ·simp only[Gh.row];rw[if_neg (by omega)]
  ·simp only[Gh.row];rw[if_neg (by omega)]
 ·rcases hb with hb|hb
  ·cases hb
  ·have:=(dW.1 hx).1;omega
 ·omega
 ·omega
 ·simp only[Gh.row] at hv;split at hv
  next e=>subst e;exact eS o v hv
  ·rw[xw (hold c (hM c o v hv))];exact h.bW.mem c o v hv
 ·simp only[Gh.row] at hc;split at hc
  next e=>omega
  ·exact Nat.lt_trans (h.bW.dF c l' hc) fR
def aL.settled{n sz cap:Nat}{xs:aj}{vs:dy}{ow:Own}{N:Nat}{l:Option Loc}(hx:∀y:V,y∈xs->y.cells.length=sz)(tJ:xs.length<=cap)(dA:bz g (zL xs) vs)(ht:aA (zL xs)<=n)
  (hle:Gh.Le n g (g.row N vs l)):aL (g.row N vs l) (.sl sz xs ow) (.slice (some ⟨N,0,none⟩) xs.length cap):=by
 refine .sl (c:=N) (o:=0) (λj=>vs.getD j .nilFunc) hx tJ (λ_=>rfl) dA.one (λj x hj=>?_) (λj x hj=>?_)
 ·obtain⟨v,hv,_⟩:=dA.get hj;simp[Gh.row,hv,List.getD]
 ·obtain⟨v,hv,hr⟩:=dA.get hj;have:=hr.le hle (cR (zk (zy hj)) ht);simpa[List.getD,hv] using this
end
section
variable{P:aD}{B:dK}{g:Gh}{s:St}{a:Act}{w:aB}
def P_(h:Rel B g s a w){x:Option aH}{v:bS}(hv:d_ s.env x=some v):NM g v (x.map a.eval):=by
 cases x with
 | none=>simp only[d_,aO] at hv;subst hv;trivial
 | some x =>
  simp only[d_] at hv;split at hv<;>simp only[aO,reduceCtorEq] at hv;rename_i u hu;subst hv;exact(zD h hu).1
def zhx(h:Rel B g s a w){x:aH}{u v:V}(hu:aq s.env x=some u)
  (hv:bp u=some v) :
  ∃cv,aL g v cv/\v.top<=s.H.af.length/\(∀m l,cq g m w l v cv)/\cv=a.eval x/\((∃p,cv=.pointer (some p))\/(∃f fa fc,cv=.func (.func f) fa fc)\/∃t u,cv=.iface t u):=by
 obtain⟨h1,h2,h3⟩:=zD h hu;generalize a.eval x=cv at h1 h3;unfold bp at hv;split at hv<;>simp only[aO,reduceCtorEq] at hv
 all_goals
  subst hv;refine⟨cv,h1,h2,h3,rfl,?_⟩;cases h1
  first
   |exact .inl ⟨_,rfl⟩
   |exact .inr (.inl ⟨_,_,_,rfl⟩)
   |exact .inr (.inr ⟨_,_,rfl⟩)
def bz.set{cs:aj}{vs:dy}(h:bz g cs vs){x:V}{v:aP}(h1:x.one=true)(hr:aL g x v)(i:Nat):bz g (cs.set i x) (vs.set i v):=by
 refine⟨by simp[h.len],λj y hy=>?_,λj y u hy hu=>?_⟩
 ·rw[AM] at hy;split at hy
  ·split at hy<;>simp only[aO,reduceCtorEq] at hy;subst hy;exact h1
  ·exact h.one j y hy
 ·rw[AM] at hy hu;split at hy
  ·rename_i e;split at hy<;>simp only[aO,reduceCtorEq] at hy;rename_i hi;rw[if_pos e,if_pos (by rw[<- h.len];exact hi)] at hu
   simp only[aO] at hu;subst hy;subst hu;exact hr
  next e=>rw[if_neg e] at hu;exact h.rel j y u hy hu
def bz.tail{x:V}{xs:aj}{u:aP}{us:dy}(h:bz g (x::xs) (u::us)):x.one=true/\aL g x u/\bz g xs us :=
 ⟨h.one 0 x rfl,h.rel 0 x u rfl rfl,⟨by have:=h.len;simpa using this,λj y hy=>h.one (j+1) y (by simpa using hy),λj y v hy hv=>h.rel (j+1) y v (by simpa using hy) (by simpa using hv)⟩⟩
def bz.store:∀{xs:aj}{us:dy}{cs:aj}{vs:dy}(off:Nat),bz g cs vs->bz g xs us->bz g (storeCells cs off xs) (storeCells vs off us)
 | [],[],_,_,_,h,_=>h
 | [],_::_,_,_,_,_,hx=>by have:=hx.len;simp at this
 | _::_,[],_,_,_,_,hx=>by have:=hx.len;simp at this
 | x::xs,u::us,cs,vs,off,h,hx=>by
  obtain⟨h1,h2,h3⟩:=hx.tail;exact bz.store (off+1) (h.set h1 h2 off) h3
def vQ{v:V}{cv:aP}(hr:aL g v cv)(hc:eF v=true):bz g v.cells cv.cells.toList:=by
 by_cases ha:∃cs,v=.agg cs
 ·obtain⟨cs,rfl⟩:=ha;obtain⟨arr,rfl,h⟩:=wN hr;exact h
 ·have h1:v.one=true:=by
   cases v<;>first
    |rfl
    |(simp[eF] at hc;done)
    |exact absurd ⟨_,rfl⟩ ha
  have e1:v.cells=[v]:=by
   cases v<;>first
    |rfl
    |exact absurd ⟨_,rfl⟩ ha
  have e2:cv.cells.toList=[cv]:=by
   have:=hr.pQ h1;cases cv<;>first
    |rfl
    |(simp[Value.oneCell'] at this)
  rw[e1,e2];refine⟨rfl,λj x hx=>?_,λj x u hx hu=>?_⟩
  ·cases j with
   | zero=>simp at hx;subst hx;exact h1
   | succ j=>simp at hx
  ·cases j with
   | zero=>simp at hx hu;subst hx;subst hu;exact hr
   | succ j=>simp at hx
def Yv(off:Nat):∀(l:dy)(k:Nat)(arr:cO),((l.zipIdx k).foldl (λcs (p:aP×Nat)=>cs.setIfInBounds (off+p.2) p.1) arr).toList=storeCells arr.toList (off+k) l
 | [],_,_=>rfl
 | x::l,k,arr=>by
  simp only[List.zipIdx_cons,List.foldl_cons];rw[Yv off l (k+1) _];simp[storeCells,HP]
def jO{α:Type}:∀(vs:List α)(cs:List α)(off:Nat),(storeCells cs off vs).length=cs.length
 | [],_,_=>rfl
 | v::vs,cs,off=>by simp only[storeCells];rw[jO vs];simp
def Yw{cs:aj}{i:Nat}{x:V}{n:Nat}(h:aA cs<=n)(hx:x.top<=n):aA (cs.set i x)<=n :=
 qU λy hy=>by
  rcases List.mem_or_eq_of_mem_set hy with hy|rfl
  ·exact cR (zk hy) h
  ·exact hx
def vo{n:Nat}:∀{vs cs:aj}{off:Nat},aA cs<=n->aA vs<=n->aA (storeCells cs off vs)<=n
 | [],_,_,h,_=>h
 | v::vs,cs,off,h,hv=>by
  simp only[aA] at hv;have:=Ar.1 hv;show aA (storeCells (cs.set off v) (off+1) vs)<=n;exact vo (cs:=cs.set off v) (Yw h this.1) this.2
def yA(v:V):aA v.cells<=v.top:=qU λ_ hx=>Vc hx
def Yx(h:Rel B g s a w){pA pC:Nat->Option (Nat×Nat)}(hp:∀i x,pA i=some x->pC i=some x):∀{parts:List (Nat×aH)}{cs cs':aj}{arr:cO},bz g cs arr.toList->aA cs<=s.H.af.length ->
  vN cs pA s.env parts=some cs'->∃iG,Instr.fill pC arr (parts.map λ(i,x)=>(i,a.eval x))=some iG/\bz g cs' iG.toList/\aA cs'<=s.H.af.length
 | [],cs,cs',arr,hr,ht,hf=>by simp only[vN,aO] at hf;subst hf;exact⟨arr,rfl,hr,ht⟩
 | (i,x)::parts,cs,cs',arr,hr,ht,hf=>by
  simp only[vN,Option.bind_eq_bind,fy] at hf;obtain⟨v,hv,⟨off,n⟩,o6,hf⟩:=hf;split at hf
  ·rename_i hc;simp only[bN,G5,Nat.ble_eq] at hc;obtain⟨⟨rR,um⟩,KR⟩:=hc;obtain⟨h1,h2,h3⟩:=zD h hv;have dA:=vQ h1 rR;have fR:(a.eval x).cells.size=n:=by rw[<- um,dA.len];simp
   have oL:arr.size=cs.length:=by have:=hr.len;simp at this;exact this.symm
   have HX:((a.eval x).cells.zipIdx.foldl (λcs (p:aP×Nat)=>cs.setIfInBounds (off+p.2) p.1) arr).toList=storeCells arr.toList off (a.eval x).cells.toList:=by
    rw[<- Array.foldl_toList,Array.toList_zipIdx];have:=Yv off (a.eval x).cells.toList 0 arr;simpa using this
   have b8:=hr.store off dA;rw[<- HX] at b8;obtain⟨iG,f1,f2,f3⟩:=Yx h hp b8 (vo ht (cR (yA v) h2)) hf;refine⟨iG,?_,f2,f3⟩;simp only[iC,Instr.fill,hp i _ o6];have:¬(((a.eval x).cells.size≠n || off+(a.eval x).cells.size > arr.size)=true):=by
    rw[fR,oL];simp;exact KR
   simp only[this];exact f1
  ·cases hf
def zlh(h:Rel B g s a w){t:ai}{parts:Array (Nat×aH)}{v:V}(hb:ki P t parts s.env=some v) :
  P7 P g s.H.af.length w (Instr.build t (parts.map λ(i,x)=>(i,a.eval x))) v:=by
 unfold ki at hb;split at hb
 ·cases hb
 ·rename_i z hz;split at hb
  ·cases hb
  ·rename_i eA;obtain⟨cz,z1,z2,z3,_,Qa⟩:=xu (g:=g) hz w;have dA:=vQ z2 (by simpa using eA)
   have htz:aA z.cells<=s.H.af.length:=cR (yA z) (by omega)
   simp only[fy] at Qa;obtain⟨it,DT,hiz⟩:=Qa;have Bu:(parts.map λ(i,x)=>(i,a.eval x)).toList=parts.toList.map λ(i,x)=>(i,a.eval x):=by simp
   split at hb
   ·rename_i fs hd;split at hb
    ·rename_i ps Vj;simp only[nq] at hb;obtain⟨cs',hf,rfl⟩:=hb;obtain⟨iG,f1,f2,f3⟩:=Yx h (pC:=λi=>ps.toArray[i]?) (λi x hx=>by rw[zf] at hx;simpa using hx) dA htz hf
     refine⟨.agg iG,run_build w t _ iG ?_,f2.agg,f3,λ_ _=>trivial⟩;unfold Ye at Vj;rw[Bu];simp only[Program.built,DT,hd,hiz,Vj];exact f1
    ·cases hb
   ·rename_i n e hd;split at hb
    next ie hie=>simp only[nq] at hb;obtain⟨cs',hf,rfl⟩:=hb;obtain⟨iG,f1,f2,f3⟩:=Yx h (pC:=λi=>some (i * ie.size,ie.size)) (λi x hx=>hx) dA htz hf;refine⟨.agg iG,run_build w t _ iG ?_,f2.agg,f3,λ_ _=>trivial⟩;rw[Bu];simp only[Program.built,DT,hd,hiz,hie];exact f1
    ·cases hb
   ·cases hb
def ji{α:Type}:∀(new old pre post:List α),old.length=new.length->storeCells (pre++old++post) pre.length new=pre++new++post
 | [],old,pre,post,h=>by
  have:old=[]:=List.eq_nil_of_length_eq_zero h;subst this;rfl
 | v::new,[],pre,post,h=>by simp at h
 | v::new,x::old,pre,post,h=>by
  simp only[storeCells];have e:(pre++(x::old)++post).set pre.length v=(pre++[v])++old++post:=by
   simp[List.set_append_right]
  rw[e];have:=ji new old (pre++[v]) post (by simpa using h)
  simp only[oI,fY,List.length_nil,eM] at this;rw[this];simp
def zhy{n:Nat}{v:V}(hv:v.cells.length=n):∀{xs:aj}{i:Nat},(∀y:V,y∈xs->y.cells.length=n)->i<xs.length->zL (xs.set i v)=storeCells (zL xs) (i * n) v.cells
 | [],i,_,hi=>by simp at hi
 | x::xs,0,hs,_=>by
  have:=ji v.cells x.cells [] (zL xs) (by rw[hs x (ew ..),hv])
  simp only[gF,List.length_nil] at this;simp only[zL,cM,FU,Nat.zero_mul] at *;exact this.symm
 | x::xs,i+1,hs,hi=>by
  have ih:=zhy hv (xs:=xs) (i:=i) (λy hy=>hs y (cZ _ hy)) (by simpa using hi)
  have hx:=hs x (ew ..);simp only[zL,cN,FU] at *;rw[ih];have shift:∀(l:aj)(r:aj)(k:Nat),x.cells++storeCells l k r=storeCells (x.cells++l) (n+k) r:=by
   intro l r
   induction r generalizing l with
   | nil=>intro k;rfl
   | cons y r ihr =>
    intro k;simp only[storeCells];rw[ihr (l.set k y) (k+1)];have e:(x.cells++l).set (n+k) y=x.cells++l.set k y:=by
     rw[List.set_append_right _ _ (by omega),hx,Nat.add_sub_cancel_left]
    rw[e];rfl
  rw[shift]
  congr 1
  rw[CA];omega
def kH{z:V}{n:Nat}(hz:z.cells.length=n):∀(len j:Nat),j<len * n->(zL (List.replicate len z))[j]?=z.cells[j % n]?
 | 0,j,h=>by simp at h
 | k+1,j,h=>by
  have hn:0<n:=by
   rcases NB n with h0|h0
   ·subst h0;simp at h
   ·exact h0
  simp only[List.replicate_succ,zL,FU];rcases iT j n with h1|h1
  ·rw[nH (by omega),FV h1]
  ·rw[nN (by omega),hz]
   have:=kH hz k (j - n) (by rw[CA] at h;omega)
   simp only[zL] at this;rw[this,Nat.mod_eq_sub_mod h1]
def zj0(h:Rel B g s a w){n len:Nat}:∀{parts:List (Nat×aH)}{xs Cj:aj}{arr:cO},xs.length=len->(∀y:V,y∈xs->y.cells.length=n)->bz g (zL xs) arr.toList->aA xs<=s.H.af.length ->
  DM n len s.env xs parts=some Cj->∃iG,Instr.fill (λi=>some (i * n,n)) arr (parts.map λ(i,x)=>(i,a.eval x))=some iG/\bz g (zL Cj) iG.toList/\Cj.length=len/\(∀y:V,y∈Cj->y.cells.length=n)/\aA Cj<=s.H.af.length
 | [],xs,Cj,arr,hl,hs,hr,ht,hf=>by simp only[DM,aO] at hf;subst hf;exact⟨arr,rfl,hr,hl,hs,ht⟩
 | (i,x)::parts,xs,Cj,arr,hl,hs,hr,ht,hf=>by
  simp only[DM,Option.bind_eq_bind,fy,zQ,eV] at hf;obtain⟨v,hv,hf⟩:=hf;split at hf
  ·rename_i hc;simp only[bN,G5,G6] at hc;obtain⟨⟨rR,um⟩,KR⟩:=hc;obtain⟨h1,h2,h3⟩:=zD h hv;have dA:=vQ h1 rR;have fR:(a.eval x).cells.size=n:=by rw[<- um,dA.len];simp
   have oL:arr.size=len * n:=by
    have:=hr.len;rw[qd hs,hl] at this;simpa using this.symm
   have HX:((a.eval x).cells.zipIdx.foldl (λcs (p:aP×Nat)=>cs.setIfInBounds (i * n+p.2) p.1) arr).toList=storeCells arr.toList (i * n) (a.eval x).cells.toList:=by
    rw[<- Array.foldl_toList,Array.toList_zipIdx];have:=Yv (i * n) (a.eval x).cells.toList 0 arr;simpa using this
   have b8:=hr.store (i * n) dA;rw[<- HX,<- zhy um hs (by rw[hl];exact KR)] at b8
   obtain⟨iG,f1,f2⟩:=zj0 h (xs:=xs.set i v) (by simpa using hl) (λy hy=>by
    rcases List.mem_or_eq_of_mem_set hy with hy|rfl
    ·exact hs y hy
    ·exact um) b8 (Yw ht h2) hf
   refine⟨iG,?_,f2⟩;simp only[iC,Instr.fill];have hle:i * n+n<=len * n:=by
    have:=Nz n (Nat.succ_le_of_lt KR);rw[Nat.succ_mul] at this;exact this
   have:¬(((a.eval x).cells.size≠n || i * n+(a.eval x).cells.size > arr.size)=true):=by
    rw[fR,oL];simp;exact hle
   simp only[this];exact f1
  ·cases hf
def yl{xs:aj}:aA (zL xs)<=aA xs:=qU λ_ hx=>Yi hx
def zfh(h:Rel B g s a w){t e:ai}{len n:Nat}{parts:Array (Nat×aH)}{z:V}{xs:aj}(hd:P.underlying t=some (.slice e))(hn:z9 P e=some n)(hz:qO P e=some z)
  (hc:(Nat.beq n 0 || Nat.blt 16777216 (len * n) || !Nat.beq z.cells.length n || !eF z)=false) (hx:DM n len s.env (List.replicate len z) parts.toList=some xs) {o:Oper} (ho:o.op=.buildSlice t len parts) :
  P8 P B s a w g o (.sl n xs (.yes e)):=by
 simp only[KD,Bool.not_eq_false'] at hc;obtain⟨⟨⟨c1,c2⟩,c3⟩,c4⟩:=hc;have Kb:n≠0:=by intro e;subst e;simp at c1
 have Yy:¬len * n > 16777216:=by
  intro bu;have:Nat.blt 16777216 (len * n)=true:=by rw[G6];exact bu
  rw[this] at c2;cases c2
 have NN:z.cells.length=n:=eT c3;obtain⟨cz,z1,z2,z3,_,_⟩:=xu (g:=g) hz w;have HY:=vQ z2 c4;have HZ:cz.cells.size=n:=by rw[<- NN,HY.len];simp
 have k_:bz g (zL (List.replicate len z)) ((Array.range (len * n)).map (λj=>(cz.cells)[j % cz.cells.size]!)).toList:=by
  have nT:(zL (List.replicate len z)).length=len * n:=by rw[qd (sz:=n) λy hy=>by rw[(List.mem_replicate.1 hy).2];exact NN];simp
  refine⟨by rw[nT];simp,λj x hx=>?_,λj x v hx hv=>?_⟩
  ·have hj:j<len * n:=by rw[<- nT];exact(dW.1 hx).1
   rw[kH NN len j hj] at hx;exact HY.one _ x hx
  ·have hj:j<len * n:=by rw[<- nT];exact(dW.1 hx).1
   rw[kH NN len j hj] at hx;have hm:j % n<cz.cells.size:=by rw[HZ];exact Nat.mod_lt _ (by omega)
   simp only[Array.toList_map,Array.toList_range,pH,List.getElem?_range,hj,cA,aO,HZ] at hv;rw[getElem!_pos cz.cells (j % n) hm] at hv;refine HY.rel _ x v hx ?_;rw[Me,HI hm,hv]
 obtain⟨iG,f1,f2,f3,f4,f5⟩:=zj0 h (xs:=List.replicate len z) (len:=len) (n:=n) (by simp) (λy hy=>by rw[(List.mem_replicate.1 hy).2];exact NN) k_
  (qU λy hy=>by rw[(List.mem_replicate.1 hy).2];omega) hx
 have Bu:(parts.map λ(i,x)=>(i,a.eval x)).toList=parts.toList.map λ(i,x)=>(i,a.eval x):=by simp
 have oQ:iG.size=len * n:=by
  have:=f2.len;rw[qd f4,f3] at this;simpa using this.symm
 have cj:(Instr.buildSlice t len (parts.map λ(i,x)=>(i,a.eval x))).run P w=.ok (.slice (some ⟨w.heap.size,0,none⟩) len len) (w.alloc (.cells iG e)):=by
  unfold Instr.buildSlice;rcases NB len with h0|h0
  ·subst h0;simp only[Nat.zero_mul] at f1 oQ;have r0:Array.range 0=#[]:=rfl;have f1':Instr.fill (λi=>some (i * n,n)) #[] (parts.toList.map λ(i,x)=>(i,a.eval x))=some iG:=by simpa[r0] using f1
   simp only[Sem.run_bind,run_underlying hd,jq hn,Result.andThen_ok,Nat.zero_mul,r0,Bu];simp[f1',newRow]
   try rfl
  ·have:¬len * n=0:=by
    intro e0;rcases Nat.mul_eq_zero.1 e0 with e0|e0<;>omega
   simp[run_underlying hd,jq hn,Yy,this,z1,f1,newRow]
   try rfl
 refine⟨g.row w.heap.size iG.toList (o.dst.map (Loc.slot B.d)),.slice (some ⟨w.heap.size,0,none⟩) len len,w.alloc (.cells iG e),by simp only[execOp,ho,Sem.run_bind,cj,Result.andThen_ok,Sem.run_pure],?_⟩
 have fF:=h.settle iG.toList (o.dst.map (Loc.slot B.d)) (w':=w.alloc (.cells iG e)) (by simp) (λc hc=>heap_alloc_old w _ hc) (λo v hv=>by rw[World.cell?_alloc_new];simpa using hv) rfl rfl rfl
 have bu:∀b,b<s.H.af.length->g.br b<w.heap.size:=h.bW.lt;have hle:Gh.Le s.H.af.length g (g.row w.heap.size iG.toList (o.dst.map (Loc.slot B.d))):=by
  refine⟨λc o v hv=>?_,λ_ _=>rfl,rfl,λ_ _ _ _ e=>e⟩;have:=wP (h.bW.mem c o v hv);simp only[Gh.row];rw[if_neg (by omega)];exact hv
 refine⟨fF,?_,λt ht=>?_,f5⟩
 ·have:=aL.settled (g:=g) (ow:=.yes e) (N:=w.heap.size) (l:=o.dst.map (Loc.slot B.d)) (cap:=len) f4 (by omega) f2 (cR yl f5) hle
  rw[f3] at this;exact this
 ·refine⟨iG.toList,⟨by simp[oQ,f3],.inr ⟨w.heap.size,len,iG,by rw[f3],dJ _,heap_alloc_new w _,by omega,?_,oQ,?_⟩⟩,λc hc=>?_⟩
  ·have:len<=len * n:=Nat.le_mul_of_pos_right _ (by omega)
   simp only[maxLen];omega
  ·rw[Af (by simp[oQ,f3])]
  ·simp only[Value.ownBlock,aO] at hc;subst hc;refine⟨by simp[Gh.row,ht],λo ho=>?_,λb hb e=>?_⟩
   ·simp only[Gh.row,aT];exact tE (by simp[oQ];rw[f3] at ho;exact ho)
   ·have:=bu b hb;have e':g.br b=w.heap.size:=e;omega
def zhz(h:Rel B g s a w){src dst:ai}{l:aR}{v:V}{x:aH}{o:Oper}(hr:vM P src dst (.str l)=some v)(hx:aL g (.str l) (a.eval x))(DU:P.underlying dst≠some .string)(ho:o.op=.convert src dst x) :
  P8 P B s a w g o v:=by
 simp only[vM,Option.bind_eq_bind,fy] at hr;obtain⟨ds,hs,dd,hd,hr⟩:=hr;generalize he:a.eval x=cx at hx;cases hx with
 | str hl =>
  split at hr<;>try (cases hr;done)
  next e=>cases e
  next e=>cases e
  ·exact absurd hd DU
  next e=>cases e
  next e=>cases e
  ·rename_i e l' lY;cases lY;simp only[fy] at hr;obtain⟨d8,h8,hr⟩:=hr;split at hr<;>simp only[aO,reduceCtorEq] at hr;subst hr;have fR:(bytes l).size=l.length:=jR l;have tJ:=grownCap_ge w (bytes l).size 0 e;generalize hC:grownCap w (bytes l).size 0 e=cap at tJ;have cj:=run_bytes_of_string (P:=P) w src dst e (bytes l) hs hd h8;rw[hC] at cj
   have gU:∀(j:Nat)(b:Nat),l[j]?=some b->(bytesRow (bytes l) cap)[j]?=some (.int .u8 b):=λj b hb=>by
    have hj:=(dW.1 hb).1;have Bv:=hl b (zy hb);unfold bytesRow;rw[Array.getElem?_append_left (by simp[bytes];exact hj)]
    simp[bytes,hb,UInt8.toNat_ofNat',FV Bv]
   have nT:zL (l.map λ(b:Nat)=>V.int .u8 b)=l.map λ(b:Nat)=>V.int .u8 b:=by
    clear gU hl fR tJ hC cj he
    induction l with
    | nil=>rfl
    | cons n ns ih=>simp only[zL,iC,FU,V.cells] at *;rw[ih];rfl
   have fF:=h.settle (l.map λ(b:Nat)=>Value.int .u8 b) none (w':=w.drew.alloc (.cells (bytesRow (bytes l) cap) e ((bytesRow (bytes l) cap).size,(bytesRow (bytes l) cap).size+1)))
    (by show _<(w.heap.push _).size;simp) (λc hc=>heap_alloc_old w.drew _ hc) (λo v hv=>by
     simp only[pH,nq] at hv;obtain⟨b,hb,rfl⟩:=hv;rw[<- gU o b hb]
     exact World.cell?_alloc_mark w.drew _ _ _ o) rfl rfl rfl
   have hle:Gh.Le s.H.af.length g (g.row w.heap.size (l.map λ(b:Nat)=>Value.int .u8 b) none):=by
    refine⟨λc o v hv=>?_,λ_ _=>rfl,rfl,λ_ _ _ _ e=>e⟩;have:=wP (h.bW.mem c o v hv);simp only[Gh.row];rw[if_neg (by omega)];exact hv
   refine⟨_,_,_,by simp only[execOp,ho,he,Sem.run_bind,cj,Result.andThen_ok,Sem.run_pure];rfl,fF,?_,λ_ _=>trivial,?_⟩
   ·have:=aL.settled (g:=g) (n:=s.H.af.length) (ow:=.no) (N:=w.heap.size) (l:=none) (sz:=1) (xs:=l.map λ(b:Nat)=>V.int .u8 b) (vs:=l.map λ(b:Nat)=>Value.int .u8 b) (cap:=cap)
     (λy hy=>by obtain⟨b,_,rfl⟩:=r7.1 hy;rfl) (by simp;omega) ?_ ?_ hle
    ·rw[fR];simpa using this
    ·rw[nT];refine⟨by simp,λj x hx=>?_,λj x v hx hv=>?_⟩
     ·simp only[pH,nq] at hx;obtain⟨b,hb,rfl⟩:=hx;rfl
     ·simp only[pH,nq] at hx hv;obtain⟨b,hb,rfl⟩:=hx;obtain⟨b',bY,rfl⟩:=hv;rw[hb] at bY;cases bY;exact .int _ _
    ·rw[nT];exact qU λy hy=>by obtain⟨b,_,rfl⟩:=r7.1 hy;exact dJ _
   ·simp only[V.top];exact qU λy hy=>by obtain⟨b,_,rfl⟩:=r7.1 hy;exact dJ _
def Yz(h:Rel B g s a w){gl:Nat->Nat->bS}(cU:gv P gl g){o:Oper}{v:V}(hr:qi P gl o s.env s.H=some v):P8 P B s a w g o v:=by
 obtain⟨dst,op,type,pos,after,guard⟩:=o;cases op<;>simp only[qi,Option.bind_eq_bind,fy,reduceCtorEq] at hr
 case move x =>
  obtain⟨h1,h2,h3⟩:=zD h hr;exact⟨g,a.eval x,w,by simp[execOp],⟨h,h1,λ_ _=>h3 _ _,h2⟩⟩
 case pick c x y =>
  obtain⟨vc,hc,hr⟩:=hr;split at hr<;>try (cases hr;done)
  rename_i t;obtain⟨c1,_,_⟩:=zD h hc;generalize pK:a.eval c=cc at c1;cases c1;cases t with
  | true =>
   simp only at hr;obtain⟨h1,h2,h3⟩:=zD h hr;exact⟨g,a.eval x,w,by simp[execOp,pK,asBool],⟨h,h1,λ_ _=>h3 _ _,h2⟩⟩
  | false =>
   simp only at hr;obtain⟨h1,h2,h3⟩:=zD h hr;exact⟨g,a.eval y,w,by simp[execOp,pK,asBool],⟨h,h1,λ_ _=>h3 _ _,h2⟩⟩
 case build t parts=>exact yy h (zlh (P:=P) h hr) rfl
 case load t x =>
  obtain⟨p,hp,u,hu,hr⟩:=hr;simp only[aO] at hr;subst hr;obtain⟨h1,h2,h3⟩:=zD h hp;obtain⟨cv,c1,c2,c3⟩:=zhv h cU h1 h2 hu;exact yy h ⟨cv,c1,c2.aX,by rw[dw];exact c3,λ_ _=>ko _ _ _ _ _ _⟩ rfl
 case nilCheck x =>
  obtain⟨u,hu,hr⟩:=hr;obtain⟨cv,h1,h2,h3,h4,h5⟩:=zhx h hu hr;refine⟨g,cv,w,?_,⟨h,h1,λ_ _=>h3 _ _,h2⟩⟩;rcases h5 with⟨p,h5⟩|⟨f,fa,fc,h5⟩|⟨t,u,h5⟩
  ·simp[execOp,<- h4,h5]
  ·simp[execOp,<- h4,h5]
  ·simp[execOp,<- h4,h5]
 case binOp op t x y yt =>
  obtain⟨u,hu,v',cP,hr⟩:=hr;split at hr
  next hg=>obtain⟨u1,u2,_⟩:=zD h hu;obtain⟨v1,v2,_⟩:=zD h cP;have e1:=iF hg u1 v1 w;obtain⟨cv,c1,c2,c3,c4⟩:=zoB hr u1 v1 w;exact⟨g,cv,w,by simp[execOp,e1,c1],⟨h,c2,λ_ _=>c4 _ _,by omega⟩⟩
  ·cases hr
 case unOp op t x =>
  obtain⟨u,hu,hr⟩:=hr;exact yy h (zqA hr (zD h hu).1 _ w) rfl
 case makeInterface t x =>
  obtain⟨u,hu,hr⟩:=hr;split at hr<;>simp only[aO,reduceCtorEq] at hr;rename_i hi;subst hr;obtain⟨u1,u2,_⟩:=zD h hu;refine⟨g,.iface t (a.eval x),w,?_,⟨h,.bf u1,λ_ _=>trivial,u2⟩⟩;unfold yq at hi;cases hd:P.underlying t with
  | none=>simp[hd] at hi
  | some d =>
   rw[hd] at hi;cases d<;>first|(simp at hi;done)|simp[execOp,Instr.makeInterface,run_underlying hd]
 case convert src dst x =>
  obtain⟨u,hu,hr⟩:=hr;obtain⟨u1,u2,_⟩:=zD h hu
  by_cases RH:∀s,u≠.str s\/P.underlying dst=some .string
  ·exact yy h (zmo hr u1 RH h.bW.mem) rfl
  ·obtain⟨l,hl⟩:∃l,u=.str l:=by
    apply Classical.byContradiction;intro lC;exact RH λs=>.inl λe=>lC ⟨s,e⟩
   subst hl;have DU:P.underlying dst≠some .string:=λe=>RH λs=>.inr e;exact zhz h hr u1 DU rfl
 case makeFunc fn first cap =>
  obtain⟨as,has,cs,dA,hr⟩:=hr;simp only[aO] at hr;subst hr;obtain⟨a1,a2,a3,_⟩:=Vi h has;obtain⟨c1,c2,c3,_⟩:=Vi h dA;refine⟨g,.func fn (first.map a.eval) (cap.map a.eval),w,by simp[execOp,Instr.makeFunc],⟨h,.fn (by simpa using a1) (by simpa using c1) (λj x v hx hv=>a2 j x v hx (by simpa using hv)) (λj x v hx hv=>c2 j x v hx (by simpa using hv)),λ_ _=>trivial,?_⟩⟩
  simp only[V.top];exact Ar.2 ⟨a3,c3⟩
 case slice t x lo hi mx =>
  split at hr
  ·cases hr
  ·rename_i KS;have KU:mx=none:=by cases mx<;>simp at KS ⊢
   subst KU;simp only[fy] at hr;obtain⟨lo',tI,tF,r9,u,hu,hr⟩:=hr;obtain⟨u1,u2,_⟩:=zD h hu;exact yy h (zft hr u1 (P_ h tI) (P_ h r9) u2 w) rfl
 case fieldAddr t x f =>
  obtain⟨ds,hd,hr⟩:=hr;split at hr<;>try (cases hr;done)
  rename_i fs;simp only[fy] at hr;obtain⟨fd,hf,sz,fR,hr⟩:=hr;split at hr
  ·cases hr
  ·rename_i h0;simp only[fy] at hr;obtain⟨u,hu,hr⟩:=hr;obtain⟨u1,u2,_⟩:=zD h hu;have KV:Nat.beq sz 0=false:=by revert h0;cases Nat.beq sz 0<;>simp
   generalize he:a.eval x=cx at u1;split at hr<;>simp only[aO,reduceCtorEq] at hr
   ·subst hr;cases u1;exact⟨g,_,w,by simp only[execOp,he,Sem.run_bind,vC hd hf fR KV,Result.andThen_ok,Sem.run_pure],⟨h,.ptr _ _,λ_ _=>trivial,u2⟩⟩
   ·subst hr;cases u1;exact⟨g,_,w,by simp only[execOp,he,Sem.run_bind,vC hd hf fR KV,Result.andThen_ok,Sem.run_pure],⟨h,.gj _ _,λ_ _=>trivial,u2⟩⟩
   ·rename_i b9 u9 k9 _;subst hr;cases u1 with
    | ny _ hh =>
     have e0:=aL.ny (k9+fd.offset) hh;rw[<- HP] at e0;exact⟨g,_,w,by simp only[execOp,he,Sem.run_bind,vC hd hf fR KV,Result.andThen_ok,Sem.run_pure],⟨h,e0,λ_ _=>trivial,u2⟩⟩
   ·subst hr;obtain⟨c,o,rfl⟩:∃c o,cx=.pointer (some ⟨c,o,none⟩):=by cases u1;exact⟨_,_,rfl⟩
    exact⟨g,_,w,by simp only[execOp,he,Sem.run_bind,vC hd hf fR KV,Result.andThen_ok,Sem.run_pure],⟨h,u1.E5 _,λ_ _=>trivial,cR (mF _ _) u2⟩⟩
 case field t x f =>
  obtain⟨ds,hd,hr⟩:=hr;split at hr<;>try (cases hr;done)
  rename_i fs;simp only[fy] at hr;obtain⟨fd,hf,u,hu,hr⟩:=hr;split at hr<;>try (cases hr;done)
  rename_i cs;simp only[nq] at hr;obtain⟨v',hr,rfl⟩:=hr;obtain⟨u1,u2,_⟩:=zD h hu;obtain⟨arr,he,dA⟩:=wN u1;obtain⟨cv,c1,c2,c3,_⟩:=P4 (P:=P) dA hr w;refine yy h ⟨cv,?_,c2.aX,by rw[dw];exact cR c3 u2,λ_ _=>ko _ _ _ _ _ _⟩ rfl
  rw[he];unfold Instr.field;simp[run_underlying hd,hf,asAgg,c1]
 case indexAddr t x ix =>
  obtain⟨iv,hi,hr⟩:=hr;split at hr<;>try (cases hr;done)
  rename_i k i;simp only[fy] at hr;obtain⟨u,hu,hr⟩:=hr;obtain⟨u1,u2,_⟩:=zD h hu;have i1:=(zD h hi).1;generalize Kc:a.eval ix=ci at i1;cases i1;generalize he:a.eval x=cx at u1;unfold zO at hr;split at hr
  ·rename_i len e hd;split at hr
   ·cases hr
   ·rename_i n hn;split at hr
    ·split at hr<;>simp only[aO,reduceCtorEq] at hr;rename_i hb;subst hr;cases u1;exact⟨g,_,w,by simp only[execOp,he,Kc,Sem.run_bind,yi hd hn hb.1 hb.2,Result.andThen_ok,Sem.run_pure],⟨h,.ptr _ _,λ_ _=>trivial,u2⟩⟩
    ·split at hr<;>simp only[aO,reduceCtorEq] at hr;rename_i hb;subst hr;cases u1;exact⟨g,_,w,by simp only[execOp,he,Kc,Sem.run_bind,yi hd hn hb.1 hb.2,Result.andThen_ok,Sem.run_pure],⟨h,.gj _ _,λ_ _=>trivial,u2⟩⟩
    ·split at hr<;>simp only[aO,reduceCtorEq] at hr;rename_i hb;rename_i b9 u9 k9 _;subst hr;cases u1 with
     | ny _ hh =>
      have e0:=aL.ny (k9+i.toNat * n) hh;rw[<- HP] at e0;exact⟨g,_,w,by simp only[execOp,he,Kc,Sem.run_bind,yi hd hn hb.1 hb.2,Result.andThen_ok,Sem.run_pure],⟨h,e0,λ_ _=>trivial,u2⟩⟩
    ·split at hr<;>simp only[aO,reduceCtorEq] at hr;rename_i hb;subst hr;obtain⟨c,o,rfl⟩:∃c o,cx=.pointer (some ⟨c,o,none⟩):=by cases u1;exact⟨_,_,rfl⟩
     exact⟨g,_,w,by simp only[execOp,he,Kc,Sem.run_bind,yi hd hn hb.1 hb.2,Result.andThen_ok,Sem.run_pure],⟨h,u1.E5 _,λ_ _=>trivial,cR (mF _ _) u2⟩⟩
    ·cases hr
  ·rename_i e hd;split at hr
   ·cases hr
   ·rename_i n hn;split at hr
    ·rename_i sz xs ow _;split at hr
     ·rename_i fR;have YA:n=sz:=eT fR;subst YA;split at hr
      ·cases hr
      ·rename_i hi0;split at hr<;>simp only[aO,reduceCtorEq] at hr;rename_i y hy;rw[zf] at hy;subst hr;obtain⟨ad,cap,rfl,tJ,had⟩:=u1.E6;obtain⟨c,o,rfl⟩:=had (by rintro rfl;simp at hy)
       have bu:=(dW.1 hy).1
       exact⟨g,_,w,by simp only[execOp,he,Kc,Sem.run_bind,xf hd hn (show 0<=i by omega) (show i<(xs.length:Int) by omega),Result.andThen_ok,Sem.run_pure],
        ⟨h,u1.elem hy,λ_ _=>trivial,cR (yA y) (cR (zk (zy hy)) u2)⟩⟩
     ·cases hr
    ·split at hr<;>simp only[aO,reduceCtorEq] at hr;rename_i hb;subst hr;cases u1;exact⟨g,_,w,by simp only[execOp,he,Kc,Sem.run_bind,xf hd hn hb.1 hb.2,Result.andThen_ok,Sem.run_pure],⟨h,.ptr _ _,λ_ _=>trivial,u2⟩⟩
    ·split at hr<;>simp only[aO,reduceCtorEq] at hr;rename_i hb;subst hr;cases u1 with
     | fA hh =>
      exact⟨g,_,w,by simp only[execOp,he,Kc,Sem.run_bind,xf hd hn hb.1 hb.2,Result.andThen_ok,Sem.run_pure],⟨h,.ny _ hh,λ_ _=>trivial,u2⟩⟩
    ·cases hr
  ·cases hr
 case index t x ix =>
  obtain⟨iv,hi,hr⟩:=hr;split at hr<;>try (cases hr;done)
  rename_i k i;simp only[fy] at hr;obtain⟨u,hu,hr⟩:=hr;obtain⟨u1,u2,_⟩:=zD h hu;have i1:=(zD h hi).1;generalize Kc:a.eval ix=ci at i1;cases i1;generalize he:a.eval x=cx at u1;unfold P0 at hr;split at hr
  ·rename_i len e hd;split at hr
   ·cases hr
   ·rename_i n hn;split at hr
    ·split at hr<;>simp only[nq,reduceCtorEq] at hr;rename_i hb;obtain⟨v',hr,rfl⟩:=hr;obtain⟨arr,rfl,dA⟩:=wN u1;obtain⟨cv,c1,c2,c3⟩:=zfg (k:=k) hd hn dA hb.1 hb.2 hr w;exact⟨g,cv,w,by simp only[execOp,he,Kc,Sem.run_bind,c1,Result.andThen_ok,Sem.run_pure],⟨h,c2.aX,λ_ _=>ko _ _ _ _ _ _,by rw[dw];exact cR c3 u2⟩⟩
    ·cases hr
  ·rename_i hd;split at hr
   ·split at hr
    ·cases hr
    ·rename_i hi0;split at hr<;>simp only[aO,reduceCtorEq] at hr;rename_i b hb;rw[zf] at hb;subst hr;cases u1 with
     | str hl =>
      exact⟨g,_,w,by simp only[execOp,he,Kc,Sem.run_bind,zgf hd hl hi0 hb,Result.andThen_ok,Sem.run_pure],⟨h,.int _ _,λ_ _=>trivial,dJ _⟩⟩
   ·cases hr
  ·cases hr
 case lookup t m k ok =>
  obtain⟨ds,hd,hr⟩:=hr;split at hr<;>try (cases hr;done)
  rename_i kt e;simp only[fy] at hr;obtain⟨kd,RJ,kv,hk,hr⟩:=hr;split at hr
  ·cases hr
  next eA=>simp only[fy,aO] at hr;obtain⟨mv,hm,es,Bt,⟨v',b⟩,hf,rfl⟩:=hr;exact yy h (zlg h hd RJ (by simpa using eA) (zD h hm).1 (zD h hk).1 Bt hf) rfl
 case typeAssert x xt t ok =>
  split at hr
  ·cases hr
  ·rename_i hi;simp only[fy] at hr;obtain⟨u,hu,hr⟩:=hr;obtain⟨u1,u2,_⟩:=zD h hu;generalize he:a.eval x=cx at u1;obtain⟨d,hd,r_⟩:∃d,P.underlying t=some d/\∀ms,d≠.interface ms:=by
    unfold yq at hi;cases hd:P.underlying t with
    | none=>simp[hd] at hi
    | some d =>
     rw[hd] at hi;exact⟨d,rfl,λms e=>by subst e;simp at hi⟩
   have cj:∀cv,(Instr.typeAssert cx xt t ok).run P w=.ok cv w->aL g v cv->v.top<=s.H.af.length->(∀sz xs e,v≠.sl sz xs (.yes e))->P8 P B s a w g { dst,op:=.typeAssert x xt t ok,type,pos,after,guard } v :=
    λcv h1 h2 h3 h4=>⟨g,cv,w,by simp[execOp,he,h1],⟨h,h2,λ_ _=>zjZ h4,h3⟩⟩
   have Mo:∀z,qO P t=some z->ok=true->v=.bx [z,.bool false]->(∀cz,(zeroValue t).run P w=.ok cz w->(Instr.typeAssert cx xt t true).run P w=.ok (.tuple #[cz,.bool false]) w)->P8 P B s a w g { dst,op:=.typeAssert x xt t ok,type,pos,after,guard } v:=by
    intro z hz eA hv hrz;subst eA;subst hv;obtain⟨cz,z1,z2,z3,_⟩:=xu (g:=g) hz w;refine cj _ (hrz cz z1) (.bx rfl λj x u hx hu=>?_) (by simp only[V.top,aA];omega) (λ_ _ _ e=>by cases e)
    rcases j with _|_|j
    ·simp at hx hu;subst hx;subst hu;exact z2
    ·simp at hx hu;subst hx;subst hu;exact .bool false
    ·simp at hx
   split at hr
   ·split at hr<;>simp only[fy,aO,reduceCtorEq] at hr;rename_i eA;obtain⟨z,hz,rfl⟩:=hr;cases u1;refine Mo z hz eA rfl λcz HY=>?_;unfold Instr.typeAssert;cases d<;>first|exact absurd rfl (r_ _)|simp[run_underlying hd,HY]
   ·rename_i ut uv _;obtain⟨cu,rfl⟩:∃cu,cx=.iface ut cu:=by cases u1;exact⟨_,rfl⟩
    have u3:aL g uv cu:=by cases u1;assumption
    split at hr
    ·rename_i YB;simp only[aO] at hr;have YC:ut=t:=eT YB;subst YC;subst hr;refine cj (if ok then .tuple #[cu,.bool true] else cu) ?_ ?_ ?_ ?_
     ·unfold Instr.typeAssert;cases d<;>first|exact absurd rfl (r_ _)|(simp[run_underlying hd])
     ·cases ok with
      | true =>
       refine .bx rfl λj x u hx hu=>?_;rcases j with _|_|j
       ·simp at hx hu;subst hx;subst hu;exact u3.aX
       ·simp at hx hu;subst hx;subst hu;exact .bool true
       ·simp at hx
      | false=>exact u3.aX
     ·have u2':uv.top<=s.H.af.length:=u2;cases ok with
      | true=>simp only[aT,V.top,aA,dw];omega
      | false=>simp only[bH,aZ,dw];exact u2'
     ·cases ok with
      | true=>intro sz xs e he;simp at he
      | false=>intro sz xs e he;exact vP uv sz xs e (by simpa using he)
    ·rename_i YB;split at hr<;>simp only[fy,aO,reduceCtorEq] at hr;rename_i eA;obtain⟨z,hz,rfl⟩:=hr;have cg:ut≠t:=λe=>YB (by subst e;exact pP _)
     refine Mo z hz eA rfl λcz HY=>?_;unfold Instr.typeAssert;cases d<;>first|exact absurd rfl (r_ _)|simp[run_underlying hd,cg,HY]
   ·cases hr
 case extract x i =>
  obtain⟨u,hu,hr⟩:=hr;split at hr<;>try (cases hr;done)
  rename_i vs;split at hr<;>simp only[aO,reduceCtorEq] at hr;rename_i v' cP;subst hr;rw[zf] at cP;obtain⟨u1,u2,_⟩:=zD h hu;generalize he:a.eval x=cx at u1;cases u1 with
  | bx t1 t2 =>
   rename_i arr;have bu:i<arr.size:=by rw[<- t1];exact(dW.1 cP).1
   have dO:arr[i]?=some arr[i]:=HI bu;refine⟨g,arr[i],w,by simp[execOp,he,Instr.extract,dO],⟨h,(t2 i v' _ cP dO).aX,λ_ _=>ko _ _ _ _ _ _,?_⟩⟩
   rw[dw];exact cR (zk (zy cP)) u2
 case buildSlice t len parts =>
  obtain⟨ds,hd,hr⟩:=hr;split at hr<;>try (cases hr;done)
  rename_i e;simp only[fy] at hr;obtain⟨n,hn,z,hz,hr⟩:=hr;split at hr
  ·cases hr
  next hc=>simp only[fy,aO] at hr;obtain⟨xs,hx,rfl⟩:=hr;exact zfh h hd hn hz (Bool.eq_false_iff.2 hc) hx rfl
end
section
variable{P:aD}{B:dK}{g:Gh}{s:St}{a:Act}{w:aB}
def Gh.var(g:Gh)(n N:Nat):Gh:={ g with br:=λb=>if b=n then N else g.br b }
def Gh.H6(g:Gh)(n N:Nat):Gh.Le n g (g.var n N):=⟨λ_ _ _ h=>h,λb hb=>by simp only[Gh.var];rw[if_neg (by omega)],rfl,λ_ _ _ _ h=>h⟩
def Vk{w w':aB}{obj:Obj}(hw:w'.heap=w.heap.push obj){c:Nat}(hc:c<w.heap.size):w'.heap[c]?=w.heap[c]?:=by
 rw[hw,Array.getElem?_push,if_neg (by omega)]
def YD{w w':aB}{obj:Obj}(hw:w'.heap=w.heap.push obj):w'.heap[w.heap.size]?=some obj:=by
 rw[hw];simp
def lG.push(d n:Nat)(g:Gh){w w':aB}{obj:Obj}(hw:w'.heap=w.heap.push obj)(Au:w'.os=w.os)(ht:w'.tape=w.tape)(mm:w'.output=w.output):lG d none none n g w (g.var n w.heap.size) w' :=
 ⟨g.H6 n _,λc hc _ _=>Vk hw hc,λ_ _ _=>rfl,λ_ _ _ _=>rfl,by rw[hw];simp,λ_ _ _=>rfl,λl hl=>(by cases hl),λb hb=>(by cases hb),λ_ _ _ _=>rfl,Au,ht,mm⟩
def xg{bs bs':List aN}(h:∀b,b<bs.length->bs'[b]?=bs[b]?){b off:Nat}(hl:qP bs b off):qP bs' b off:=by
 obtain⟨cs,t,sz,xs,h1,h2⟩:=hl;exact⟨cs,t,sz,xs,by rw[h b (dW.1 h1).1];exact h1,h2⟩
def Rel.push(h:Rel B g s a w)(br:aN){obj:Obj}{w':aB}(hw:w'.heap=w.heap.push obj)(Au:w'.os=w.os)(ht:w'.tape=w.tape)(mm:w'.output=w.output)
  (eA:fO (g.var s.H.af.length w.heap.size) (s.H.af.length+1) w' s.H.af.length br) (bX:br.top<=s.H.af.length+1):Rel B (g.var s.H.af.length w.heap.size) { s with H:=s.H.push br } a w':=by
 have hl:(s.H.push br).af.length=s.H.af.length+1:=by simp[Hp.push]
 have dO:∀b,b<s.H.af.length->(s.H.push br).af[b]?=s.H.af[b]?:=λb hb=>by simp only[Hp.push];rw[nH hb]
 have pU:(s.H.push br).af[s.H.af.length]?=some br:=by simp[Hp.push]
 have hv:(g.var s.H.af.length w.heap.size).br s.H.af.length=w.heap.size:=by simp[Gh.var]
 have fR:w'.heap.size=w.heap.size+1:=by rw[hw];simp
 refine h.ij (s':={ s with H:=s.H.push br }) (lG.push B.d s.H.af.length g hw Au ht mm) (by rw[hl];omega) (λb hb _=>dO b hb) (λb x hb hx=>?_) (λb h1 h2=>?_) (λb b' h1 h2 h3 h4 _=>?_) (λc o v hv=>?_) (λc l hc=>?_)
  (λb j e=>by cases e) rfl rfl (λt x hx=>⟨x,hx,.inl ⟨rfl,λe=>by cases e⟩⟩) ?_ (λb off mW=>xg dO (h.gm b off mW)) h.nB (λ_ e=>by cases e)
 ·have bY:b=s.H.af.length:=by
   rcases hb with hb|hb
   ·cases hb
   ·have:=(dW.1 hx).1;rw[hl] at this;omega
  subst bY;rw[pU] at hx;cases hx;rw[hl];exact⟨eA,bX⟩
 ·have:b=s.H.af.length:=by rw[hl] at h2;omega
  subst this;rw[hv];refine⟨bV _,by omega,?_,λo=>?_⟩
  ·show g.own w.heap.size=none;cases ho:g.own w.heap.size with
   | none=>rfl
   | some l=>have:=h.bW.dF _ _ ho;omega
  ·show g.M w.heap.size o=none;cases hm:g.M w.heap.size o with
   | none=>rfl
   | some v=>have:=wP (h.bW.mem _ _ _ hm);omega
 ·rw[hl] at h2 h4;omega
 ·rw[xw (Vk hw (wP (h.bW.mem c o v hv)))];exact h.bW.mem c o v hv
 ·have:=h.bW.dF c l hc;omega
 ·intro b x hx;rcases iT b s.H.af.length with h1|h1
  ·rw[show({ s with H:=s.H.push br }:St).H.af[b]?=s.H.af[b]? from dO b h1] at hx;exact h.aS b x hx
  ·have bY:b=s.H.af.length:=by
    have:=(dW.1 hx).1;have lY:({ s with H:=s.H.push br }:St).H.af.length=s.H.af.length+1:=hl;omega
   subst bY;rw[show({ s with H:=s.H.push br }:St).H.af[s.H.af.length]?=some br from pU] at hx;cases hx;exact .inl bX
def Rel.si(h:Rel B g s a w){cs:aj}{arr:cO}{t:ai}(dA:bz g cs arr.toList)(bX:aA cs<=s.H.af.length)
  (iE:∀(j:Nat)(x:V)(v:aP),cs[j]?=some x->arr[j]?=some v->cq g s.H.af.length w (.cell s.H.af.length j) x v/\∀sz xs,x≠.sl sz xs .lock) :
  Rel B (g.var s.H.af.length w.heap.size) { s with H:=s.H.push (.cells cs t) } a (w.alloc (.cells arr t)):=by
 have hw:(w.alloc (.cells arr t)).heap=w.heap.push (.cells arr t):=rfl;refine h.push (.cells cs t) hw rfl rfl rfl ⟨arr,?_,by simpa using dA.len,λj x v hx hv=>⟨dA.one j x hx,?_,?_,?_⟩⟩ (Nat.le_succ_of_le bX)
 ·rw[show(g.var s.H.af.length w.heap.size).br s.H.af.length=w.heap.size by simp[Gh.var]]
  exact YD hw
 ·exact(dA.rel j x v hx (by simpa using hv)).le (g.H6 _ _) (cR (zk (zy hx)) bX)
 ·refine cq.same (lG.push B.d s.H.af.length g hw rfl rfl rfl) (λe=>by cases e) (λb h1 h2=>?_) (iE j x v hx hv).1
  have:b=s.H.af.length:=by omega
  subst this;simp[Gh.var]
 ·have:=(iE j x v hx hv).2;cases x with
  | sl sz xs o=>cases o with
   | lock=>exact absurd rfl (this sz xs)
   | _=>trivial
  | _=>trivial
def YE{v:aP}{z:V}(h:aF v=some z):∀x∈z.cells,∀sz xs o,x≠.sl sz xs o:=by
 have key:∀(v:aP)(x:V),aF v=some x->∀sz xs o,x≠.sl sz xs o:=by
  intro v x h sz xs o e;subst e;unfold aF at h;split at h<;>try (simp at h;done)
  all_goals (simp only[fy] at h;obtain⟨l,_,h⟩:=h;split at h<;>simp at h)
 have keys:∀(vs:dy)(xs:aj),nP vs=some xs->∀x∈xs,∀sz ys o,x≠.sl sz ys o:=by
  intro vs
  induction vs with
  | nil=>intro xs h x hx;simp only[nP,aO] at h;subst h;simp at hx
  | cons v vs ih =>
   intro xs h x hx;simp only[nP] at h;split at h<;>simp only[aO,reduceCtorEq] at h;rename_i y ys hy AQ;subst h;rcases cS.1 hx with rfl|hx
   ·exact key v _ hy
   ·exact ih ys AQ x hx
 intro x hx
 by_cases ha:∃cs,z=.agg cs
 ·obtain⟨cs,rfl⟩:=ha;unfold aF at h;split at h<;>try (simp at h;done)
  simp only[fy] at h;obtain⟨l,hl,h⟩:=h;split at h<;>simp only[aO,reduceCtorEq,V.agg.injEq] at h;subst h;exact keys _ _ hl x hx
 ·have:z.cells=[z]:=by cases z<;>first|rfl|exact absurd ⟨_,rfl⟩ ha
  rw[this] at hx;simp at hx;subst hx;exact key v _ h
def zbm{env bB:aj}{x:aH}{v:V}(h:take env x=some (v,bB)):∀sz xs,v≠.sl sz xs .lock:=by
 intro sz xs e;subst e;cases x with
 | tmp t =>
  simp only[take,eV] at h;split at h<;>simp only[aO,bP,reduceCtorEq] at h
  ·obtain⟨h,_⟩:=h;simp at h
  ·obtain⟨h,_⟩:=h;rename_i y _ _ _;cases y<;>simp[aX] at h
 | const c =>
  simp only[take,aq,nq,bP] at h;obtain⟨u,hu,rfl,_⟩:=h;exact YE hu (.sl sz xs .lock) (by simp[V.cells]) sz xs .lock rfl
 | global k=>simp[take,aq] at h
 | func f=>simp[take,aq] at h
def zj1{v:V}(h:eF v=true):(∃cs,v=.agg cs/\v.laid=cs.map aX)\/(v.one=true/\v.laid=[v]/\v.cells=[v]):=by
 cases v<;>first
  |exact .inl ⟨_,rfl,rfl⟩
  |exact .inr ⟨rfl,rfl,rfl⟩
  |(simp[eF] at h)
def zj2{n b off:Nat}{v:V}{cv:aP}(hr:aL g v cv)(hc:eF v=true)(ho:cq g n w (.cell b off) v cv)(mq:∀sz xs,v≠.sl sz xs .lock)(bX:v.top<=n) :
  bz g v.laid cv.cells.toList/\aA v.laid<=n/\∀(j:Nat)(x:V)(u:aP),v.laid[j]?=some x->cv.cells[j]?=some u->cq g n w (.cell b (off+j)) x u/\∀sz xs,x≠.sl sz xs .lock:=by
 have dA:=vQ hr hc;rcases zj1 hc with⟨cs,rfl,hl⟩|⟨h1,hl,Aj⟩
 ·rw[hl];refine⟨dA.Bp,by rw[ju];exact bX,λj x u hx hu=>?_⟩
  simp only[pH,nq] at hx;obtain⟨y,_,rfl⟩:=hx;exact⟨ko _ _ _ _ _ _,λsz xs e=>by cases y<;>simp[aX] at e⟩
 ·rw[hl];rw[Aj] at dA;refine⟨dA,by simp only[aA];omega,λj x u hx hu=>?_⟩
  cases j with
  | zero =>
   simp at hx;subst hx;have e:cv.cells=#[cv]:=by
    have:=hr.pQ h1;cases cv<;>first
     |rfl
     |(simp[Value.oneCell'] at this)
   rw[e] at hu;simp at hu;subst hu;exact⟨ho,mq⟩
  | succ j=>simp at hx
end
section
variable{P:aD}{B:dK}{g:Gh}{s:St}{a:Act}{w:aB}
def zZ{α:Type}:∀(vs cs:List α)(off j:Nat),off+vs.length<=cs.length->(storeCells cs off vs)[j]?=if off<=j/\j<off+vs.length then vs[j - off]? else cs[j]?
 | [],cs,off,j,_=>by
  have:¬(off<=j/\j<off+0):=by omega
  simp[storeCells];intro h1 h2;omega
 | v::vs,cs,off,j,h=>by
  simp only[storeCells];rw[zZ vs (cs.set off v) (off+1) j (by simp at h ⊢;omega)]
  simp only[fY] at h ⊢
  by_cases h1:j=off
  ·subst h1;have:¬(j+1<=j/\j<j+1+vs.length):=by omega
   have h2:j<=j/\j<j+(vs.length+1):=by omega
   simp only[if_neg this,if_pos h2,G4];rw[J7 (by omega)]
   rfl
  ·by_cases h2:off+1<=j/\j<off+1+vs.length
   ·have h3:off<=j/\j<off+(vs.length+1):=by omega
    rw[if_pos h2,if_pos h3];have:j - off=(j - (off+1))+1:=by omega
    rw[this];rfl
   ·have h3:¬(off<=j/\j<off+(vs.length+1)):=by omega
    rw[if_neg h2,if_neg h3,GZ (by omega)]
def YF{lk:aC}{b:Nat}:∀{n off:Nat}{cs:aj},wK lk b off n cs=true->∀j x,j<n->cs[j]?=some x->locked x=true->(b,off+j)∈lk
 | 0,_,_,_,j,x,hj,_,_=>by omega
 | n+1,off,[],h,j,x,_,hx,_=>by simp at hx
 | n+1,off,c::cs,h,j,x,hj,hx,mW=>by
  simp only[wK,bN,gZ,ue] at h;cases j with
  | zero =>
   simp at hx;subst hx;rcases h.1 with h1|h1
   ·rw[mW] at h1;cases h1
   ·obtain⟨p,hp,h2⟩:=List.any_eq_true.1 h1;simp only[bN,G5] at h2;obtain⟨h3,h4⟩:=h2;cases p;simp only at h3 h4;subst h3;subst h4;simpa using hp
  | succ j =>
   have:=YF h.2 j x (by omega) (by simpa using hx) mW
   rw[show off+(j+1)=off+1+j by omega]
   exact this
def Rel.write(h:Rel B g s a w){b:Nat}{x0 x:aN}{v:V}{l:aC}{w':aB}{N:Nat}(hN:N=g.br b)(hb:s.H.get b=some x0)(sV:∀c,c≠N->w'.heap[c]?=w.heap[c]?)(fR:w'.heap.size=w.heap.size)(Au:w'.os=w.os)(ht:w'.tape=w.tape)(mm:w'.output=w.output)
  (eA:fO g s.H.af.length w' b x) (bX:x.top<=s.H.af.length) (g_:x.top<=b+1\/x.top<=v.top\/x.top<=x0.top\/x.top<=max x0.top v.top)
  (mW:∀off,HU B b off->∃cs t sz xs,x=.cells cs t/\cs[off]?=some (.sl sz xs .lock)) (hl:∀p∈l,¬HU B p.1 p.2) :
  Rel B g { s with H:=(s.H.set b x).bQ b v,lk:=l } a w':=by
 subst hN;simp only[Hp.get,zf] at hb;have lU:b<s.H.af.length:=(dW.1 hb).1;have nt:((s.H.set b x).bQ b v).af=s.H.af.set b x:=by
  simp only[Hp.bQ,Hp.set];split<;>rfl
 have hlen:((s.H.set b x).bQ b v).af.length=s.H.af.length:=by rw[nt];simp
 have eW:lG B.d (some b) none s.H.af.length g w g w' :=
  ⟨.refl _ _,λc _ hc _=>sV c (λe=>hc b rfl e.symm),λ_ _ _=>rfl,λ_ _ _ _=>rfl,by omega,λ_ _ _=>rfl,λl hl=>(by cases hl),λb' bY=>(by cases bY;exact lU),λ_ _ _ _=>rfl,Au,ht,mm⟩
 refine h.ij (s':={ s with H:=(s.H.set b x).bQ b v,lk:=l }) eW (by rw[hlen];exact bV _) (λb' bY cg=>?_) (λb' y H7 hy=>?_) (λb' h1 h2=>?_) (λb1 b2 h1 h2=>?_) (λc o u hu=>?_) (λc l hc=>?_)
  (λb j e=>by cases e) rfl rfl (λt y hy=>⟨y,hy,.inl ⟨rfl,λe=>by cases e⟩⟩) (λb' y hy=>?_) (λb' off KW=>?_) hl (λ_ e=>by cases e)
 ·rw[nt,GZ (λe=>cg (by rw[e]))]
 ·have bY:b'=b:=by
   rcases H7 with H7|H7
   ·cases H7;rfl
   ·have:=(dW.1 hy).1;rw[hlen] at this;omega
  subst bY;rw[nt,J7 lU] at hy;cases hy;rw[hlen];exact⟨eA,bX⟩
 ·rw[hlen] at h2;omega
 ·rw[hlen] at h2;omega
 ·have hc:c≠g.br b:=by rintro rfl;rw[h.bW.apart b lU o] at hu;cases hu
  rw[xw (sV c hc)];exact h.bW.mem c o u hu
 ·have:=h.bW.dF c l hc;omega
 ·rw[show({ s with H:=(s.H.set b x).bQ b v,lk:=l }:St).H.af=s.H.af.set b x from nt] at hy;have fE:∀p∈s.H.aS,p∈((s.H.set b x).bQ b v).aS:=by
   intro p hp;simp only[Hp.bQ,Hp.set];split
   ·exact hp
   ·exact cZ _ hp
  by_cases e:b'=b
  ·subst e;rw[J7 lU] at hy;cases hy;have NO:=h.aS b' x0 hb;have hv:v.top<=b'+1\/(b',v.top)∈((s.H.set b' x).bQ b' v).aS:=by
    simp only[Hp.bQ,Hp.set];split
    next h1=>exact .inl h1
    ·exact .inr (ew ..)
   have old:∀k,k<=x0.top->k<=b'+1\/(∃m,(b',m)∈((s.H.set b' x).bQ b' v).aS/\k<=m)\/∃y:aN,B.bs[b']?=some y/\k<=y.top:=by
    intro k hk;rcases NO with h1|⟨m,h1,h2⟩|⟨y,h1,h2⟩
    ·exact .inl (cR hk h1)
    ·exact .inr (.inl ⟨m,fE _ h1,cR hk h2⟩)
    ·exact .inr (.inr ⟨y,h1,cR hk h2⟩)
   have new:∀k,k<=v.top->k<=b'+1\/(∃m,(b',m)∈((s.H.set b' x).bQ b' v).aS/\k<=m)\/∃y:aN,B.bs[b']?=some y/\k<=y.top:=by
    intro k hk;rcases hv with h1|h1
    ·exact .inl (cR hk h1)
    ·exact .inr (.inl ⟨_,h1,hk⟩)
   rcases g_ with h1|h1|h1|h1
   ·exact .inl h1
   ·exact new _ h1
   ·exact old _ h1
   ·rcases Nat.le_total x0.top v.top with h2|h2
    ·rw[Nat.max_eq_right h2] at h1;exact new _ h1
    ·rw[Nat.max_eq_left h2] at h1;exact old _ h1
  ·rw[GZ (λe'=>e e'.symm)] at hy;rcases h.aS b' y hy with h1|⟨m,h1,h2⟩|h1
   ·exact .inl h1
   ·exact .inr (.inl ⟨m,fE _ h1,h2⟩)
   ·exact .inr (.inr h1)
 ·rw[show({ s with H:=(s.H.set b x).bQ b v,lk:=l }:St).H.af=s.H.af.set b x from nt]
  by_cases e:b'=b
  ·subst e;obtain⟨cs,t,sz,xs,h1,h2⟩:=mW off KW;exact⟨cs,t,sz,xs,by rw[J7 lU,h1],h2⟩
  ·obtain⟨cs,t,sz,xs,h1,h2⟩:=h.gm b' off KW;exact⟨cs,t,sz,xs,by rw[GZ (λe'=>e e'.symm)];exact h1,h2⟩
def xh{vs cs:aj}{off:Nat}:aA (storeCells cs off vs)<=max (aA cs) (aA vs):=vo (FX _ _) (KF _ _)
def uo(h:Rel B g s a w){t:ai}{p x:aH}{b off n:Nat}{v:V}{bB:aj}{cs:aj}{ty:ai}(hp:aq s.env p=some (.ptr b off))(ht:take s.env x=some (v,bB))(hn:z9 P t=some n)
  (hb:s.H.get b=some (.cells cs ty)) (eA:eF v=true) (hl:v.laid.length=n) (hle:off+n<=cs.length) (Av:wK s.lk b off n (cs.drop off)=true) :
  ∃g' w',(Instr.storeAt t (a.eval p) (a.eval x)).run P w=.ok () w'/\Rel B g' { s with env:=bB,H:=(s.H.set b (.cells (storeCells cs off v.laid) ty)).bQ b v } a w':=by
 obtain⟨p1,p2,_⟩:=zD h hp;generalize Dt:a.eval p=cp at p1;cases p1;obtain⟨g',h1,v1,v2,v3,DV⟩:=gN h ht (.cell b off);have bY:({ s with env:=bB }:St).H.get b=some (.cells cs ty):=hb;obtain⟨arr,a1,a2,a3,a4⟩:=xr h1 bY;obtain⟨l1,l2,l3⟩:=zj2 v1 eA v2 (zbm ht) v3;have oL:cs.length=arr.size:=by have:=a2.len;simpa using this
 have sj:(a.eval x).cells.size=n:=by rw[<- hl,l1.len];simp
 have m9:g'.br b=g.br b:=by rw[DV.br]
 have lU:b<s.H.af.length:=by simp only[Hp.get,zf] at hb;exact(dW.1 hb).1
 have k_:arr.toList.take off++(a.eval x).cells.toList++arr.toList.drop (off+(a.eval x).cells.toList.length)=storeCells arr.toList off (a.eval x).cells.toList:=by
  have o7:arr.toList=arr.toList.take off++(arr.toList.drop off).take n++arr.toList.drop (off+n):=by
   rw[nI,<- List.drop_drop,Cy,Cy]
  have hlen:(arr.toList.take off).length=off:=by simp;omega
  have:=ji (a.eval x).cells.toList ((arr.toList.drop off).take n) (arr.toList.take off) (arr.toList.drop (off+n)) (by simp;omega)
  rw[hlen,<- o7] at this;rw[this];simp[sj]
 have cj:(Instr.storeAt t (.pointer (some ⟨g.br b,off,none⟩)) (a.eval x)).run P w=.ok () (w.setRow (g.br b) (storeCells arr.toList off (a.eval x).cells.toList).toArray):=by
  have b8:=run_storeCells_at P (g.br b) off ty (a.eval x).cells.toList 0 arr w (by rw[<- m9];exact a1) (by simp;omega) (λu hu=>by
   obtain⟨j,hj⟩:=List.getElem?_of_mem hu;have Ml:j<v.laid.length:=by rw[l1.len];exact(dW.1 hj).1
   have hx:=lB Ml
   exact(l1.rel j _ u hx hj).pQ (l1.one j _ hx))
  simp only[rP] at b8;rw[k_] at b8;unfold Instr.storeAt storeVar;simp[Instr.sureAddr,jq hn,sj,b8]
 refine⟨g',_,cj,?_⟩;have DW:(w.setRow (g.br b) (storeCells arr.toList off (a.eval x).cells.toList).toArray).heap[g'.br b]?=some (.cells (storeCells arr.toList off (a.eval x).cells.toList).toArray ty (0,0)):=by
  rw[m9];exact setRow_heap w _ _ _ ty _ (by rw[<- m9];exact a1)
 have eW:lG B.d (some b) none s.H.af.length g' w g' (w.setRow (g.br b) (storeCells arr.toList off (a.eval x).cells.toList).toArray) :=
  ⟨.refl _ _,λc _ hc _=>setRow_other w _ c _ (λe=>hc b rfl (by rw[m9,e])),λ_ _ _=>rfl,λ_ _ _ _=>rfl,by simp[World.setRow],λ_ _ _=>rfl,λl hl=>(by cases hl),λb' bY=>(by cases bY;exact lU),λ_ _ _ _=>rfl,rfl,rfl,rfl⟩
 have key:=Rel.write (l:=s.lk) (v:=v) h1 (b:=b) (x0:=.cells cs ty) (x:=.cells (storeCells cs off v.laid) ty) (N:=g.br b) m9.symm bY (λc hc=>setRow_other w _ c _ hc) (by simp[World.setRow]) rfl rfl rfl
  ⟨_,DW,by simp[jO,oL],λj y u hy hu=>?_⟩ (vo a3 l2) (.inr (.inr (.inr (cR xh (Ar.2 ⟨FX _ _,?_⟩))))) (λo tI=>?_) h.nB
 ·exact key
 ·have b8:=a2.store off l1;have hr:=b8.rel j y u hy (by simpa using hu)
  refine⟨b8.one j y hy,hr,?_,?_⟩
  ·rw[zZ _ _ _ _ (by omega)] at hy
   have Aw:(storeCells arr.toList off (a.eval x).cells.toList)[j]?=some u:=by simpa using hu
   rw[zZ _ _ _ _ (by rw[DJ,DJ,sj,<- oL];exact hle)] at Aw
   by_cases hj:off<=j/\j<off+v.laid.length
   ·rw[if_pos hj] at hy;rw[if_pos (by simp[sj];omega)] at Aw
    have:=(l3 (j - off) y u hy (by simpa using Aw)).1
    rw[show off+(j - off)=j by omega] at this
    exact cq.same eW (λe=>by cases e) (λb1 h2 h3=>absurd (show b1<s.H.af.length from h3) (J9.2 h2)) this
   ·rw[if_neg hj] at hy;rw[if_neg (by simp[sj];omega)] at Aw
    exact cq.same eW (λe=>by cases e) (λb1 h2 h3=>absurd (show b1<s.H.af.length from h3) (J9.2 h2)) (a4 j y u hy (by simpa using Aw)).1
  ·rw[zZ _ _ _ _ (by omega)] at hy
   have Aw:(storeCells arr.toList off (a.eval x).cells.toList)[j]?=some u:=by simpa using hu
   rw[zZ _ _ _ _ (by rw[DJ,DJ,sj,<- oL];exact hle)] at Aw
   by_cases hj:off<=j/\j<off+v.laid.length
   ·rw[if_pos hj] at hy;rw[if_pos (by simp[sj];omega)] at Aw
    have:=(l3 (j - off) y u hy (by simpa using Aw)).2
    cases y with
    | sl sz xs o=>cases o with
     | lock=>exact absurd rfl (this sz xs)
     | _=>trivial
    | _=>trivial
   ·rw[if_neg hj] at hy;rw[if_neg (by simp[sj];omega)] at Aw
    exact(a4 j y u hy (by simpa using Aw)).2
 ·have:aA v.laid<=v.top:=by
   rcases zj1 eA with⟨cs',rfl,e⟩|⟨_,e,_⟩
   ·rw[e,ju];exact bV _
   ·rw[e];simp[aA]
  exact cR this (KF _ _)
 ·obtain⟨Ke,t2,sz,xs,c1,c2⟩:=h.gm b o tI;have Bv:s.H.af[b]?=some (.cells cs ty):=by simpa[Hp.get,zf] using hb
  rw[Bv] at c1;cases c1;refine⟨_,_,sz,xs,rfl,?_⟩;rw[zZ _ _ _ _ (by omega)]
  by_cases hj:off<=o/\o<off+v.laid.length
  ·have:=YF Av (o - off) (.sl sz xs .lock) (by omega) (by rw[HN,show off+(o - off)=o by omega];exact c2) rfl
   rw[show off+(o - off)=o by omega] at this
   exact absurd tI (h.nB _ this)
  ·rw[if_neg hj];exact c2
end
section
variable{P:aD}{B:dK}{g:Gh}{s:St}{a:Act}{w:aB}
def zhA{_kd:TypeDesc}{k x:V}{ck cx:aP}(h:PX k x=some true)(h1:aL g k ck)(h2:aL g x cx)(n:Nat):Instr.sameBits n cx ck=true:=by
 unfold PX at h;split at h
 ·split at h<;>simp only[aO,reduceCtorEq] at h;rename_i e;subst e;cases h1;cases h2;have:=beq_iff_eq.1 h;subst this;simp[Instr.sameBits]
 ·simp only[aO] at h;cases h1 with
  | str b1=>cases h2 with
   | str b2 =>
    have:=pS _ _ b1 b2;rw[h] at this;simp only[Instr.sameBits,beq_toListBytes,wO];rw[beq_iff_eq] at this ⊢;exact this.symm
 ·simp only[aO] at h;cases h1;cases h2;have:=beq_iff_eq.1 h;subst this;simp[Instr.sameBits]
 ·cases h
def zj3{kd:TypeDesc}{k x:V}{ck cx:aP}(hk:G7 kd k=true)(h1:aL g k ck)(h2:aL g x cx):∀{es fJ:List (V×V)}{en:List MapEntry}(i:Nat),nU g es en->PZ k x es=some fJ ->
  (Instr.findNow kd ck en i=some none/\fJ=es++[(k,x)]) \/
  ∃j e cv,Instr.findNow kd ck en i=some (some (i+j,cv))/\en[j]?=some e/\Instr.sameBits 10000 e.key ck=true/\fJ=es.set j (k,x)/\j<es.length
 | [],_,[],i,_,h=>by simp only[PZ,aO] at h;subst h;exact .inl ⟨rfl,rfl⟩
 | [],_,_::_,i,hr,h=>by have:=hr.len;simp at this
 | _::_,_,[],i,hr,h=>by have:=hr.len;simp at this
 | (y,v)::es,fJ,e::en,i,hr,h=>by
  obtain⟨ht,hy,hv⟩:=hr.tail;simp only[PZ] at h;split at h
  next Ds=>simp only[aO] at h;subst h;exact .inr ⟨0,e,e.val,by simp[Instr.findNow,yz hk Ds h1 hy],rfl,zhA (_kd:=kd) Ds h1 hy _,rfl,by simp⟩
  ·rename_i Ds;simp only[nq] at h;obtain⟨r,Qb,rfl⟩:=h;rcases zj3 hk h1 h2 (i+1) ht Qb with⟨h3,h4⟩|⟨j,e',cv,h3,h4,h5,h6,h7⟩
   ·exact .inl ⟨by simp[Instr.findNow,yz hk Ds h1 hy,h3],by simp[h4]⟩
   ·refine .inr ⟨j+1,e',cv,?_,by simpa using h4,h5,by simp[h6],by simp;omega⟩
    simp only[Instr.findNow,yz hk Ds h1 hy,h3];rw[show i+1+j=i+(j+1) by omega]
  ·cases h
def zdn{w:aB}{r:Nat}{o:Obj}{c:Nat}(h:c≠r):({ w with heap:=w.heap.setIfInBounds r o }:aB).heap[c]?=w.heap[c]?:=by
 simp[Ne.symm h]
def xx{w:aB}{r:Nat}{o o':Obj}(h:w.heap[r]?=some o'):({ w with heap:=w.heap.setIfInBounds r o }:aB).heap[r]?=some o:=by
 have:=(ud.1 h).1;simp[this]
def nU.push{es:List (V×V)}{en:List MapEntry}(h:nU g es en){x:V×V}{e:MapEntry}(h1:aL g x.1 e.key)(h2:aL g x.2 e.val):nU g (es++[x]) (en++[e]):=by
 refine⟨by simp[h.len],λj y f hy hf=>?_⟩
 rcases iT j es.length with hj|hj
 ·rw[nH hj] at hy;rw[nH (by rw[<- h.len];exact hj)] at hf
  exact h.rel j y f hy hf
 ·rw[nN hj] at hy;rw[nN (by rw[<- h.len];exact hj),<- h.len] at hf
  cases hk:j - es.length with
  | zero=>rw[hk] at hy hf;simp at hy hf;subst hy;subst hf;exact⟨h1,h2⟩
  | succ k=>rw[hk] at hy;simp at hy
def zb7(h:Rel B g s a w){t:ai}{m k x:aH}{b:Nat}{kv v:V}{es fJ:List (V×V)}(hm:aq s.env m=some (.map b))(hk:aq s.env k=some kv)(hx:aq s.env x=some v)(Br:Yf P t kv=true)
  (hb:s.H.get b=some (.map es)) (hs:PZ kv v es=some fJ) :
  ∃w',(Instr.mapUpdate t (a.eval m) (a.eval k) (a.eval x)).run P w=.ok () w'/\Rel B g { s with H:=(s.H.set b (.map fJ)).bQ b (.bx [kv,v]) } a w':=by
 have m1:=(zD h hm).1;obtain⟨k1,k2,_⟩:=zD h hk;obtain⟨v1,v2,_⟩:=zD h hx;generalize hme:a.eval m=cm at m1;cases m1;obtain⟨en,ck,e1,e2,e3,e4⟩:=Yt h hb;unfold Yf at Br;split at Br<;>try (cases Br;done)
 rename_i kt et ht;split at Br<;>try (cases Br;done)
 rename_i kd RJ;have Bv:s.H.af[b]?=some (.map es):=by simpa[Hp.get,zf] using hb
 have mW:∀off,¬HU B b off:=λoff hl=>by
  obtain⟨cs,t2,sz,xs,c1,_⟩:=h.gm b off hl;rw[Bv] at c1;cases c1
 have bX:∀nS:List (V×V),(∀p∈nS,p∈es\/p=(kv,v))->(aN.map nS).top<=max (aN.map es).top (V.bx [kv,v]).top:=λnS hp=>by
  refine Ar.2 ⟨qU λy hy=>?_,qU λy hy=>?_⟩
  ·obtain⟨p,Du,rfl⟩:=r7.1 hy;rcases hp p Du with h1|h1
   ·exact cR (zk (G0 (f:=(·.1)) h1)) (cR (FX _ _) (FX _ _))
   ·subst h1;exact cR (FX _ _) (KF _ _)
  ·obtain⟨p,Du,rfl⟩:=r7.1 hy;rcases hp p Du with h1|h1
   ·exact cR (zk (G0 (f:=(·.2)) h1)) (cR (KF _ _) (FX _ _))
   ·subst h1;simp only[V.top,aA];omega
 have nC:max (aN.map es).top (V.bx [kv,v]).top<=s.H.af.length:=Ar.2 ⟨Ar.2 ⟨e3,e4⟩,by simp only[V.top,aA];omega⟩
 have fin:∀(nS:List (V×V))(RK:Array MapEntry)(clock:Nat),(∀p∈nS,p∈es\/p=(kv,v))->nU g nS RK.toList ->
   Rel B g { s with H:=(s.H.set b (.map nS)).bQ b (.bx [kv,v]) } a { w with heap:=w.heap.setIfInBounds (g.br b) (.map RK clock) }:=λnS RK clock hp Vl=>by
  have:=h.write (l:=s.lk) (b:=b) (x0:=.map es) (x:=.map nS) (v:=.bx [kv,v]) (w':={ w with heap:=w.heap.setIfInBounds (g.br b) (.map RK clock) }) rfl hb (λc hc=>zdn hc) (by simp) rfl rfl rfl
   ⟨RK,clock,xx e1,by simpa using Vl.len,λj y e hy he=>Vl.rel j y e hy (by simpa using he)⟩ (cR (bX nS hp) nC) (.inr (.inr (.inr (bX nS hp)))) (λoff hl=>absurd hl (mW off)) h.nB
  exact this
 have hg:(getObj (g.br b)).run P w=.ok (.map en ck) w:=by simp[getObj,Sem.run,e1]
 have iH:∀o,(setObj (g.br b) o).run P w=.ok () { w with heap:=w.heap.setIfInBounds (g.br b) o }:=λo=>by simp[setObj,Sem.run,e1]
 have E7:=zdm (P:=P) RJ Br k1 false w;rcases zj3 Br k1 v1 0 e2 hs with⟨h3,h4⟩|⟨j,e,cv,h3,h4,h5,h6,h7⟩
 ·subst h4;refine⟨{ w with heap:=w.heap.setIfInBounds (g.br b) (.map (en.push { key:=a.eval k,val:=a.eval x,born:=ck }) (ck+1)) },?_,fin _ _ _ (λp hp=>?_) (by simpa using e2.push (x:=(kv,v)) (e:={ key:=a.eval k,val:=a.eval x,born:=ck }) k1 v1)⟩
  ·unfold Instr.mapUpdate;simp[run_underlying ht,hg,E7,Instr.findKey,run_underlying RJ,h3,iH]
  ·rcases rO.1 hp with hp|hp
   ·exact .inl hp
   ·exact .inr (by simpa using hp)
 ·subst h6;rw[eM] at h3;have YG:en[j]?=some e:=by simpa using h4
  have akg:j<en.size:=(ud.1 YG).1;refine⟨{ w with heap:=w.heap.setIfInBounds (g.br b) (.map (en.modify j λe=>{ e with key:=a.eval k,val:=a.eval x }) ck) },?_,fin _ _ _ (λp hp=>List.mem_or_eq_of_mem_set hp) ?_⟩
  ·have RL:(Instr.keyThatStays e.key (a.eval k)).run P w=.ok (a.eval k) w:=by unfold Instr.keyThatStays;simp[h5]
   unfold Instr.mapUpdate;simp[run_underlying ht,hg,E7,Instr.findKey,run_underlying RJ,h3,iH,YG,RL]
  ·refine⟨by simp[e2.len],λi y f hy hf=>?_⟩
   have H8:(en.modify j λe=>{ e with key:=a.eval k,val:=a.eval x })[i]?=some f:=by rw[<- Me];exact hf
   rw[Array.getElem?_modify] at H8
   by_cases Dv:j=i
   ·subst Dv;rw[J7 h7] at hy;cases hy;rw[if_pos rfl,YG] at H8;simp only[cA,aO] at H8;subst H8;exact⟨k1,v1⟩
   ·rw[GZ Dv] at hy;rw[if_neg Dv] at H8;exact e2.rel i y f hy (by simpa using H8)
def zli{l:aR}{pos:Nat}(hl:∀b:Nat,b∈l->b<256)(hp:pos<l.length):Utf8.decode (bytes l) pos=KH (l.drop pos):=by
 have fP:∀k,((bytes l).get! (pos+k)).toNat=(l.drop pos).getD k 0:=by
  intro k;have e1:(bytes l).get! (pos+k)=(bytes l).data[pos+k]!:=by cases l<;>rfl
  rw[e1]
  by_cases hk:pos+k<l.length
  ·have hb:=hl _ (List.getElem_mem hk);simp[bytes,List.getD,hk,UInt8.toNat_ofNat',FV hb]
  ·simp[bytes,List.getD,tE (by omega:l.length<=pos+k)]
   rfl
 have RM:∀k,(decide (pos+k<(bytes l).size) && ((bytes l).get! (pos+k)).toNat / 64 == 2)=(Nat.blt k (l.drop pos).length && Nat.beq ((l.drop pos).getD k 0 / 64) 2):=by
  intro k;rw[fP]
  congr 1
  ·rw[jR,List.length_drop,FY,decide_eq_true_iff,G6];omega
  ·rw[FY,beq_iff_eq,G5]
 have RN:=fP 0;rw[rP] at RN;have NP:∀k,(decide (pos+k<(bytes l).size) && (l.drop pos).getD k 0 / 64 == 2)=(Nat.blt k (l.drop pos).length && Nat.beq ((l.drop pos).getD k 0 / 64) 2):=λk=>by
  have:=RM k;rw[fP] at this;exact this
 unfold Utf8.decode KH;simp only[rP,fP,RN,NP]
def zoC(h:Rel B g s a w){it:aH}{b pos:Nat}{l:aR}(hi:aq s.env it=some (.ptr b 0))(hb:s.H.get b=some (.iter l pos))(ty:ai) :
  if Nat.blt pos l.length=true then
   ∃cv w',(Instr.next (a.eval it) true ty).run P w=.ok cv w'/\aL g (.bx [.bool true,.int .i64 pos,.int .i32 (KH (l.drop pos)).1]) cv/\Rel B g { s with H:=(s.H.set b (.iter l (pos+(KH (l.drop pos)).2))).bQ b .dx } a w'
  else ∃cv,(Instr.next (a.eval it) true ty).run P w=.ok cv w/\aL g (.bx [.bool false]) cv:=by
 have i1:=(zD h hi).1;generalize hie:a.eval it=ci at i1;cases i1;have Bv:s.H.af[b]?=some (.iter l pos):=by simpa[Hp.get,zf] using hb
 obtain⟨e1,e2⟩:=h.bW.ok b _ Bv;have hg:(getObj (g.br b)).run P w=.ok (.stringIter (bytes l) pos) w:=by simp[getObj,Sem.run,e1]
 have iH:∀o,(setObj (g.br b) o).run P w=.ok () { w with heap:=w.heap.setIfInBounds (g.br b) o }:=λo=>by simp[setObj,Sem.run,e1]
 have mW:∀off,¬HU B b off:=λoff hl=>by
  obtain⟨cs,t2,sz,xs,c1,_⟩:=h.gm b off hl;rw[Bv] at c1;cases c1
 split
 ·rename_i bu;rw[G6] at bu;refine⟨.tuple #[.bool true,goInt pos,.int .i32 (KH (l.drop pos)).1],{ w with heap:=w.heap.setIfInBounds (g.br b) (.stringIter (bytes l) (pos+(KH (l.drop pos)).2)) },?_,?_,?_⟩
  ·unfold Instr.next
   simp[hg,jR,bu,zli e2 bu,iH]
  ·refine .bx rfl λj x u hx hu=>?_;rcases j with _|_|_|j
   ·simp at hx hu;subst hx;subst hu;exact .bool true
   ·simp at hx hu;subst hx;subst hu;exact .int _ _
   ·simp at hx hu;subst hx;subst hu;exact .int _ _
   ·simp at hx
  ·exact h.write (l:=s.lk) (b:=b) (x0:=.iter l pos) (x:=.iter l (pos+(KH (l.drop pos)).2)) (v:=.dx) (w':={ w with heap:=w.heap.setIfInBounds (g.br b) (.stringIter (bytes l) (pos+(KH (l.drop pos)).2)) }) rfl hb (λc hc=>zdn hc) (by simp) rfl rfl rfl
    ⟨xx e1,e2⟩ (dJ _) (.inl (dJ _)) (λoff hl=>absurd hl (mW off)) h.nB
 ·rename_i bu;rw[G6] at bu;refine⟨.tuple #[.bool false],?_,?_⟩
  ·unfold Instr.next
   simp[hg,jR,bu]
  ·refine .bx rfl λj x u hx hu=>?_;rcases j with _|j
   ·simp at hx hu;subst hx;subst hu;exact .bool false
   ·simp at hx
end
section
variable{P:aD}{B:dK}{g:Gh}{s:St}{a:Act}{w:aB}
def wk{t ty e:ai}{n:Nat}(ht:P.underlying t=some (.slice e))(hn:z9 P e=some n)(v:aP)(base:Option Addr)(DX DY:Nat)(hv:v=.slice base DX DY)(hle:DX<=DY)(ad:Option Addr)(c:Nat)(w:aB) :
  (Builtin.append_ #[t,t] ty #[v,.slice ad 0 c]).run P w=.ok v w:=by
 subst hv;simp only[z9,nq] at hn;obtain⟨i,hi,rfl⟩:=hn;cases ad<;>cases base<;>simp[Builtin.append_,run_underlying ht,sizeOf,typeInfo,hi,Builtin.lenOf,Builtin.firstCells,hle,loadCells,loadCellsFrom,Go.storeCells]
def Gh.grown(g:Gh)(c:Nat)(vs:dy)(l:Option Loc):Gh :=
 {g with M:=λc' o=>if c'=c then vs[o]? else g.M c' o,own:=λc'=>if c'=c then l else g.own c' }
def Rel.KX(h:Rel B g s a w){c:Nat}{t0:Nat}(CF:s.env.length<=t0)(RO:t0<=s.env.length)(iE:g.own c=some (.slot B.d t0))(hc:c<w.heap.size)(vs:dy)(l:Option Loc){w':aB}
  (hold:∀c',c'≠c->w'.heap[c']?=w.heap[c']?) (fR:w'.heap.size=w.heap.size) (eS:∀o v,vs[o]?=some v->w'.cell? ⟨c,o,none⟩=some v) (KY:∀o v,g.M c o=some v->vs[o]?=some v)
  (Au:w'.os=w.os) (ht:w'.tape=w.tape) (mm:w'.output=w.output):Rel B (g.grown c vs l) s a w':=by
 have cg:∀c',(∀l',some (Loc.slot B.d t0)=some l'->g.own c'≠some l')->c'≠c:=λc' h' e=>h' _ rfl (e ▸ iE);have akj:∀b,b<s.H.af.length->g.br b≠c:=λb hb e=>by
  have:=h.bW.cF b hb;rw[e,iE] at this;cases this
 refine h.ij (b0:=none) (l0:=some (.slot B.d t0)) ?_ (bV _) (λ_ _ _=>rfl) (λb x hb hx=>?_) (λb h1 h2=>?_) (λb b' h1 h2=>?_) (λc' o v hv=>?_) (λc' l' ez=>?_) (λb j e=>by cases e) rfl rfl
  (λt x hx=>⟨x,hx,.inl ⟨rfl,λe=>?_⟩⟩) h.aS h.gm h.nB (λt e=>by cases e;exact RO)
 ·refine⟨⟨λc' o v hv=>?_,λ_ _=>rfl,rfl,λ_ _ _ _ e=>e⟩,λc' _ _ h2=>hold c' (cg c' h2),λc' _ h2=>?_,λc' _ h2 o=>?_,by omega,λ_ _ _=>rfl,λl' lY=>?_,λb hb=>(by cases hb),λ_ _ _ _=>rfl,Au,ht,mm⟩
  ·simp only[Gh.grown];split
   next e=>subst e;exact KY o v hv
   ·exact hv
  ·simp only[Gh.grown];rw[if_neg (cg c' h2)]
  ·simp only[Gh.grown];rw[if_neg (cg c' h2)]
  ·cases lY;exact .inl ⟨t0,rfl⟩
 ·rcases hb with hb|hb
  ·cases hb
  ·have:=(dW.1 hx).1;omega
 ·omega
 ·omega
 ·simp only[Gh.grown] at hv;split at hv
  next e=>subst e;exact eS o v hv
  next e=>rw[xw (hold c' e)];exact h.bW.mem c' o v hv
 ·simp only[Gh.grown] at ez;split at ez
  next e=>omega
  ·have:=h.bW.dF c' l' ez;omega
 ·cases e;have:=(dW.1 hx).1;omega
def zhB{isAgg:Bool}{sz:Nat}(h1:isAgg=false->sz=1):∀{n:Nat}{cs:aj},n * sz<=cs.length->(∀x∈cs,x.one=true)->zL (KG isAgg sz n cs)=cs.take (n * sz)/\(∀y∈KG isAgg sz n cs,y.cells.length=sz)/\(KG isAgg sz n cs).length=n
 | 0,cs,_,_=>by simp[KG,zL]
 | n+1,cs,hl,ho=>by
  have lY:n * sz<=(cs.drop sz).length:=by rw[CA] at hl;simp;omega
  obtain⟨i1,i2,i3⟩:=zhB h1 (n:=n) (cs:=cs.drop sz) lY (λx hx=>ho x (FR hx));have fR:sz<=cs.length:=by rw[CA] at hl;omega
  have e:cs.take ((n+1) * sz)=cs.take sz++(cs.drop sz).take (n * sz):=by
   rw[show(n+1) * sz=sz+n * sz by rw[CA];omega,List.take_add]
  cases isAgg with
  | true =>
   simp only[KG,aT,zL,FU,V.cells] at *;refine⟨by rw[i1,e],λy hy=>?_,by simp[i3]⟩
   rcases cS.1 hy with rfl|hy
   ·simp;omega
   ·exact i2 y hy
  | false =>
   have H9:=h1 rfl;subst H9;cases cs with
   | nil=>simp at fR
   | cons x cs =>
    have hx:=ho x (ew ..);have hxc:x.cells=[x]:=by cases x<;>first|rfl|(simp[V.one,oJ] at hx)
    simp only[KG,bH,aZ,List.headD_cons,zL,FU] at *;refine⟨by rw[i1,e,hxc];simp,λy hy=>?_,by rw[fY,i3]⟩
    rcases cS.1 hy with rfl|hy
    ·rw[hxc];rfl
    ·exact i2 y hy
structure Src(g:Gh)(n:Nat)(w:aB)(sz:Nat)(ys:aj)(cy:aP):Prop where
 form:∃ad cap,cy=.slice ad ys.length cap/\(ys≠[]->∃a0 news,ad=some a0/\bz g (zL ys) news/\∀j v,news[j]?=some v->w.cell? (a0.add j)=some v)
 sized:∀y:V,y∈ys->y.cells.length=sz
 aA:aA ys<=n
def Vn(h:Rel B g s a w){e:ai}{sz:Nat}{y:V}{ys:aj}{cy:aP}(fR:z9 P e=some sz)(hy:kE P s.H e y=some ys)(hr:aL g y cy)(ht:y.top<=s.H.af.length):Src g s.H.af.length w sz ys cy:=by
 unfold kE at hy;split at hy
 ·simp only[aO] at hy;subst hy;cases hr;exact⟨⟨none,0,rfl,λhn=>absurd rfl hn⟩,λy hy=>by simp at hy,dJ _⟩
 ·rename_i mj xs ow;simp only[Option.bind_eq_bind,fy] at hy;obtain⟨n,hn,hy⟩:=hy;rw[fR] at hn;cases hn;split at hy<;>simp only[aO,reduceCtorEq] at hy;rename_i e';subst e';subst hy;cases hr with
  | sl f h1 h2 h3 h4 h5 h6 =>
   rename_i ad cap c o;refine⟨⟨ad,cap,rfl,λhn=>⟨⟨c,o,none⟩,(List.range (zL xs).length).map f,h3 hn,⟨by simp,h4,λj x v hx hv=>?_⟩,λj v hv=>?_⟩⟩,h1,ht⟩
   ·have hj:=(dW.1 hx).1;simp[hj] at hv;subst hv;exact h6 j x hx
   ·have hj:j<(zL xs).length:=by have:=(dW.1 hv).1;simpa using this
    have e':f j=v:=by simpa[hj] using hv
    rw[Addr.add_lit,<- e'];exact h.bW.mem _ _ _ (h5 j _ (lB hj))
 ·rename_i b off len YH;simp only[Option.bind_eq_bind,fy] at hy;obtain⟨x,hx,hy⟩:=hy;split at hy<;>try (cases hy;done)
  rename_i cs ty;simp only[fy] at hy;obtain⟨n,hn,ag,nD,hy⟩:=hy;rw[fR] at hn;cases hn;split at hy<;>simp only[aO,reduceCtorEq] at hy;rename_i hc;simp only[bN,gZ] at hc;obtain⟨hle,YI⟩:=hc;have akk:off+len * sz<=cs.length:=pO hle;obtain⟨arr,a1,a2,a3,_⟩:=xr h hx;have RP:((cs.drop off).map aX).length=cs.length - off:=by simp
  obtain⟨f1,f2,f3⟩:=zhB (isAgg:=ag) (sz:=sz) (n:=len) (cs:=(cs.drop off).map aX) (λe=>YI.elim (λh1=>by rw[e] at h1;cases h1) eT) (by rw[RP];omega) (λx hx=>by
   simp only[r7] at hx;obtain⟨y,hy,rfl⟩:=hx;rw[Yj];obtain⟨j,hj⟩:=List.getElem?_of_mem (FR hy)
   exact a2.one j y hj)
  subst hy;cases hr with
  | sr Ak =>
   refine⟨⟨some ⟨g.br b,off,none⟩,YH,by rw[f3],λ_=>⟨_,(arr.toList.drop off).take (len * sz),rfl,?_,λj v hv=>?_⟩⟩,f2,?_⟩
   ·rw[f1];refine⟨?_,λj x hx=>?_,λj x v hx hv=>?_⟩
    ·have:=a2.len;simp at this ⊢;omega
    ·simp only[Bk] at hx;split at hx<;>try (cases hx;done)
     simp only[pH,HN,nq] at hx;obtain⟨y,hy,rfl⟩:=hx;rw[Yj];exact a2.one _ _ hy
    ·simp only[Bk] at hx hv;split at hx<;>try (cases hx;done)
     rename_i hj;rw[if_pos hj] at hv;simp only[pH,HN,nq] at hx hv;obtain⟨y,hy,rfl⟩:=hx;exact(a2.rel _ _ _ hy hv).aX
   ·simp only[Bk] at hv;split at hv<;>try (cases hv;done)
    simp only[HN] at hv;rw[Addr.add_lit,cell_of_row w _ _ arr _ _ a1];simpa using hv
   ·refine qU λy hy=>?_;have nT:∀z∈zL (KG ag sz len ((cs.drop off).map aX)),z.top<=s.H.af.length:=λz hz=>by
     rw[f1] at hz;have:=EZ hz;simp only[r7] at this;obtain⟨u,hu,rfl⟩:=this;rw[dw];exact cR (zk (FR hu)) a3
    cases y with
    | agg us=>exact qU λz hz=>nT z (List.mem_flatMap.2 ⟨_,hy,hz⟩)
    | _=>exact nT _ (List.mem_flatMap.2 ⟨_,hy,HM.2 rfl⟩)
 ·cases hy
end
end Go.Vm
