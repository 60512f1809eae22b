/- The abstract machine Vm: Go data by value, a small heap for variables and maps, an interpreter over the model's own Code. No theorem here; Vm: what an abstract state says of a world; Vm: operands, slots; and what follows from it. Conditions: none but those that each theorem names. -/
import GoSem.Step
import Derived.Calls
import Derived.Laws.AppendOwn
import Derived.Laws.OwnMore
import Derived.Laws.MakeOwn
import Derived.Laws.NewBlocks
import Derived.Laws.Rows
import Derived.Deep.Draws
import Derived.Tactics
import Derived.Laws.Cells
import Derived.Laws.Entries
import Derived.Laws.CopyRow
import Derived.Laws.StructEq
import Derived.Laws.Cover3
import Derived.WalkKit
import Derived.Laws.BytesString
import Derived.Laws.RangeString
import Derived.Laws.IdiomStrings
namespace Go
theorem zAA:∀ {α:Type _} (val val_1:α),(some val=some val_1)=(val=val_1):=@Option.some.injEq
theorem zAB:∀ {α:Type _} {i:Nat} {a:α} {l:List α},l[i]?=some a↔∃ h,l[i]=a:=@List.getElem?_eq_some_iff
theorem zAC:∀ (a b:Bool),((a&&b)=true)=(a=true/\b=true):=@Bool.and_eq_true
theorem zAD:∀ {α:Type _} {β:Type _} (fst:α) (snd:β) (fst_1:α) (snd_1:β),((fst,snd)=(fst_1,snd_1))=(fst=fst_1/\snd=snd_1):=@Prod.mk.injEq
theorem zAE:∀ {α:Type _} (y:α) {a:α} {l:List α},a∈l->a∈y::l:=@List.mem_cons_of_mem
theorem zAF:∀ {α:Type _} {as:List α} {i:Nat} {a:α},List.length (List.set as i a)=List.length as:=@List.length_set
theorem zAG:∀ {α:Type _} {b:α} {α_1:Type _} {x:Option α_1} {f:α_1->Option α},Option.bind x f=some b↔∃ a,x=some a/\f a=some b:=@Option.bind_eq_some_iff
theorem zAH:(false=true)=False:=@Bool.false_eq_true
theorem zAI:∀ {α:Type _} (l:List α),l<+:l:=@List.prefix_refl
theorem zAJ:∀ {n m:Nat},Nat.beq n m=true->n=m:=@Nat.eq_of_beq_eq_true
theorem zAK:∀ {α:Type _} {b:α} {l:List α} {a:α},a∈b::l↔a=b\/a∈l:=@List.mem_cons
theorem zAL:∀ {α:Type _} {a:α} {l:List α},a∈a::l:=@List.mem_cons_self
theorem zAM:∀ {n m k:Nat},n<=m->m<=k->n<=k:=@Nat.le_trans
theorem zAN:∀ {α:Type _} {x:α} {xs:List α} {i:Nat} {a:α},List.set (x::xs) (i+1) a=x::List.set xs i a:=@List.set_cons_succ
theorem zAO:∀ (n:Nat),n<=n:=@Nat.le_refl
theorem zAP:∀ {α:Type _} {l₁ l₂:List α} {i:Nat},List.length l₁<=i->(l₁++l₂)[i]?=l₂[i - List.length l₁]?:=@List.getElem?_append_right
theorem zAQ:∀ {α:Type _} {x:α} {xs:List α} {a:α},List.set (x::xs) 0 a=a::xs:=@List.set_cons_zero
theorem zAR:∀ {α:Type _} {l₁ l₂:List α} {i:Nat},i<List.length l₁->(l₁++l₂)[i]?=l₁[i]?:=@List.getElem?_append_left
theorem zAS:∀ {α:Type _} {l:List α} {i:Nat} (h:i<List.length l),l[i]?=some l[i]:=@List.getElem?_eq_getElem
theorem zAT:∀ {α:Type _} {β:Type _} (a:α) (f:α->Option β),Option.bind (some a) f=f a:=@Option.bind_some
theorem zAU:∀ {α:Type _} {β:Type _} {as:List α} (f:α->β),List.length (List.map f as)=List.length as:=@List.length_map
theorem zAV:∀ {α:Type _} {b:α} {α_1:Type _} {x:Option α_1} {f:α_1->α},Option.map f x=some b↔∃ a,x=some a/\f a=b:=@Option.map_eq_some_iff
theorem zAW:∀ (n:Nat),0<=n:=@Nat.zero_le
theorem zAX:∀ {α:Type _} {i:Nat} {b:α} {xs:Array α},xs[i]?=some b↔∃ h,xs[i]=b:=@Array.getElem?_eq_some_iff
theorem zAY:∀ {α:Type _} {β:Type _} {f:α->β} {l:List α} {i:Nat},(List.map f l)[i]?=Option.map f l[i]?:=@List.getElem?_map
theorem zAZ:∀ (n m:Nat),n<m\/n ≥ m:=@Nat.lt_or_ge
theorem zAa:∀ {α:Type _} {β:Type _} (a:α) (f:α->β),Option.map f (some a)=some (f a):=@Option.map_some
theorem zAb:∀ {α:Type _} {l:List α} {i:Nat} {a:α},l[i]?=some a->a∈l:=@List.mem_of_getElem?
theorem zAc:∀ {α:Type _} (as bs cs:List α),as++bs++cs=as++(bs++cs):=@List.append_assoc
theorem zAd:∀ (n:Nat),Int.toNat ↑n=n:=@Int.toNat_natCast
theorem zAe:∀ (a b:Bool),((a||b)=true)=(a=true\/b=true):=@Bool.or_eq_true
theorem zAf:∀ {n m:Nat},Nat.ble n m=true->n<=m:=@Nat.le_of_ble_eq_true
theorem zAg:(!true)=false:=@Bool.not_true
theorem zAh:∀ {n m k:Nat},n<m->m<=k->n<k:=@Nat.lt_of_lt_of_le
theorem zAi:∀ {α:Type _} {as bs:List α},List.length (as++bs)=List.length as+List.length bs:=@List.length_append
theorem zAj:∀ {α:Type _} {a:α} {as:List α},List.length (a::as)=List.length as+1:=@List.length_cons
theorem zAk:∀ {α:Type _} {l:List α} {i:Nat},List.length l<=i->l[i]?=none:=@List.getElem?_eq_none
theorem zAl:∀ {α:Type _} {l:List α} {i j:Nat} {a:α},(List.set l i a)[j]?=if i=j then if i<List.length l then some a else none else l[j]?:=@List.getElem?_set
theorem zAm:(!false)=true:=@Bool.not_false
theorem zAn:∀ (b:Bool),((!b)=true)=(b=false):=@Bool.not_eq_true'
theorem zAo:∀ {α:Type _} {β:Type _} {b:β} {f:α->β} {l:List α},b∈List.map f l↔∃ a,a∈l/\f a=b:=@List.mem_map
theorem zAp:∀ {α:Type _} {a b:α},a∈[b]↔a=b:=@List.mem_singleton
theorem zAq:∀ {α:Type _} (l₁ l₂:List α),l₁<+:l₁++l₂:=@List.prefix_append
theorem zAr:∀ {α:Type _} {val val_1:α},some val=some val_1->val=val_1:=@Option.some.inj
theorem zAs:∀ {α:Type _} {a b:α},Option.getD (some a) b=a:=@Option.getD_some
theorem zAt:∀ {α:Type _} {a:α} {l:List α},(a::l)[0]?=some a:=@List.getElem?_cons_zero
theorem zAu:∀ (a:Nat),Nat.beq a a=true:=@Nat.beq_refl
theorem zAv:∀ {α:Type _} {xs:Array α},List.length (Array.toList xs)=Array.size xs:=@Array.length_toList
theorem zAw:∀ {α:Type _} {i:Nat} {a:α} {l:List α},a∈List.take i l->a∈l:=@List.mem_of_mem_take
theorem zAx:∀ {α:Type _} {a:α} {as:List α} (bs:List α),a∈as->a∈as++bs:=@List.mem_append_left
theorem zAy:∀ {α:Type _} {xs:Array α} {i:Nat} (h:i<Array.size xs),xs[i]?=some xs[i]:=@Array.getElem?_eq_getElem
theorem zAz:∀ {α:Type _} {β:Type _} {f:α->β} {a:α} {l:List α},List.map f (a::l)=f a::List.map f l:=@List.map_cons
theorem zA0:∀ (n:Nat),0+n=n:=@Nat.zero_add
theorem zA1:∀ {α:Type _} {a:α} {i:Nat} {l:List α},a∈List.drop i l->a∈l:=@List.mem_of_mem_drop
theorem zA2:∀ {α:Type _} {l:List α} {i j:Nat},i ≠ j->∀ {a:α},(List.set l i a)[j]?=l[j]?:=@List.getElem?_set_ne
theorem zA3:∀ {α:Type _} {a:α} {s t:List α},a∈s++t↔a∈s\/a∈t:=@List.mem_append
theorem zA4:∀ {α:Type _} {l:List α} {i j:Nat},(List.take i l)[j]?=if j<i then l[j]? else none:=@List.getElem?_take
theorem zA5:∀ {α:Type _} {s t:List α} (i:Nat) (x:α),List.length s<=i->List.set (s++t) i x=s++List.set t (i - List.length s) x:=@List.set_append_right
theorem zA6:∀ {α:Type _} {a:α} {as bs:List α},a::as++bs=a::(as++bs):=@List.cons_append
theorem zA7:∀ {α:Type _} (as:List α),[]++as=as:=@List.nil_append
theorem zA8:∀ {α:Type _} (i:Nat) (l:List α),List.take i l++List.drop i l=l:=@List.take_append_drop
theorem zA9:∀ {α:Type _} {b:α} (as:List α) {bs:List α},b∈bs->b∈as++bs:=@List.mem_append_right
theorem zBA:∀ {α:Type _} {i:Nat} {l:List α},List.length (List.take i l)=min i (List.length l):=@List.length_take
theorem zBB:∀ {α:Type _} (as:List α),as++[]=as:=@List.append_nil
theorem zBC:∀ {α:Type _} {xs:Array α} {i:Nat},(Array.toList xs)[i]?=xs[i]?:=@Array.getElem?_toList
theorem zBD:∀ (b:Bool),(true&&b)=b:=@Bool.true_and
theorem zBE:∀ (b:Bool),(false||b)=b:=@Bool.false_or
theorem zBF:∀ {α:Type _} {a:α} {i:Nat} {l:List α},(a::l)[i+1]?=l[i]?:=@List.getElem?_cons_succ
theorem zBG:∀ {α:Type _} {β:Type _} {l:List α} {a:α} {f:α->β},a∈l->f a∈List.map f l:=@List.mem_map_of_mem
theorem zBH:∀ {α:Type _} {p:α->Bool} {l:List α},List.all l p=true↔∀ (x:α),x∈l->p x=true:=@List.all_eq_true
theorem zBI:∀ {α:Type _} {a:α},¬a∈[]:=@List.not_mem_nil
theorem zBJ:∀ (n m k:Nat),n+m+k=n+(m+k):=@Nat.add_assoc
theorem zBK:∀ {α:Type _} {β:Type _} {x:α} {xs:List α} {f:α->List β},List.flatMap f (x::xs)=f x++List.flatMap f xs:=@List.flatMap_cons
theorem zBL:∀ (b:Bool),(b&&b)=b:=@Bool.and_self
theorem zBM:∀ (n m k:Nat),(n+m) * k=n * k+m * k:=@Nat.add_mul
theorem zBN:∀ {α:Type _} {i:Nat} {l:List α},List.length l<=i->List.take i l=l:=@List.take_of_length_le
theorem zBO:∀ {a b c:Nat},max a b<=c↔a<=c/\b<=c:=@Nat.max_le
theorem zBP:∀ {α:Type _} {l₁ l₂:List α},(∀ (i:Nat),l₁[i]?=l₂[i]?)->l₁=l₂:=@List.ext_getElem?
theorem zBQ:∀ {α:Type _} {xs:List α} {i j:Nat},(List.drop i xs)[j]?=xs[i+j]?:=@List.getElem?_drop
theorem zBR:∀ {α:Type _} {l:List α} {i:Nat} {a:α},i<List.length l->(List.set l i a)[i]?=some a:=@List.getElem?_set_self
theorem zBS:∀ {α:Type _} {l:List α},List.length l=0↔l=[]:=@List.length_eq_zero_iff
theorem zBT:∀ (a b:Nat),a<=max a b:=@Nat.le_max_left
theorem zBU:∀ {a b:Bool},a=b↔(a=true↔b=true):=@Bool.eq_iff_iff
theorem zBV:∀ {a b:Nat},a<b->a % b=a:=@Nat.mod_eq_of_lt
theorem zBW:∀ {i n:Nat},i<n->(List.range n)[i]?=some i:=@List.getElem?_range
theorem zBX:∀ {n m:Nat},Nat.testBit (2 ^ n) m=decide (n=m):=@Nat.testBit_two_pow
theorem zBY:∀ (b:Bool),(¬b=false)=(b=true):=@Bool.not_eq_false
theorem zBZ:∀ (x y i:Nat),Nat.testBit (x||| y) i=(Nat.testBit x i||Nat.testBit y i):=@Nat.testBit_or
theorem zBa:∀ {n m:Nat},n<=m->Nat.ble n m=true:=@Nat.ble_eq_true_of_le
theorem zBb:∀ {x y:Bool},(x||y)=false↔x=false/\y=false:=@Bool.or_eq_false_iff
theorem zBc:∀ {α:Type _} {l:List α},List.take (List.length l) l=l:=@List.take_length
theorem zBd:∀ {α:Type _} {l:List α},0<List.length l↔l ≠ []:=@List.length_pos_iff
theorem zBe:∀ {α:Type _} {a:α} {n:Nat},List.replicate (n+1) a=a::List.replicate n a:=@List.replicate_succ
theorem zBf:∀ (n:Nat),n+0=n:=@Nat.add_zero
theorem zBg:∀ (b:Bool),(b||false)=b:=@Bool.or_false
theorem zBh:∀ {n m:Nat} (k:Nat),n<=m->n * k<=m * k:=@Nat.mul_le_mul_right
theorem zBi:∀ {m n:Nat},m∈List.range n↔m<n:=@List.mem_range
theorem zBj:∀ (b:Bool),(false&&b)=false:=@Bool.false_and
theorem zBk:∀ (n:Nat),n - n=0:=@Nat.sub_self
theorem zBl:∀ (b:Bool),(b||true)=true:=@Bool.or_true
theorem zBm:∀ (a b:Nat),b<=max a b:=@Nat.le_max_right
theorem zBn:∀ (p:Prop),(p/\True)=p:=@and_true
theorem zBo:∀ {α:Type _} {l:List α},List.drop 0 l=l:=@List.drop_zero
theorem zBp:∀ (b:Bool),(b&&false)=false:=@Bool.and_false
theorem zBq:∀ {x y:Nat},(Nat.blt x y=true)=(x<y):=@Nat.blt_eq
theorem zBr:∀ (b:Bool),(true||b)=true:=@Bool.true_or
theorem zBs:∀ (p:Prop),(p\/False)=p:=@or_false
theorem zBt:∀ {n m:Nat},n<=m->n<=Nat.succ m:=@Nat.le_succ_of_le
theorem zBu:∀ (n:Nat),n<Nat.succ n:=@Nat.lt_succ_self
theorem zBv:∀ (b:Bool),(b&&true)=b:=@Bool.and_true
theorem zBw:∀ (n m:Nat),n+m - n=m:=@Nat.add_sub_cancel_left
theorem zBx:∀ (n:Nat),n=0\/n > 0:=@Nat.eq_zero_or_pos
theorem zBy:(true=false)=False:=@Bool.true_eq_false
theorem zBz:∀ (n:Nat),n * 1=n:=@Nat.mul_one
end Go
namespace Go.Vm
open Go
inductive Own where
 |no|yes (e:TypeId)|lock
 deriving DecidableEq,Inhabited
inductive V where
 |bool (b:Bool)
 |int (k:IntKind) (n:Int)
 |str (s:List Nat)
 |nilp|ptr (b off:Nat)|gptr (g off:Nat)|obj (k:Nat)|vp (cs:List V)
 |snil|sl (sz:Nat) (xs:List V) (o:Own)|sr (b off len cap:Nat)
 |nilm|map (b:Nat)
 |nilf|fn (f:Fn) (first cap:List V)
 |nili|ifc (t:TypeId) (v:V)
 |ulr (b u len:Nat)|ulp (b u k:Nat)
 |agg (cs:List V)
 |tup (vs:List V)
 |junk
 deriving Inhabited
def okC:V->Bool
 | .tup _|.junk=>false
 | _=>true
def V.cells:V->List V
 | .agg cs=>cs
 | v=>[v]
def clr:V->V
 | .sl sz xs _=>.sl sz xs .no
 | v=>v
def V.laid:V->List V
 | .agg cs=>cs.map clr
 | v=>[v]
mutual
def V.top:V->Nat
 | .ptr b _|.sr b _ _ _|.map b=>b+1
 | .ulr b _ _|.ulp b _ _=>b+1
 | .vp cs|.sl _ cs _|.agg cs|.tup cs=>tops cs
 | .fn _ a c=>max (tops a) (tops c)
 | .ifc _ v=>v.top
 | _=>0
def tops:List V->Nat
 | []=>0
 | v::vs=>max v.top (tops vs)
end
def nth {α:Type}:List α->Nat->Option α
 | [],_=>none
 | x::_,0=>some x
 | _::xs,n+1=>nth xs n
def jM {β:Type} (n:Nat) (k:Nat->β):β :=
 match n with
 | 0=>k 0
 | m+1=>k (m+1)
def zpZ {β:Type} (n:Int) (k:Int->β):β :=
 match n with
 | .ofNat m=>jM m fun m=>k (.ofNat m)
 | .negSucc m=>jM m fun m=>k (.negSucc m)
def zjJ {β:Type}:List Nat->(List Nat->β)->β
 | [],k=>k []
 | x::xs,k=>jM x fun x=>zjJ xs fun ys=>k (x::ys)
def fL {α β:Type}:List α->(List α->β)->β
 | [],k=>k []
 | x::xs,k=>fL xs fun ys=>k (x::ys)
def fC {β:Type} (v:V) (k:V->β):β :=
 match v with
 | .bool true=>k (.bool true)
 | .bool false=>k (.bool false)
 | .int kd n=>zpZ n fun n=>k (.int kd n)
 | .str s=>zjJ s fun s=>k (.str s)
 | .ptr b o=>jM b fun b=>jM o fun o=>k (.ptr b o)
 | .sr b o n c=>jM b fun b=>jM o fun o=>jM n fun n=>jM c fun c=>k (.sr b o n c)
 | .map b=>jM b fun b=>k (.map b)
 | .ulr b u n=>jM b fun b=>jM u fun u=>jM n fun n=>k (.ulr b u n)
 | .ulp b u j=>jM b fun b=>jM u fun u=>jM j fun j=>k (.ulp b u j)
 | .sl sz xs o=>fL xs fun xs=>k (.sl sz xs o)
 | .vp cs=>fL cs fun cs=>k (.vp cs)
 | v=>k v
def fCs {β:Type}:List V->(List V->β)->β
 | [],k=>k []
 | x::xs,k=>fC x fun x=>fCs xs fun ys=>k (x::ys)
def fV {β:Type} (v:V) (k:V->β):β :=
 match v with
 | .agg cs=>fCs cs fun cs=>k (.agg cs)
 | .tup cs=>fCs cs fun cs=>k (.tup cs)
 | .fn f a c=>fCs a fun a=>fCs c fun c=>k (.fn f a c)
 | v=>fC v k
def zg5 {α β:Type}:List α->Nat->α->(List α->β)->β
 | [],_,_,k=>k []
 | _::xs,0,v,k=>k (v::xs)
 | x::xs,n+1,v,k=>zg5 xs n v fun ys=>k (x::ys)
inductive Blk where
 |cells (cs:List V) (t:TypeId)
 |map (es:List (V×V))
 |iter (s:List Nat) (pos:Nat)
 |ul (ver sz:Nat) (cs:List V) (e:TypeId)
 deriving Inhabited
structure Hp where
 blks:List Blk
 edges:List (Nat×Nat)
 deriving Inhabited
def Hp.push (H:Hp) (b:Blk):Hp:={ H with blks:=H.blks++[b] }
def Hp.get (H:Hp) (b:Nat):Option Blk:=nth H.blks b
def Hp.set (H:Hp) (b:Nat) (x:Blk):Hp:={ H with blks:=H.blks.set b x }
def Hp.edge (H:Hp) (b:Nat) (v:V):Hp:=if v.top<=b+1 then H else { H with edges:=(b,v.top)::H.edges }
inductive Out where
 |ret (v:V)
 |pan (v:V)
inductive Ex where
 |normal|exit (id:Nat)|goto (l:Nat)|ret|pan (v:V)
inductive OR where
 |val (v:V)
 |skip
 |pan (v:V)
def oneV:V->Bool
 | .agg _|.tup _|.junk=>false
 | _=>true
mutual
def ofVal:Value->Option V
 | .bool b=>some (.bool b)
 | .int k n=>some (.int k n)
 | .string s=>some (.str (s.data.toList.map UInt8.toNat))
 | .pointer none=>some .nilp
 | .slice none 0 0=>some .snil
 | .map none=>some .nilm
 | .nilFunc=>some .nilf
 | .func f ⟨[]⟩ ⟨[]⟩=>some (.fn f [] [])
 | .nilIface=>some .nili
 | .agg ⟨cs⟩=>(ofVals cs).bind fun l=>if l.all oneV then some (.agg l) else none
 | .tuple ⟨[]⟩=>some (.tup [])
 | _=>none
def ofVals:List Value->Option (List V)
 | []=>some []
 | v::vs=>match ofVal v,ofVals vs with
  | some x,some xs=>some (x::xs)
  | _,_=>none
end
section
variable (P:Program)
def zy (t:TypeId):Option Nat:=(P.info? t).map (·.size)
def qC (t:TypeId):Option Bool:=(P.underlying t).map fun|.struct _|.array _ _=>true|_=>false
def zU (t:TypeId):Option V:=(P.info? t).bind fun i=>i.zero.bind ofVal
def qq (t:TypeId) (cs:List V) (off:Nat):Option V:=do
 if <- qC P t then
  let n <- zy P t
  if off+n<=cs.length then some (.agg ((cs.drop off).take n)) else none
 else nth cs off
def xo (isAgg:Bool) (sz:Nat):Nat->List V->List V
 | 0,_=>[]
 | n+1,cs=>(if isAgg then .agg (cs.take sz) else cs.headD .junk)::xo isAgg sz n (cs.drop sz)
def jv (H:Hp) (elem:TypeId):V->Option (List V)
 | .snil=>some []
 | .sl sz xs _=>do
  let n <- zy P elem
  if n=sz then some xs else none
 | .sr b off len _=>do
  let .cells cs _ <- H.get b|none
  let n <- zy P elem
  let ag <- qC P elem
  if Nat.ble (off+len * n) cs.length && (ag || Nat.beq n 1) then some (xo ag n len ((cs.drop off).map clr)) else none
 | _=>none
def bytesA:List V->Option (List Nat)
 | []=>some []
 | .int .u8 n::r=>(bytesA r).map ((n.toNat % 256)::·)
 | _=>none
def eqL:List Nat->List Nat->Bool
 | [],[]=>true
 | a::x,b::y=>Nat.beq a b && eqL x y
 | _,_=>false
def ltL:List Nat->List Nat->Bool
 | _,[]=>false
 | [],_::_=>true
 | a::x,b::y=>Nat.blt a b || (Nat.beq a b && ltL x y)
def ziJ (eq:TypeId->V->V->Option Bool):List Field->List V->List V->Option Bool
 | [],_,_=>some true
 | f::fs,xs,ys =>
  if f.name= "_" then none else do
   let a <- qq P f.type xs f.offset
   let b <- qq P f.type ys f.offset
   if <- eq f.type a b then ziJ eq fs xs ys else some false
def ziK (eq:TypeId->V->V->Option Bool) (e:TypeId) (n:Nat) (xs ys:List V):Nat->Nat->Option Bool
 | _,0=>some true
 | i,k+1=>do
  let a <- qq P e xs (i * n)
  let b <- qq P e ys (i * n)
  if <- eq e a b then ziK eq e n xs ys (i+1) k else some false
def eqS (ds:TypeDesc) (x y:V):Option Bool :=
 match ds with
 | .bool=>match x,y with
  | .bool a,.bool b=>some (a == b)
  | _,_=>none
 | .int _=>match x,y with
  | .int k a,.int k' b=>if k=k' then some (a == b) else none
  | _,_=>none
 | .string=>match x,y with
  | .str a,.str b=>some (eqL a b)
  | _,_=>none
 | .pointer _=>match x,y with
  | .nilp,.nilp=>some true
  | .nilp,.ptr _ _=>some false
  | .ptr _ _,.nilp=>some false
  | .nilp,.obj _=>some false
  | .obj _,.nilp=>some false
  | _,_=>none
 | .interface _=>match x,y with
  | .nili,.nili=>some true
  | .nili,.ifc _ _=>some false
  | .ifc _ _,.nili=>some false
  | .ifc tx _,.ifc ty _=>if tx=ty then none else some false
  | _,_=>none
 | .slice _=>match x,y with
  | .snil,.snil=>some true
  | .snil,.sl _ (_::_) _=>some false
  | .sl _ (_::_) _,.snil=>some false
  | .snil,.sr _ _ _ _=>some false
  | .sr _ _ _ _,.snil=>some false
  | _,_=>none
 | .map _ _=>match x,y with
  | .nilm,.nilm=>some true
  | .nilm,.map _=>some false
  | .map _,.nilm=>some false
  | _,_=>none
 | .func _ _ _=>match x,y with
  | .nilf,.nilf=>some true
  | .nilf,.fn _ _ _=>some false
  | .fn _ _ _,.nilf=>some false
  | _,_=>none
 | _=>none
def eqA:Nat->TypeId->V->V->Option Bool
 | 0,_,_,_=>none
 | d+1,t,x,y=>match P.underlying t with
  | none=>none
  | some ds=>match x,y with
   | .agg xs,.agg ys=>match ds with
    | .struct fs=>if P.stoodInHeld t then none else ziJ P (eqA d) fs.toList xs ys
    | .array len e=>match zy P e with
     | some n=>ziK P (eqA d) e n xs ys 0 len
     | none=>none
    | _=>none
   | x,y=>eqS ds x y
def isConst:Operand->Bool
 | .const _=>true
 | _=>false
def jp (t:TypeId) (x y:Operand) (u v:V):Bool :=
 match u,v with
 | .nili,.nili=>isConst x || isConst y
 | .agg _,.agg _=>!P.eqGuardType P.depth t
 | .junk,_=>false
 | _,.junk=>false
 | _,_=>true
def zM (op:BinOp) (t:TypeId) (x y:Operand) (u v:V):Bool :=
 match op with
 | .eql=>jp P t x y u v
 | .neq=>jp P t x y u v
 | _=>true
def zb2 (op:BinOp) (k:IntKind) (x y:Int):Option V :=
 if y<0 then none else
 let n:=min y.toNat k.bits
 match op with
 | .shl=>some (.int k (k.wrap (x * 2 ^ n)))
 | .shr=>some (.int k (x.fdiv (2 ^ n)))
 | _=>none
def ql (op:BinOp) (k:IntKind) (x y:Int):Option V :=
 match op with
 | .add=>some (.int k (k.wrap (x+y)))
 | .sub=>some (.int k (k.wrap (x - y)))
 | .mul=>some (.int k (k.wrap (x * y)))
 | .quo=>if y=0 then none else some (.int k (k.wrap (x.tdiv y)))
 | .rem=>if y=0 then none else some (.int k (x.tmod y))
 | .and=>some (.int k (k.wrap ((BitVec.ofInt k.bits x &&& BitVec.ofInt k.bits y).toNat)))
 | .or=>some (.int k (k.wrap ((BitVec.ofInt k.bits x ||| BitVec.ofInt k.bits y).toNat)))
 | .xor=>some (.int k (k.wrap ((BitVec.ofInt k.bits x ^^^ BitVec.ofInt k.bits y).toNat)))
 | .andNot=>some (.int k (k.wrap ((BitVec.ofInt k.bits x &&& ~~~ (BitVec.ofInt k.bits y)).toNat)))
 | .eql=>some (.bool (x == y))
 | .neq=>some (.bool (x != y))
 | .lss=>some (.bool (x<y))
 | .leq=>some (.bool (x<=y))
 | .gtr=>some (.bool (x > y))
 | .geq=>some (.bool (x ≥ y))
 | _=>none
def zb3 (op:BinOp) (x y:List Nat):Option V :=
 match op with
 | .add=>if x.length+y.length<=140737488355328 then some (.str (x++y)) else none
 | .eql=>some (.bool (eqL x y))
 | .neq=>some (.bool !(eqL x y))
 | .lss=>some (.bool (ltL x y))
 | .leq=>some (.bool (ltL x y || eqL x y))
 | .gtr=>some (.bool !(ltL x y || eqL x y))
 | .geq=>some (.bool !(ltL x y))
 | _=>none
def ja (op:BinOp) (t:TypeId) (x y:V):Option V :=
 match op,x,y with
 | .shl,.int k a,.int _ b|.shr,.int k a,.int _ b=>zb2 op k a b
 | _,.int k a,.int k' b=>if k=k' then ql op k a b else none
 | _,.str a,.str b=>zb3 op a b
 | .eql,x,y=>(eqA P 100 t x y).map .bool
 | .neq,x,y=>(eqA P 100 t x y).map fun b=>.bool !b
 | _,_,_=>none
def unA (op:UnOp) (x:V):Option V :=
 match op,x with
 | .neg,.int k n=>some (.int k (k.wrap (0 - n)))
 | .xor,.int k n=>ql .xor k (if k.signed then -1 else k.max) n
 | .not,.bool b=>some (.bool !b)
 | _,_=>none
def jx (src dst:TypeId) (x:V):Option V:=do
 match <- P.underlying src,<- P.underlying dst,x with
 | _,.int k,.int _ n=>some (.int k (k.wrap n))
 | _,.string,.int _ n=>some (.str ((Utf8.encode n).data.toList.map UInt8.toNat))
 | _,.string,.str s=>some (.str s)
 | .slice e,.string,.snil=>do
  let .int .u8 <- P.underlying e|none
  some (.str [])
 | .slice e,.string,.sl 1 xs _=>do
  let .int .u8 <- P.underlying e|none
  (bytesA xs).map .str
 | .string,.slice e,.str s=>do
  let .int .u8 <- P.underlying e|none
  some (.sl 1 (s.map fun (b:Nat)=>.int .u8 b) .no)
 | _,_,_=>none
def z8 (v:Option V) (d:Nat):Option Nat :=
 match v with
 | none=>some d
 | some (.int _ n)=>if 0<=n then some n.toNat else none
 | _=>none
def kU (t:TypeId) (x:V) (lo hi:Option V):Option V:=do
 match <- P.underlying t,x with
 | .string,.str s=>do
  let h <- z8 hi s.length
  let l <- z8 lo 0
  if l<=h/\h<=s.length then some (.str ((s.take h).drop l)) else none
 | .slice e,.sl sz xs _=>do
  let h <- z8 hi xs.length
  let l <- z8 lo 0
  let n <- zy P e
  if l<=h/\h<=xs.length/\n=sz then some (.sl sz ((xs.take h).drop l) .no) else none
 | .slice e,.snil=>do
  let h <- z8 hi 0
  let l <- z8 lo 0
  let _ <- zy P e
  if l=0/\h=0 then some .snil else none
 | .slice e,.sr b off len cap=>do
  let h <- z8 hi len
  let l <- z8 lo 0
  let n <- zy P e
  if l<=h/\h<=cap/\l<cap then some (.sr b (off+l * n) (h - l) (cap - l)) else
  if l=h/\h<=cap then some (.sl n [] .no) else none
 | _,_=>none
def zn (H:Hp) (gl:Nat->Nat->Option V) (t:TypeId) (a:V):Option V:=do
 match a with
 | .ptr b off=>do
  let .cells cs _ <- H.get b|none
  qq P t cs off
 | .vp cs=>qq P t cs 0
 | .ulp b u k=>do
  let .ul ver _ cs _ <- H.get b|none
  if Nat.beq ver u then qq P t cs k else none
 | .gptr g off=>if <- qC P t then none else gl g off
 | _=>none
def zg6 (a b:V):Option Bool :=
 match a,b with
 | .int k x,.int k' y=>if k=k' then some (x == y) else none
 | .str x,.str y=>some (eqL x y)
 | .bool x,.bool y=>some (x == y)
 | _,_=>none
def wH (ds:TypeDesc) (k:V):Bool :=
 match ds,k with
 | .int _,.int _ _=>true
 | .string,.str _=>true
 | .bool,.bool _=>true
 | _,_=>false
def zcE (k:V):List (V×V)->Option (Option V)
 | []=>some none
 | (a,v)::r=>match zg6 k a with
  | some true=>some (some v)
  | some false=>zcE k r
  | none=>none
def zfK (k x:V):List (V×V)->Option (List (V×V))
 | []=>some [(k,x)]
 | (a,v)::r=>match zg6 k a with
  | some true=>some ((k,x)::r)
  | some false=>(zfK k x r).map ((a,v)::·)
  | none=>none
def za8 (l:List Nat):Nat×Nat :=
 let at' (k:Nat):Nat:=l.getD k 0
 let cont (k:Nat):Bool:=Nat.blt k l.length && Nat.beq (at' k / 64) 2
 let b0:=at' 0
 if b0<0x80 then (b0,1)
 else if b0 / 32 == 6 && cont 1 then
  let c:=(b0 % 32) * 64+at' 1 % 64
  if c ≥ 0x80 then (c,2) else (Utf8.runeError,1)
 else if b0 / 16 == 14 && cont 1 && cont 2 then
  let c:=(b0 % 16) * 4096+(at' 1 % 64) * 64+at' 2 % 64
  if c ≥ 0x800 && Utf8.valid c then (c,3) else (Utf8.runeError,1)
 else if b0 / 8 == 30 && cont 1 && cont 2 && cont 3 then
  let c:=(b0 % 8) * 262144+(at' 1 % 64) * 4096+(at' 2 % 64) * 64+at' 3 % 64
  if c ≥ 0x10000 && Utf8.valid c then (c,4) else (Utf8.runeError,1)
 else (Utf8.runeError,1)
def zfL (t:TypeId) (v:V) (name:String):Option (FuncId×V):=do
 let i <- P.info? t
 let m <- i.methods.find? (·.name == name)
 if !m.path.isEmpty then none else
 let (f,pr) <- m.func
 match <- P.underlying t,pr with
 | .pointer _,true=>some (f,v)
 | .pointer _,false=>none
 | _,true=>none
 | _,false=>some (f,v)
def storeCells {α:Type} (cs:List α) (off:Nat):List α->List α
 | []=>cs
 | v::vs=>storeCells (cs.set off v) (off+1) vs
def locked:V->Bool
 | .sl _ _ .lock=>true
 | _=>false
def zl1 (name:String) (args:List V):Option V :=
 match name,args with
 | "internal/bytealg.IndexByteString",[.str s,.int .u8 c]=>if 0<=c/\c<256 then some (.int .i64 (match s.findIdx? (fun (b:Nat)=>Nat.beq b c.toNat) with|some i=>i|none=>-1)) else none
 | _,_=>none
end
def handsBack:List Oper->List Tmp
 | [a,b]=>match a.dst,b.dst,b.op with
  | some k,some r,.assign (.tmp x)=>match Nat.beq k 19 && Nat.beq x 19 && Nat.beq r 2 with
   | true=>[k]
   | false=>[]
  | _,_,_=>[]
 | _=>[]
def cutsFront:List Oper->List Tmp
 | [a,b,c]=>match a.dst,a.op,b.dst,b.op,c.op with
  | some k,.load _ _,some r,.slice _ (.tmp x) (some _) none none,.store _ _ (.tmp y)=>match Nat.beq k x && Nat.beq r y with
   | true=>[k,1048576+k]
   | false=>[]
  | _,_,_,_,_=>[]
 | _=>[]
def qb (ops:Array Oper):List Tmp :=
 (ops.toList.filterMap fun o=>match o.op with
  | .call { callee:=.builtin .append,args,.. }=>match (args[0]?:Option Operand) with
   | some (.tmp t)=>some t
   | _=>none
  | _=>none)++handsBack ops.toList++cutsFront ops.toList
structure Cx where
 P:Program
 gl:Nat->Nat->Option V
 call:FuncId->List V->Hp->Option (Out×Hp)
 uq:TypeId->Bool
def peek (env:List V):Operand->Option V
 | .tmp t=>match nth env t with
  | some v=>some (clr v)
  | none=>none
 | .const v=>ofVal v
 | .global g=>some (.gptr g 0)
 | .func f=>some (.fn (.func f) [] [])
def peekO (env:List V):Option Operand->Option (Option V)
 | none=>some none
 | some x=>match peek env x with
  | some v=>some (some v)
  | none=>none
def take (env:List V):Operand->Option (V×List V)
 | .tmp t=>match nth env t with
  | some (.sl sz xs (.yes e))=>zg5 env t (.sl sz xs .no) fun env=>some (.sl sz xs (.yes e),env)
  | some v=>some (clr v,env)
  | none=>none
 | x=>(peek env x).map (·,env)
def peeks (env:List V):List Operand->Option (List V)
 | []=>some []
 | x::xs=>match peek env x with
  | none=>none
  | some v=>fV v fun v=>match peeks env xs with
   | none=>none
   | some vs=>some (v::vs)
structure St where
 env:List V
 H:Hp
 lk:List (Nat×Nat)
 defers:List (V×List V)
def zaE {β:Type} (H:Hp) (b:Blk) (k:Nat->Hp->β):β :=
 match H with
 | ⟨bs,es⟩=>jM bs.length fun n=>fL (bs++[b]) fun bs=>k n ⟨bs,es⟩
def zdq {β:Type} (H:Hp) (b:Nat) (x:Blk) (v:V) (k:Hp->β):β :=
 match H with
 | ⟨bs,es⟩=>zg5 bs b x fun bs=>if v.top<=b+1 then k ⟨bs,es⟩ else jM v.top fun t=>k ⟨bs,(b,t)::es⟩
def orOf:Out×Hp->OR×Hp
 | (.ret v,H)=>(.val v,H)
 | (.pan v,H)=>(.pan v,H)
def Cx.callF (cx:Cx) (f:FuncId) (args:List V) (H:Hp):Option (OR×Hp) :=
 match cx.P.funcs[f]? with
 | none=>none
 | some fn=>match fn.body with
  | none=>match zl1 fn.name args with
   | none=>none
   | some v=>some (.val v,H)
  | some _=>match cx.call f args H with
   | none=>none
   | some r=>some (orOf r)
def Cx.callV (cx:Cx) (fv:V) (args:List V) (H:Hp):Option (OR×Hp) :=
 match fv with
 | .fn (.func f) first cap=>fL ((first++args++cap).map clr) fun args=>cx.callF f args H
 | .fn (.method name) first _ =>
  match first++args with
  | .ifc t v::rest=>match zfL cx.P t v name with
   | none=>none
   | some (f,r)=>fL ((r::rest).map clr) fun args=>cx.callF f args H
  | _=>none
 | _=>none
def qG (n bytes:Nat):Bool:=Nat.ble n 140737488355328 && Nat.ble (n * bytes) 140737488355328
def zV (P:Program) (H:Hp) (t:TypeId) (v y:V):Option V:=do
 let .slice e <- P.underlying t|none
 let n <- zy P e
 let i <- P.info? e
 let z <- i.zero
 if !Nat.beq z.cells.size n then none else
 let ys <- jv P H e y
 match v with
 | .snil=>match ys with
  | []=>some .snil
  | ys=>if qG ys.length i.bytes && !Nat.beq n 0 then some (.sl n ys (.yes e)) else none
 | .sl sz xs (.yes e')=>if Nat.beq e e' && Nat.beq n sz && !Nat.beq n 0 && qG (xs.length+ys.length) i.bytes then some (.sl n (xs++ys) (.yes e)) else none
 | _=>none
def qH (P:Program) (H:Hp) (t:TypeId) (v:V):Option Int :=
 match P.underlying t,v with
 | some .string,.str l=>some l.length
 | some (.slice _),.snil=>some 0
 | some (.slice _),.sl _ xs _=>some xs.length
 | some (.slice _),.sr _ _ n _=>some n
 | some (.slice _),.ulr _ _ n=>some n
 | some (.map _ _),.nilm=>some 0
 | some (.map _ _),.map b=>match H.get b with
  | some (.map es)=>some es.length
  | _=>none
 | _,_=>none
def Cx.builtin (cx:Cx) (b:Builtin) (argTypes:Array TypeId) (args:Array Operand) (env:List V) (H:Hp):Option (OR×List V) :=
 match b,args.toList,argTypes.toList with
 | .len,[x],[t]=>do some (.val (.int .i64 (<- qH cx.P H t (<- peek env x))),env)
 | .append,[x,y],[t,u]=>do
  if !Nat.beq t u then none else
  let y <- peek env y
  let (v,env) <- take env x
  some (.val (<- zV cx.P H t v y),env)
 | .min,[x,y],_=>do
  match <- peek env x,<- peek env y with
  | .int k a,.int _ b=>some (.val (.int k (if b<a then b else a)),env)
  | _,_=>none
 | .max,[x,y],_=>do
  match <- peek env x,<- peek env y with
  | .int k a,.int _ b=>some (.val (.int k (if b > a then b else a)),env)
  | _,_=>none
 | _,_,_=>none
def xp (cells:List V) (place:Nat->Option (Nat×Nat)) (env:List V):List (Nat×Operand)->Option (List V)
 | []=>some cells
 | (i,x)::r=>do
  let v <- peek env x
  let (off,n) <- place i
  if okC v && Nat.beq v.cells.length n && Nat.ble (off+n) cells.length then xp (storeCells cells off v.cells) place env r else none
def zfM (P:Program) (fs:Array Field):Option (List (Nat×Nat)):=fs.toList.mapM (fun f=>(P.info? f.type).map fun i=>(f.offset,i.size))
def kV (P:Program) (t:TypeId) (parts:Array (Nat×Operand)) (env:List V):Option V :=
 match zU P t with
 | none=>none
 | some z=>if !okC z then none else match P.underlying t with
  | some (.struct fs)=>match zfM P fs with
   | some ps=>(xp z.cells (nth ps) env parts.toList).map .agg
   | none=>none
  | some (.array _ e)=>match P.info? e with
   | some ie=>(xp z.cells (fun i=>some (i * ie.size,ie.size)) env parts.toList).map .agg
   | none=>none
  | _=>none
def za9 (n len:Nat) (env:List V):List V->List (Nat×Operand)->Option (List V)
 | xs,[]=>some xs
 | xs,(i,x)::r=>do
  let v <- peek env x
  if okC v && Nat.beq v.cells.length n && Nat.blt i len then fV v fun v=>zg5 xs i v fun xs=>za9 n len env xs r else none
def zeY (P:Program) (t:TypeId) (k:V):Bool :=
 match P.underlying t with
 | some (.map kt _)=>match P.underlying kt with
  | some kd=>wH kd k
  | none=>false
 | _=>false
def zr (P:Program) (t:TypeId) (x:V) (i:Int):Option V :=
 match P.underlying t with
 | some (.array len e)=>match zy P e with
  | none=>none
  | some n=>match x with
   | .ptr b off=>if 0<=i/\i<len then some (.ptr b (off+i.toNat * n)) else none
   | .gptr g off=>if 0<=i/\i<len then some (.gptr g (off+i.toNat * n)) else none
   | .ulp b u k=>if 0<=i/\i<len then some (.ulp b u (k+i.toNat * n)) else none
   | .vp cs=>if 0<=i/\i<len then some (.vp (cs.drop (i.toNat * n))) else none
   | _=>none
 | some (.slice e)=>match zy P e with
  | none=>none
  | some n=>match x with
   | .sl sz xs _=>if Nat.beq n sz then (if i<0 then none else match nth xs i.toNat with
    | some x=>some (.vp x.cells)
    | none=>none) else none
   | .sr b off len _=>if 0<=i/\i<len then some (.ptr b (off+i.toNat * n)) else none
   | .ulr b u len=>if 0<=i/\i<len then some (.ulp b u (i.toNat * n)) else none
   | _=>none
 | _=>none
def xq (P:Program) (t:TypeId) (x:V) (i:Int):Option V :=
 match P.underlying t with
 | some (.array len e)=>match zy P e with
  | none=>none
  | some n=>match x with
   | .agg cs=>if 0<=i/\i<len then (qq P e cs (i.toNat * n)).map clr else none
   | _=>none
 | some .string=>match x with
  | .str l=>if i<0 then none else match nth l i.toNat with
   | some b=>some (.int .u8 b)
   | none=>none
  | _=>none
 | _=>none
def derefA:V->Option V
 | .ptr b o=>some (.ptr b o)
 | .gptr b o=>some (.gptr b o)
 | .ulp b u k=>some (.ulp b u k)
 | .vp cs=>some (.vp cs)
 | .obj k=>some (.obj k)
 | .fn (.func f) a c=>some (.fn (.func f) a c)
 | .ifc t v=>some (.ifc t v)
 | _=>none
def zdr (P:Program) (t:TypeId):Bool :=
 match P.underlying t with
 | none=>true
 | some (.interface _)=>true
 | _=>false
def yl (H:Hp):V->Option (List (V×V))
 | .nilm=>some []
 | .map b=>match H.get b with
  | some (.map es)=>some es
  | _=>none
 | _=>none
def zb4 (P:Program) (e:TypeId) (k:V) (es:List (V×V)):Option (V×Bool) :=
 match zcE k es with
 | some (some v)=>some (v,true)
 | some none=>(zU P e).map (·,false)
 | none=>none
def ziL (P:Program) (H:Hp) (a:TypeId) (v:V):Option V :=
 match P.underlying a,v with
 | some (.slice e),.sr b o l c=>match jv P H e (.sr b o l c) with
  | some xs=>some (.sl 1 xs .no)
  | none=>none
 | _,v=>some v
def kb (a:TypeId):TypeId:=549755813888+a
def xr (P:Program) (H:Hp) (a b:TypeId) (v:Option V):Option V :=
 match v with
 | none=>none
 | some v=>match ziL P H a v with
  | none=>none
  | some v=>jx P a b v
def zD (P:Program) (gl:Nat->Nat->Option V) (o:Oper) (env:List V) (H:Hp):Option V:=do
 let ρ:=peek env
 match o.op with
 | .move x=>ρ x
 | .pick c a b=>do
  let .bool t <- ρ c|none
  match t with
  | true=>ρ a
  | false=>ρ b
 | .build t parts=>kV P t parts env
 | .buildSlice t len parts=>do
  let .slice e <- P.underlying t|none
  let n <- zy P e
  let z <- zU P e
  if Nat.beq n 0 || Nat.blt 16777216 (len * n) || !Nat.beq z.cells.length n || !okC z then none else
  let xs <- za9 n len env (List.replicate len z) parts.toList
  some (.sl n xs (.yes e))
 | .load t a=>do
  let v <- zn P H gl t (<- ρ a)
  some (clr v)
 | .nilCheck x=>do
  derefA (<- ρ x)
 | .binOp op t x y _=>do
  let u <- ρ x
  let v <- ρ y
  if zM P op t x y u v then ja P op t u v else none
 | .unOp op _ x=>do unA op (<- ρ x)
 | .convert a b x=>do jx P a b (<- ρ x)
 | .makeInterface t x=>do
  let v <- ρ x
  if zdr P t then none else some (.ifc t v)
 | .makeFunc fn first cap=>do some (.fn fn (<- peeks env first.toList) (<- peeks env cap.toList))
 | .slice t x lo hi mx=>do
  let lo' <- peekO env lo
  let hi' <- peekO env hi
  let v <- ρ x
  match mx with
  | none=>kU P t v lo' hi'
  | some m=>match <- ρ m,v,hi' with
   | .int _ k,.sl sz xs o,some (.int _ h)=>if h<=k/\k<=xs.length then kU P t (.sl sz xs o) lo' hi' else none
   | _,_,_=>none
 | .fieldAddr t x f=>do
  let .struct fs <- P.underlying t|none
  let fd <- fs[f]?
  if Nat.beq (<- zy P fd.type) 0 then none else
  match <- ρ x with
  | .ptr b off=>some (.ptr b (off+fd.offset))
  | .gptr g off=>some (.gptr g (off+fd.offset))
  | .ulp b u k=>some (.ulp b u (k+fd.offset))
  | .vp cs=>some (.vp (cs.drop fd.offset))
  | _=>none
 | .field t x f=>do
  let .struct fs <- P.underlying t|none
  let fd <- fs[f]?
  let .agg cs <- ρ x|none
  (qq P fd.type cs fd.offset).map clr
 | .indexAddr t x ix=>do
  let .int _ i <- ρ ix|none
  zr P t (<- ρ x) i
 | .index t x ix=>do
  let .int _ i <- ρ ix|none
  xq P t (<- ρ x) i
 | .lookup t m k ok=>do
  let .map kt e <- P.underlying t|none
  let kd <- P.underlying kt
  let k <- ρ k
  if !wH kd k then none else
  let es <- yl H (<- ρ m)
  let (v,f) <- zb4 P e k es
  some (if ok then .tup [clr v,.bool f] else clr v)
 | .typeAssert x _ t ok=>do
  if zdr P t then none else
  match <- ρ x with
  | .nili=>if ok then do some (.tup [<- zU P t,.bool false]) else none
  | .ifc u v=>if Nat.beq u t then some (if ok then .tup [clr v,.bool true] else clr v) else if ok then do some (.tup [<- zU P t,.bool false]) else none
  | _=>none
 | .extract x i=>do
  let .tup vs <- ρ x|none
  match nth vs i with
  | some v=>some (clr v)
  | none=>none
 | _=>none
def kQ (lk:List (Nat×Nat)) (b:Nat):Nat->Nat->List V->Bool
 | _,0,_=>true
 | _,_,[]=>false
 | off,n+1,c::cs=>(!locked c || lk.any fun p=>Nat.beq p.1 b && Nat.beq p.2 off) && kQ lk b (off+1) n cs
def flatV:List V->List V
 | []=>[]
 | v::vs=>v.cells++flatV vs
def uqT (P:Program) (uq:TypeId->Bool) (t:TypeId):Bool :=
 match P.underlying t with
 | some (.slice e)=>uq e
 | _=>false
def jO (P:Program) (a b:TypeId) (x:Operand) (env:List V):Option (V×List V) :=
 match Nat.beq a b,P.underlying a with
 | true,some (.slice e)=>match P.underlying e,take env x with
  | some (.int .u8),some (.sl sz (y::ys) (.yes _),env)=>some (.sl sz (y::ys) .no,env)
  | _,_=>none
 | _,_=>none
def yI (takes:List Tmp) (x:Operand) (lo hi:Option Operand):Bool :=
 match x,lo,hi with
 | .tmp k,some _,none=>takes.any (Nat.beq (1048576+k))
 | _,_,_=>false
def zaN (P:Program) (t:TypeId) (x:Operand) (lo:Option Operand) (env:List V):Option (V×List V) :=
 match P.underlying t,take env x,peekO env lo with
 | some (.slice e'),some (.sl sz xs (.yes e),env),some (some (.int _ i))=>match zy P e' with
  | some n=>match Nat.beq n sz && decide (0<=i) && Nat.ble i.toNat xs.length with
   | true=>some (.sl sz (xs.drop i.toNat) (.yes e),env)
   | false=>none
  | none=>none
 | _,_,_=>none
def Cx.appendU (cx:Cx) (t:TypeId) (x y:Operand) (env:List V) (H:Hp) (lk:List (Nat×Nat)) (df:List (V×List V)):Option (OR×St):=do
 let .slice e <- cx.P.underlying t|none
 let n <- zy cx.P e
 let i <- cx.P.info? e
 let z <- i.zero
 let ys <- jv cx.P H e (<- peek env y)
 if !Nat.beq z.cells.size n || Nat.beq n 0 then none else
 match <- peek env x with
 | .snil=>match ys with
  | []=>some (.val .snil,⟨env,H,lk,df⟩)
  | _=>if qG ys.length i.bytes then fCs (flatV ys) fun cs=>jM ys.length fun len=>zaE H (.ul 0 n cs e) fun b H=>some (.val (.ulr b 0 len),⟨env,H,lk,df⟩) else none
 | .ulr b u len=>match H.get b with
  | some (.ul ver sz cs e') =>
   if Nat.beq e e' && Nat.beq n sz && Nat.beq ver u && qG (len+ys.length) i.bytes then
    fCs (cs++flatV ys) fun cs=>jM (ver+1) fun u=>jM (len+ys.length) fun len=>zdq H b (.ul u sz cs e) (.tup ys) fun H=>some (.val (.ulr b u len),⟨env,H,lk,df⟩)
   else none
  | _=>none
 | .sr b off len cap=>match H.get b with
  | some (.cells cs ty) =>
   let new:=(flatV ys).map clr
   if Nat.beq off 0 && Nat.beq n 1 && Nat.beq ty e && Nat.beq new.length ys.length && Nat.ble (len+ys.length) cap && Nat.ble (len+ys.length) cs.length && kQ lk b len ys.length (cs.drop len) then
    fCs (storeCells cs len new) fun cs=>jM (len+ys.length) fun len=>zdq H b (.cells cs ty) (.tup new) fun H=>some (.val (.sr b 0 len cap),⟨env,H,lk,df⟩)
   else none
  | _=>none
 | _=>none
def Cx.sliceU (cx:Cx) (t:TypeId) (x:Operand) (lo hi:Option Operand) (env:List V) (H:Hp) (lk:List (Nat×Nat)) (df:List (V×List V)):Option (OR×St) :=
 match cx.P.underlying t,peek env x,peekO env lo,peekO env hi with
 | some (.slice e'),some (.ulr b u len),some none,some (some (.int _ h))=>match zy cx.P e',H.get b with
  | some _,some (.ul ver sz cs e) =>
   if Nat.beq ver u && decide (0<=h) && Nat.ble h.toNat len then
    fL (cs.take (h.toNat * sz)) fun cs=>jM (ver+1) fun u=>jM h.toNat fun len=>zdq H b (.ul u sz cs e) .nilp fun H=>some (.val (.ulr b u len),⟨env,H,lk,df⟩)
   else none
  | _,_=>none
 | _,some (.sr b off len cap),some lo,some hi=>match kU cx.P t (.sr b off len cap) lo hi with
  | some v=>some (.val v,⟨env,H,lk,df⟩)
  | none=>none
 | _,_,_,_=>none
def Cx.copyA (cx:Cx) (t:TypeId) (x y:Operand) (env:List V) (H:Hp) (lk:List (Nat×Nat)) (df:List (V×List V)):Option (OR×St):=do
 let .slice e <- cx.P.underlying t|none
 let n <- zy cx.P e
 let ys <- jv cx.P H e (<- peek env y)
 match <- peek env x with
 | .sr b off len _=>match H.get b with
  | some (.cells cs ty) =>
   let m:=min len ys.length
   let new:=(flatV (ys.take m)).map clr
   if Nat.beq n 1 && Nat.beq new.length m && Nat.ble (off+m) cs.length && kQ lk b off m (cs.drop off) then
    fCs (storeCells cs off new) fun cs=>zdq H b (.cells cs ty) (.tup new) fun H=>some (.val (.int .i64 (m:Nat)),⟨env,H,lk,df⟩)
   else none
  | _=>none
 | _=>none
def Cx.op (cx:Cx) (takes:List Tmp) (o:Oper) (env:List V) (H:Hp) (lk:List (Nat×Nat)) (df:List (V×List V)):Option (OR×St) :=
  let P:=cx.P
  let taken:=match o.dst with
    | some d=>takes.any (Nat.beq d)
    | none=>false
  let read (_:Unit):Option (OR×St):=match zD P cx.gl o env H with
    | none=>none
    | some v=>some (.val v,⟨env,H,lk,df⟩)
  match o.op with
  | .move x=>match taken with
    | true=>match take env x with
      | none=>none
      | some (v,env)=>some (.val v,⟨env,H,lk,df⟩)
    | false=>read ()
  | .assign x=>match take env x with
    | none=>none
    | some (v,env)=>some (.val v,⟨env,H,lk,df⟩)
  | .load t a=>match taken with
    | false=>read ()
    | true=>match qC P t,peek env a with
      | some false,some (.ptr b off)=>match H.get b with
        | some (.cells cs ty)=>match nth cs off with
          | some (.sl sz xs (.yes e))=>zg5 cs off (.sl sz xs .lock) fun cs=>zdq H b (.cells cs ty) .nilp fun H=>some (.val (.sl sz xs (.yes e)),⟨env,H,(b,off)::lk,df⟩)
          | some .snil=>some (.val .snil,⟨env,H,lk,df⟩)
          | some (.ulr c u n)=>some (.val (.ulr c u n),⟨env,H,lk,df⟩)
          | _=>none
        | _=>none
      | _,_=>none
  | .alloc t=>match zU P t with
    | none=>none
    | some z=>if !okC z then none else fV z fun z=>zaE H (.cells z.cells t) fun n H=>some (.val (.ptr n 0),⟨env,H,lk,df⟩)
  | .box t x=>match take env x with
    | none=>none
    | some (v,env)=>if !okC v then none else fV v fun v=>fCs v.laid fun cs=>zaE H (.cells cs t) fun n H=>some (.val (.ptr n 0),⟨env,H,lk,df⟩)
  | .store t a x=>match peek env a with
    | some (.ptr b off)=>match take env x,zy P t,H.get b with
      | some (v,env),some n,some (.cells cs ty) =>
        fV v fun v=>fCs v.laid fun vs =>
          if okC v && Nat.beq vs.length n && Nat.ble (off+n) cs.length && kQ lk b off n (cs.drop off) then
            fL (storeCells cs off vs) fun cs=>zdq H b (.cells cs ty) v fun H=>some (.skip,⟨env,H,lk,df⟩)
          else none
      | _,_,_=>none
    | some (.ulp b u k)=>match take env x,zy P t,H.get b with
      | some (x,env),some n,some (.ul ver sz cs e) =>
        fV (clr x) fun x=>if Nat.beq ver u && okC x && Nat.beq x.cells.length n && Nat.ble (k+n) cs.length then
          fL (storeCells cs k x.cells) fun cs=>zdq H b (.ul ver sz cs e) x fun H=>some (.skip,⟨env,H,lk,df⟩)
        else none
      | _,_,_=>none
    | _=>none
  | .makeMap _ r=>match r with
    | some _=>none
    | none=>zaE H (.map []) fun n H=>some (.val (.map n),⟨env,H,lk,df⟩)
  | .makeSlice t l c=>match P.underlying t,peek env l,peek env c with
    | some (.slice e),some (.int _ l),some (.int _ c)=>match zy P e,P.info? e,zU P e with
      | some n,some i,some z =>
        if Nat.beq n 0 || l<0 || c<l || !qG c.toNat i.bytes || !Nat.beq z.cells.length n || !okC z then none else
        match cx.uq e && Nat.blt 0 c.toNat with
        | true=>fCs (List.replicate c.toNat z.cells).flatten fun cs=>zaE H (.cells cs e) fun n H=>jM l.toNat fun l=>jM c.toNat fun c=>some (.val (.sr n 0 l c),⟨env,H,lk,df⟩)
        | false =>
        if l=0 then some (.val (.sl n [] (.yes e)),⟨env,H,lk,df⟩) else
        if l=c then fCs (List.replicate c.toNat z.cells).flatten fun cs=>zaE H (.cells cs e) fun n H=>some (.val (.sr n 0 l.toNat c.toNat),⟨env,H,lk,df⟩) else none
      | _,_,_=>none
    | _,_,_=>none
  | .mapUpdate t m k x|.insert t m k x=>match peek env m,peek env k,peek env x with
    | some (.map b),some k,some x=>if !zeY P t k then none else fV k fun k=>fV x fun x=>match H.get b with
      | some (.map es)=>match zfK k x es with
        | some es=>fL es fun es=>zdq H b (.map es) (.tup [k,x]) fun H=>some (.skip,⟨env,H,lk,df⟩)
        | none=>none
      | _=>none
    | _,_,_=>none
  | .range t x=>match P.underlying t,peek env x with
    | some .string,some (.str l)=>zaE H (.iter l 0) fun n H=>some (.val (.ptr n 0),⟨env,H,lk,df⟩)
    | _,_=>none
  | .next it true=>match peek env it with
    | some (.ptr b 0)=>match H.get b with
      | some (.iter l pos) =>
        if Nat.blt pos l.length then
          let (c,w):=za8 (l.drop pos)
          jM (pos+w) fun q=>zdq H b (.iter l q) .nilp fun H=>some (.val (.tup [.bool true,.int .i64 pos,.int .i32 c]),⟨env,H,lk,df⟩)
        else some (.val (.tup [.bool false]),⟨env,H,lk,df⟩)
      | _=>none
    | _=>none
  | .convert a b x=>match jO P a b x env with
    | some (v,env)=>some (.val v,⟨env,H,lk,df⟩)
    | none=>match cx.uq (kb a) with
      | true=>match xr P H a b (peek env x) with
        | some v=>some (.val v,⟨env,H,lk,df⟩)
        | none=>none
      | false=>read ()
  | .slice t x lo hi none=>match yI takes x lo hi with
    | true=>match zaN P t x lo env with
      | some (v,env)=>some (.val v,⟨env,H,lk,df⟩)
      | none=>none
    | false=>match uqT P cx.uq t with
      | true=>cx.sliceU t x lo hi env H lk df
      | false=>read ()
  | .call c=>match c.callee with
    | .builtin b=>match b,c.args.toList,c.argTypes.toList with
     | .copy,[x,y],t::_=>cx.copyA t x y env H lk df
     | .append,[x,y],[t,u]=>match uqT P cx.uq t with
       | true=>if Nat.beq t u then cx.appendU t x y env H lk df else none
       | false=>match cx.builtin b c.argTypes c.args env H with
        | none=>none
        | some (r,env)=>some (r,⟨env,H,lk,df⟩)
     | _,_,_=>match cx.builtin b c.argTypes c.args env H with
      | none=>none
      | some (r,env)=>some (r,⟨env,H,lk,df⟩)
    | .value f=>match peek env f,peeks env c.args.toList with
      | some f,some args=>match cx.callV f args H with
        | none=>none
        | some (r,H)=>some (r,⟨env,H,lk,df⟩)
      | _,_=>none
    | .invoke r m=>match peek env r,peeks env c.args.toList with
      | some r,some args=>match cx.callV (.fn (.method m) [] []) (r::args) H with
        | none=>none
        | some (r,H)=>some (r,⟨env,H,lk,df⟩)
      | _,_=>none
  | .defer c=>match c.callee with
    | .value f=>match peek env f,peeks env c.args.toList with
      | some (.fn (.func f) first cap),some args=>some (.skip,⟨env,H,lk,(.fn (.func f) first cap,args)::df⟩)
      | _,_=>none
    | _=>none
  | .panic x=>match peek env x with
    | some (.ifc t v)=>some (.pan (.ifc t v),⟨env,H,lk,df⟩)
    | _=>none
  | _=>read ()
def putA (env:List V) (dst:Option Tmp) (v:V):List V :=
 match dst with
 | some d=>env.set d v
 | none=>env
def zds {β:Type} (env:List V) (dst:Option Tmp) (v:V) (k:List V->β):β :=
 match dst with
 | some d=>fV v fun v=>zg5 env d v k
 | none=>k env
def zq (ops:Array Oper) (o:Oper) (env:List V):Option Bool :=
 match o.guard with
 | none=>some true
 | some (j,want)=>match (ops[j]?).bind (·.dst) with
  | none=>none
  | some d=>match nth env d with
   | some (.bool b)=>some (b == want)
   | some (.tup _)=>some false
   | _=>none
def Cx.ops (cx:Cx) (all:Array Oper) (takes:List Tmp):List Oper->St->Option (Ex×St)
 | [],s=>some (.normal,s)
 | o::os,⟨env,H,lk,df⟩ =>
  match zq all o env with
  | none=>none
  | some false=>zds env o.dst (.tup []) fun env=>cx.ops all takes os ⟨env,H,lk,df⟩
  | some true=>match cx.op takes o env H lk df with
   | none=>none
   | some (.val v,⟨env,H,lk,df⟩)=>zds env o.dst v fun env=>cx.ops all takes os ⟨env,H,lk,df⟩
   | some (.skip,⟨env,H,lk,df⟩)=>zds env o.dst (.tup []) fun env=>cx.ops all takes os ⟨env,H,lk,df⟩
   | some (.pan v,s)=>some (.pan v,s)
mutual
def V.same:V->V->Bool
 | .bool a,.bool b=>a == b
 | .int k n,.int k' n'=>if k=k' then n == n' else false
 | .str a,.str b=>eqL a b
 | .nilp,.nilp=>true
 | .ptr a b,.ptr c d=>Nat.beq a c && Nat.beq b d
 | .gptr a b,.gptr c d=>Nat.beq a c && Nat.beq b d
 | .obj a,.obj b=>Nat.beq a b
 | .vp a,.vp b=>sames a b
 | .snil,.snil=>true
 | .sl s a o,.sl s' b o'=>Nat.beq s s' && (if o=o' then sames a b else false)
 | .sr a b c d,.sr a' b' c' d'=>Nat.beq a a' && Nat.beq b b' && Nat.beq c c' && Nat.beq d d'
 | .nilm,.nilm=>true
 | .map a,.map b=>Nat.beq a b
 | .nilf,.nilf=>true
 | .fn f a c,.fn f' a' c'=>(if f=f' then true else false) && sames a a' && sames c c'
 | .nili,.nili=>true
 | .ifc t v,.ifc t' v'=>Nat.beq t t' && V.same v v'
 | .agg a,.agg b=>sames a b
 | .tup a,.tup b=>sames a b
 | .junk,.junk=>true
 | .ulr a b n,.ulr c d m=>Nat.beq a c && Nat.beq b d && Nat.beq n m
 | .ulp a b e,.ulp c d f=>Nat.beq a c && Nat.beq b d && Nat.beq e f
 | _,_=>false
def sames:List V->List V->Bool
 | [],[]=>true
 | x::xs,y::ys=>V.same x y && sames xs ys
 | _,_=>false
end
def z9 (P:Program) (uq:TypeId->Bool) (takes:List Tmp) (o:Oper):Bool :=
 match o.op with
 | .alloc _|.box ..|.store ..|.makeMap ..|.makeSlice ..|.mapUpdate ..|.insert ..|.range ..|.next ..|.defer _|.panic _=>true
 | .load ..=>match o.dst with
  | some d=>takes.any (Nat.beq d)
  | none=>false
 | .slice t _ _ _ none=>uqT P uq t
 | .call c=>match c.callee with
  | .builtin .copy=>true
  | .builtin .append=>match c.argTypes.toList with
   | t::_=>uqT P uq t
   | _=>false
  | .builtin _=>false
  | _=>true
 | _=>false
def jV (P:Program) (uq:TypeId->Bool) (o:Oper):Bool :=
 match o.op with
 | .slice t _ _ _ none=>uqT P uq t
 | .convert a _ _=>uq (kb a)
 | .load ..|.lookup ..|.call _=>true
 | _=>false
def qt (takes:List Tmp) (o:Oper):Option Operand :=
 match o.op with
 | .move x=>if (match o.dst with|some d=>takes.any (Nat.beq d)|none=>false) then some x else none
 | .assign x|.box _ x|.store _ _ x=>some x
 | .convert a b x=>if Nat.beq a b then some x else none
 | .slice _ x lo hi none=>if yI takes x lo hi then some x else none
 | .call c=>match c.callee with
  | .builtin .append=>c.args.toList.head?
  | _=>none
 | _=>none
def tmpMask:List Operand->Nat
 | []=>0
 | .tmp t::xs=>Nat.lor (Nat.pow 2 t) (tmpMask xs)
 | _::xs=>tmpMask xs
structure Rec where
 idx:Nat
 o:Oper
 m:Nat
 tm:Nat
 lm:Nat
 hp:Bool
 free:Bool
 env:List V
 v:V
structure Cfg where
 D:Nat
 H:Hp
 lk:List (Nat×Nat)
 df:List (V×List V)
def bit (m i:Nat):Bool:=Nat.beq (Nat.mod (Nat.shiftRight m i) 2) 1
def qO (a b:Nat):Bool:=Nat.beq (Nat.land a b) a
def maskAt:List Rec->Nat->Option Nat
 | [],_=>none
 | r::rs,j=>if Nat.beq r.idx j then some r.m else maskAt rs j
def qP (rs:List Rec):List Edge->Option Nat
 | []=>some 0
 | e::es=>match Region.binds .any e with
  | false=>qP rs es
  | true=>match maskAt rs e.on with
   | none=>none
   | some m=>match qP rs es with
    | none=>none
    | some k=>some (Nat.lor k (Nat.lor m (Nat.pow 2 e.on)))
def Cx.runC (cx:Cx) (takes:List Tmp) (o:Oper) (env:List V) (c:Cfg) (D:Nat):Option (V×Cfg) :=
 match cx.op takes o env c.H c.lk c.df with
 | some (.val v,s)=>some (v,⟨D,s.H,s.lk,s.defers⟩)
 | some (.skip,s)=>some (.tup [],⟨D,s.H,s.lk,s.defers⟩)
 | _=>none
def Cx.valC (cx:Cx) (takes:List Tmp) (o:Oper) (env:List V) (v:V) (c:Cfg):Bool :=
 match cx.runC takes o env c 0 with
 | some (u,_)=>V.same u v
 | none=>false
def sameP:List (V×V)->List (V×V)->Bool
 | [],[]=>true
 | (a,b)::x,(c,d)::y=>V.same a c && V.same b d && sameP x y
 | _,_=>false
def sameBlk:Blk->Blk->Bool
 | .cells a t,.cells b u=>Nat.beq t u && sames a b
 | .map a,.map b=>sameP a b
 | .iter a i,.iter b j=>Nat.beq i j && eqL a b
 | .ul a b c d,.ul a' b' c' d'=>Nat.beq a a' && Nat.beq b b' && Nat.beq d d' && sames c c'
 | _,_=>false
def sameBs:List Blk->List Blk->Bool
 | [],[]=>true
 | a::x,b::y=>sameBlk a b && sameBs x y
 | _,_=>false
def sameNN:List (Nat×Nat)->List (Nat×Nat)->Bool
 | [],[]=>true
 | (a,b)::x,(c,d)::y=>Nat.beq a c && Nat.beq b d && sameNN x y
 | _,_=>false
def sameDf:List (V×List V)->List (V×List V)->Bool
 | [],[]=>true
 | (a,b)::x,(c,d)::y=>V.same a c && sames b d && sameDf x y
 | _,_=>false
def wM (a b:Cfg):Bool:=sameNN a.lk b.lk && sameDf a.df b.df && sameNN a.H.edges b.H.edges && sameBs a.H.blks b.H.blks
def wN (D:Nat):List Cfg->Option Cfg
 | []=>none
 | c::cs=>if Nat.beq c.D D then some c else wN D cs
def chgM:List Rec->Nat
 | []=>0
 | r::rs=>match r.hp with
  | true=>Nat.lor (Nat.pow 2 r.idx) (chgM rs)
  | false=>chgM rs
def qu {α:Type} (f:α->Bool):List α->Bool
 | []=>true
 | q::qs=>match f q with
  | true=>qu f qs
  | false=>false
def z4 (D:Nat) (q:Rec):List Rec->Bool
 | []=>false
 | c::cs=>(c.hp && bit D c.idx && bit c.m q.idx) || z4 D q cs
def qm (r q:Rec):Bool :=
 match bit r.m q.idx with
 | true=>true
 | false=>Nat.beq (Nat.land q.tm r.lm) 0 && Nat.beq (Nat.land r.tm q.lm) 0
def Cx.runAll (cx:Cx) (takes:List Tmp) (o:Oper) (env:List V) (v:V) (m b:Nat):List Cfg->Option (List Cfg)
 | []=>some []
 | c::cs=>match qO m c.D with
  | false=>cx.runAll takes o env v m b cs
  | true=>match cx.runC takes o env c (Nat.lor c.D b) with
   | none=>none
   | some (u,c2)=>match V.same u v with
    | false=>none
    | true=>match cx.runAll takes o env v m b cs with
     | none=>none
     | some l=>some (c2::l)
def Cx.newOk (cx:Cx) (takes:List Tmp) (rs:List Rec) (chg:Nat) (r:Rec) (all:List Cfg) (c:Cfg):Bool :=
 qu (fun q=>match qO (Nat.land q.m chg) c.D with
  | false=>true
  | true=>match q.hp with
   | true=>match bit c.D q.idx with
    | true=>true
    | false=>match cx.runC takes q.o q.env c 0,wN (Nat.lor c.D (Nat.pow 2 q.idx)) all with
     | some (u,c2),some c3=>V.same u q.v && wM c2 c3
     | _,_=>false
   | false=>q.free || bit r.m q.idx || z4 c.D q rs || cx.valC takes q.o q.env q.v c) rs
def zeZ (all:Array Oper) (o:Oper):Nat :=
 match o.guard with
 | none=>0
 | some (j,_)=>match (all[j]?).bind (·.dst) with
  | none=>0
  | some d=>Nat.pow 2 d
def tmM (takes:List Tmp) (o:Oper):Nat :=
 match o.dst with
 | some d=>Nat.lor (Nat.pow 2 d) (tmpMask (match qt takes o with|some x=>[x]|none=>[]))
 | none=>tmpMask (match qt takes o with|some x=>[x]|none=>[])
def lkM (all:Array Oper) (o:Oper):Nat:=Nat.lor (tmpMask o.op.operands.toList) (zeZ all o)
def Cx.cfgsK (cx:Cx) (takes:List Tmp) (rs:List Rec) (r:Rec) (c0 c1:Cfg) (cs:List Cfg) (k:List Cfg->Option (Ex×St)):Option (Ex×St) :=
 let chg:=chgM rs
 match r.hp with
 | false=>match r.free || qu (fun c=>match qO (Nat.land r.m chg) c.D with
   | true=>cx.valC takes r.o r.env r.v c
   | false=>true) cs with
  | true=>k (c0::cs)
  | false=>none
 | true=>match cx.runAll takes r.o r.env r.v (Nat.land r.m chg) (Nat.pow 2 r.idx) cs with
  | none=>none
  | some l =>
   let all:=c1::l++c0::cs
   match qu (fun c=>cx.newOk takes rs chg r all c) (c1::l) with
   | true=>k all
   | false=>none
def Cx.opsD (cx:Cx) (all:Array Oper) (takes:List Tmp):Nat->List Rec->List Cfg->List Oper->St->Option (Ex×St)
 | _,_,_,[],s=>some (.normal,s)
 | i,rs,cs,o::os,⟨env,H,lk,df⟩ =>
  match qP rs o.after.toList with
  | none=>none
  | some m=>jM m fun m=>jM (tmM takes o) fun tm=>jM (Nat.lor tm (lkM all o)) fun lm =>
   let next (hp free:Bool) (v:V) (s1:St):Option (Ex×St) :=
    match s1 with
    | ⟨env1,H1,lk1,df1⟩=>fV v fun v=>zds env1 o.dst v fun env1 =>
     match qu (qm ⟨i,o,m,tm,lm,hp,free,env,v⟩) rs,cs with
     | true,c0::cs=>cx.cfgsK takes rs ⟨i,o,m,tm,lm,hp,free,env,v⟩ c0 ⟨Nat.lor c0.D (Nat.pow 2 i),H1,lk1,df1⟩ cs fun cs =>
      cx.opsD all takes (i+1) (⟨i,o,m,tm,lm,hp,free,env,v⟩::rs) cs os ⟨env1,H1,lk1,df1⟩
     | _,_=>none
   match zq all o env with
   | none=>none
   | some false=>next false true (.tup []) ⟨env,H,lk,df⟩
   | some true=>match cx.op takes o env H lk df with
    | none=>none
    | some (.val v,s1)=>next (z9 cx.P cx.uq takes o) (!jV cx.P cx.uq o) v s1
    | some (.skip,s1)=>next (z9 cx.P cx.uq takes o) false (.tup []) s1
    | some (.pan _,_)=>none
def Cx.drawn (cx:Cx) (ops:Array Oper):St->Option (Ex×St)
 | ⟨env,H,_,df⟩=>cx.opsD ops (qb ops) 0 [] [⟨0,H,[],df⟩] ops.toList ⟨env,H,[],df⟩
def zba (after:Array Edge):Oper:=⟨none,.move (.const (.bool true)),0,"",after,none⟩
def zbb (es:List Edge):Nat->Bool
 | 0=>true
 | n+1=>(es.any fun e=>Nat.beq e.on n && Region.binds .any e) && zbb es n
def zfN (takes:List Tmp) (d:Tmp) (o:Oper):Bool :=
 (match o.dst with|some k=>!(Nat.beq k d)|none=>true) && (match qt takes o with|some (.tmp k)=>!(Nat.beq k d)|_=>true) && (match o.guard with|none=>true|some _=>false)
def xu (ops:Array Oper):Option (List Oper×Tmp×TypeId×Operand) :=
 match ops.toList.reverse with
 | ⟨none,.store t (.tmp d) x,_,_,after,none⟩::⟨some e,.alloc u,_,_,af,none⟩::os =>
  match Nat.beq d e && Nat.beq t u && zbb after.toList (os.length+1) with
  | true=>some ((zba after::zba af::os).reverse,d,t,x)
  | false=>none
 | _=>none
def Cx.late (cx:Cx) (ops:Array Oper):St->Option (Ex×St)
 | ⟨env,H,_,df⟩=>match xu ops with
  | none=>none
  | some (os,d,t,x)=>match qu (zfN (qb os.toArray) d) os && Nat.blt d env.length with
   | false=>none
   | true=>match cx.opsD os.toArray (qb os.toArray) 0 [] [⟨0,H,[],df⟩] os ⟨env.set d .junk,H,[],df⟩ with
    | some (_,⟨env,H,lk,df⟩)=>match take env x,zy cx.P t,zU cx.P t with
     | some (v,env),some n,some z =>
      match okC v && okC z && Nat.beq z.cells.length n with
      | true=>fV v fun v=>fCs v.laid fun cs=>match Nat.beq cs.length n with
       | true=>zaE H (.cells cs t) fun n H=>some (.normal,⟨env.set d (.ptr n 0),H,lk,df⟩)
       | false=>none
      | false=>none
     | _,_,_=>none
    | none=>none
def lateK:Nat:=1099511627775
def Cx.draw (cx:Cx) (ops:Array Oper) (s:St):Option (Ex×St) :=
 match cx.uq lateK with
 | true=>match xu ops with
  | some _=>cx.late ops s
  | none=>cx.drawn ops s
 | false=>cx.drawn ops s
def vK (step:St->Option (Ex×St)):Nat->St->Option (Ex×St)
 | 0,_=>none
 | n+1,s=>match step s with
  | none=>none
  | some (.normal,s)=>vK step n s
  | some (e,s)=>some (e,s)
def zcF (o:Oper):Bool:=match o.op with|.defer _=>false|_=>true
def calm:Code->Bool
 | .region _ ops _=>ops.toList.all zcF
 | .seq x y|.cond _ x y=>calm x && calm y
 | .block _ c|.loop c=>calm c
 | .scope _=>false
 | .rangeFunc _ _ _ _=>false
 | _=>true
def Blk.isC:Blk->Bool
 | .cells _ _|.ul _ _ _ _=>true
 | _=>false
def wo (f:FuncId) (back:Bool) (t:TypeId):TypeId:=1099511627776+2 * (f * 1048576+t)+(if back then 1 else 0)
def isAggV:V->Bool
 | .agg _=>true
 | _=>false
def kp (back:Bool) (xs:List V):List (List V):=if back then (List.range xs.length).map fun k=>[V.int .i64 ((xs.length - 1 - k:Nat):Int),(nth xs (xs.length - 1 - k)).getD .nilp] else xs.map fun x=>[x]
def Cx.itOf (cx:Cx) (f:V) (H:Hp):Option (Nat×TypeId×Option (Nat×List V)×Bool):=match f with
 | .fn (.func gf) [] [.ptr b 0]=>match H.get b with
  | some (.cells [lv] ty)=>match cx.P.underlying ty with
   | some (.slice e)=>match zy cx.P e,qC cx.P e with
    | some sz,some ag =>
     let back:=cx.uq (wo gf true ty)
     if !(back || cx.uq (wo gf false ty)) || Nat.beq sz 0 || !Nat.blt ty 1048576 then none else
     match lv with
     | .snil=>some (b,ty,none,back)
     | .sl sz' xs .no=>if Nat.beq sz sz' && xs.all (fun x=>isAggV x == ag) && Nat.ble xs.length 140737488355328 then some (b,ty,some (sz',xs),back) else none
     | _=>none
    | _,_=>none
   | _=>none
  | _=>none
 | _=>none
def lockBox (b:Nat) (ty:TypeId) (sz:Nat) (xs:List V) (bs:List Blk):List Blk:=bs.set b (.cells [.sl sz xs .lock] ty)
def freeBox (b:Nat) (H:Hp):Option Hp:=match nth H.blks b with
 | some (.cells [.sl sz xs .lock] ty)=>some ⟨H.blks.set b (.cells [.sl sz xs .no] ty),H.edges⟩
 | _=>none
def Blk.isCells:Blk->Bool
 | .cells _ _=>true
 | _=>false
def jP (n0:Nat) (bs:List Blk):Bool:=(bs.drop n0).all Blk.isCells
def zaO (asg:List V->List Blk->Option (Ex×St)) (bd:List V->List Blk->Option (Ex×St)) (ok:List Blk->Bool):List (List V)->Hp->Option (Ex×Hp)
 | [],H=>some (.normal,H)
 | x::xs,⟨bs,es⟩=>match asg x bs with
  | some (.normal,⟨e,⟨bs1,es1⟩,_,[]⟩)=>if !ok bs1 then none else fL (e.map clr) fun e=>match bd e bs1 with
   | some (.normal,⟨_,⟨bs2,es2⟩,_,[]⟩)=>if !ok bs2 then none else zaO asg bd ok xs ⟨bs2,es2++(es1++es)⟩
   | some (.ret,⟨_,⟨bs2,es2⟩,_,[]⟩)=>if !ok bs2 then none else some (.ret,⟨bs2,es2++(es1++es)⟩)
   | some (.exit i,⟨_,⟨bs2,es2⟩,_,[]⟩)=>if !ok bs2 then none else some (.exit i,⟨bs2,es2++(es1++es)⟩)
   | _=>none
  | _=>none
def ze0 (env:List V) (ps:List Tmp) (xs:List V):List V:=(ps.zip xs).foldl (fun e p=>e.set p.1 (clr p.2)) env
def Cx.code (cx:Cx) (n:Nat):Code->St->Option (Ex×St)
 | .skip,s=>some (.normal,s)
 | .label _,s=>some (.normal,s)
 | .region _ ops false,⟨env,H,_,df⟩=>cx.ops ops (qb ops) ops.toList ⟨env,H,[],df⟩
 | .region _ ops true,s=>cx.draw ops s
 | .seq a b,s=>match cx.code n a s with
  | none=>none
  | some (.normal,s)=>cx.code n b s
  | some (e,s)=>some (e,s)
 | .cond c a b,s=>match peek s.env c with
  | some (.bool true)=>cx.code n a s
  | some (.bool false)=>cx.code n b s
  | _=>none
 | .block id c,s=>match cx.code n c s with
  | none=>none
  | some (.exit i,s)=>some (if Nat.beq i id then .normal else .exit i,s)
  | some (e,s)=>some (e,s)
 | .loop c,s=>vK (cx.code n c) n s
 | .exit id,s=>some (.exit id,s)
 | .ret,s=>some (.ret,s)
 | .scope c,s=>match cx.code n c s with
  | none=>none
  | some (.goto _,_)=>none
  | some (e,s)=>some (e,s)
 | .rangeFunc f ps as bd,⟨env,H,_,df⟩=>match peek env f with
  | none=>none
  | some fv=>match cx.itOf fv H with
   | none=>none
   | some (b,ty,lv,back) =>
    if !(calm as && calm bd && Nat.beq ps.size (if back then 2 else 1)) then none else
    fL (env.map clr) fun env0=>match lv with
    | none=>some (.normal,⟨env0,H,[],(.nilp,[])::df⟩)
    | some (sz,ys)=>match H with
     | ⟨bs,es⟩=>match zaO (fun x bs=>cx.code n as ⟨ze0 env0 ps.toList x,⟨bs,[]⟩,[],[]⟩) (fun e bs=>cx.code n bd ⟨e,⟨bs,[]⟩,[],[]⟩) (jP bs.length) (kp back ys) ⟨lockBox b ty sz ys bs,es⟩ with
      | none=>none
      | some (ex,H)=>match freeBox b H with
       | none=>none
       | some H=>some (ex,⟨env0,H,[],(.nilp,[])::df⟩)
 | _,_=>none
def zt (P:Program) (H:Hp) (env:List V):List ResultVar->Option (List V)
 | []=>some []
 | .tmp t::r=>match nth env t,zt P H env r with
  | some v,some vs=>some (v::vs)
  | _,_=>none
 | .cell a t::r=>match nth env a with
  | some p=>match zn P H (fun _ _=>none) t p,zt P H env r with
   | some v,some vs=>some (clr v::vs)
   | _,_=>none
  | none=>none
def tupOf:List V->V
 | [v]=>v
 | vs=>.tup (vs.map clr)
def zbc {β:Type} (n0:Nat) (es:List (Nat×Nat)) (top:Nat) (H:Hp) (k:Hp->β):β :=
 match H with
 | ⟨bs,new⟩ =>
  if Nat.ble top n0 && new.all (fun e=>Nat.ble n0 e.1 || Nat.ble e.2 n0) then
   fL (bs.take n0) fun bs=>fL (new.filter (fun e=>Nat.blt e.1 n0)) fun new=>k ⟨bs,new++es⟩
  else k ⟨bs,new++es⟩
def zpL (o:Oper):Bool :=
 match o.op with
 | .call c=>match c.callee with
  | .builtin .recover=>true
  | _=>false
 | _=>false
def Cx.opsS (cx:Cx) (pnc:Option V) (all:Array Oper) (takes:List Tmp):List Oper->Bool->St->Option (Ex×Bool×St)
 | [],r,s=>some (.normal,r,s)
 | o::os,r,⟨env,H,lk,df⟩ =>
  match zq all o env with
  | none=>none
  | some false=>zds env o.dst (.tup []) fun env=>cx.opsS pnc all takes os r ⟨env,H,lk,df⟩
  | some true=>match zpL o with
   | true=>match pnc,r with
    | some v,false=>zds env o.dst (clr v) fun env=>cx.opsS pnc all takes os true ⟨env,H,lk,df⟩
    | _,_=>zds env o.dst .nili fun env=>cx.opsS pnc all takes os r ⟨env,H,lk,df⟩
   | false=>match cx.op takes o env H lk df with
    | none=>none
    | some (.val v,⟨env,H,lk,df⟩)=>zds env o.dst v fun env=>cx.opsS pnc all takes os r ⟨env,H,lk,df⟩
    | some (.skip,⟨env,H,lk,df⟩)=>zds env o.dst (.tup []) fun env=>cx.opsS pnc all takes os r ⟨env,H,lk,df⟩
    | some (.pan v,s)=>some (.pan v,r,s)
def Cx.codeS (cx:Cx) (n:Nat) (pnc:Option V):Code->Bool->St->Option (Ex×Bool×St)
 | .seq a b,r,s=>match cx.codeS n pnc a r s with
  | none=>none
  | some (.normal,r,s)=>cx.codeS n pnc b r s
  | some x=>some x
 | .cond c a b,r,s=>match peek s.env c with
  | some (.bool true)=>cx.codeS n pnc a r s
  | some (.bool false)=>cx.codeS n pnc b r s
  | _=>none
 | .region _ ops false,r,⟨env,H,_,df⟩=>cx.opsS pnc ops (qb ops) ops.toList r ⟨env,H,[],df⟩
 | c,r,s=>match cx.code n c s with
  | none=>none
  | some (e,s)=>some (e,r,s)
def zdt (P:Program) (gl:Nat->Nat->Option V) (uq:TypeId->Bool) (call:FuncId->List V->Hp->Option (Out×Hp)) (n:Nat) (pnc:Option V) (f:FuncId) (args:List V) (H:Hp):Option (Bool×Hp) :=
 match H with
 | ⟨bs,es⟩ =>
  match P.funcs[f]? with
  | none=>none
  | some fn=>match fn.body with
   | none=>none
   | some body =>
    jM bs.length fun n0 =>
    fL (args++List.replicate (fn.ntmps - args.length) (.tup [])) fun env =>
    match Cx.codeS { P,gl,call,uq } n pnc body false ⟨env,⟨bs,[]⟩,[],[]⟩ with
    | some (.normal,r,⟨env,H,_,[]⟩)|some (.ret,r,⟨env,H,_,[]⟩)=>match zt P H env fn.results.toList with
     | none=>none
     | some _=>zbc n0 es 0 H fun H=>some (r,H)
    | _=>none
def dropMarks:List (V×List V)->List (V×List V)
 | (.nilp,[])::ds=>dropMarks ds
 | ds=>ds
def kq (call:Option V->FuncId->List V->Hp->Option (Bool×Hp)):Option V->List (V×List V)->Hp->Option (Option V×Hp)
 | pnc,[],H=>some (pnc,H)
 | pnc,(.fn (.func f) first cap,args)::ds,H=>fL ((first++args++cap).map clr) fun args=>match call pnc f args H with
  | none=>none
  | some (true,H)=>kq call none ds H
  | some (false,H)=>kq call pnc ds H
 | _,_,_=>none
def zaf (call:Option V->FuncId->List V->Hp->Option (Bool×Hp)) (pnc:Option V) (ds:List (V×List V)) (H:Hp):Option (Option V×Hp):=kq call pnc (dropMarks ds) H
def endOf:Ex->Option (Option V)
 | .normal|.ret=>some none
 | .pan v=>some (some v)
 | _=>none
structure Gl where
 g:Nat->Nat->Option V
 hk:FuncId->List V->Option V:=fun _ _=>none
 uq:TypeId->Bool:=fun _=>false
 hk2:Nat->FuncId->List V->Hp->Option (Out×Hp):=fun _ _ _ _=>none
instance : CoeFun Gl (fun _=>Nat->Nat->Option V):=⟨Gl.g⟩
instance : Coe Gl (Nat->Nat->Option V):=⟨Gl.g⟩
def zk (P:Program) (gl:Gl):Nat->FuncId->List V->Hp->Option (Out×Hp)
 | 0,_,_,_=>none
 | n+1,f,args,⟨bs,es⟩ =>
  match gl.hk f args with
  | some v=>some (.ret v,⟨bs,es⟩)
  | none =>
  match gl.hk2 n f args ⟨bs,es⟩ with
  | some r=>some r
  | none =>
  match P.funcs[f]? with
  | none=>none
  | some fn=>match fn.body with
   | none=>none
   | some body =>
    jM bs.length fun n0 =>
    fL (args++List.replicate (fn.ntmps - args.length) (.tup [])) fun env =>
    match Cx.code { P,gl:=gl.g,call:=zk P gl n,uq:=gl.uq } n body ⟨env,⟨bs,[]⟩,[],[]⟩ with
    | none=>none
    | some (ex,⟨env,H,_,df⟩)=>match endOf ex with
     | none=>none
     | some pnc=>match zaf (zdt P gl.g gl.uq (zk P gl n) n) pnc df H with
      | none=>none
      | some (some v,H)=>zbc n0 es v.top H fun H=>some (.pan v,H)
      | some (none,H)=>match zt P H env fn.results.toList with
       | none=>none
       | some vs=>fV (tupOf vs) fun v=>zbc n0 es v.top H fun H=>some (.ret v,H)
end Go.Vm
namespace Go.Vm
open Go
inductive Loc where
 |slot (d t:Nat)
 |cell (b off:Nat)
 |ret
 deriving DecidableEq
structure Ob where
 adr:Nat->Addr
 lo:Nat->Prop
instance : CoeFun Ob (fun _=>Nat->Addr):=⟨Ob.adr⟩
structure Gh where
 M:Nat->Nat->Option Value
 blk:Nat->Nat
 obj:Ob
 own:Nat->Option Loc
 lk:Nat->Nat->Value
 hdr:Nat->Nat->Option Value
abbrev V.one (v:V):Bool:=oneV v
theorem zd {α:Type}:∀ (l:List α) (n:Nat),nth l n=l[n]?
 | [],_=>by simp [nth]
 | _::_,0=>by simp [nth]
 | _::xs,n+1=>by simp [nth,zd xs n]
section force
variable {α β:Type}
theorem zH (n:Nat) (k:Nat->β):jM n k=k n:=by cases n<;>rfl
theorem zog (n:Int) (k:Int->β):zpZ n k=k n:=by cases n<;>simp [zpZ,zH]
theorem fNats_eq:∀ (l:List Nat) (k:List Nat->β),zjJ l k=k l
 | [],_=>rfl
 | x::xs,k=>by simp [zjJ,zH,fNats_eq xs]
theorem fL_eq:∀ (l:List α) (k:List α->β),fL l k=k l
 | [],_=>rfl
 | x::xs,k=>by simp [fL,fL_eq xs]
theorem zpM (v:V) (k:V->β):fC v k=k v:=by
 unfold fC;split<;>simp [zog,fNats_eq,zH,fL_eq]
theorem fCs_eq:∀ (l:List V) (k:List V->β),fCs l k=k l
 | [],_=>rfl
 | x::xs,k=>by simp [fCs,zpM,fCs_eq xs]
theorem zI (v:V) (k:V->β):fV v k=k v:=by
 unfold fV;split<;>simp [fCs_eq,zpM]
theorem fSet_eq:∀ (l:List α) (n:Nat) (v:α) (k:List α->β),zg5 l n v k=k (l.set n v)
 | [],_,_,_=>rfl
 | _::_,0,_,_=>rfl
 | x::xs,n+1,v,k=>by simp [zg5,fSet_eq xs]
theorem zB (H:Hp) (b:Blk) (k:Nat->Hp->β):zaE H b k=k H.blks.length (H.push b):=by
 cases H;simp [zaE,zH,fL_eq,Hp.push]
theorem zR (H:Hp) (b:Nat) (x:Blk) (v:V) (k:Hp->β):zdq H b x v k=k ((H.set b x).edge b v):=by
 cases H;simp only [zdq,fSet_eq,zH,Hp.set,Hp.edge];split<;>rfl
theorem zS (env:List V) (dst:Option Tmp) (v:V) (k:List V->β):zds env dst v k=k (putA env dst v):=by
 cases dst<;>simp [zds,putA,zI,fSet_eq]
end force
theorem zfO {P:Program} {H:Hp} {a:TypeId} {v:V} (hv:∀ b o l c,v≠.sr b o l c):ziL P H a v=some v:=by
 unfold ziL;split
 ·exact absurd rfl (hv _ _ _ _)
 ·rfl
theorem zoh {P:Program} {H:Hp} {a:TypeId} {sz:Nat} {xs:List V} {o:Own}:ziL P H a (.sl sz xs o)=some (.sl sz xs o):=zfO (by simp)
def zo (xs:List V):List V:=xs.flatMap V.cells
def bytes (s:List Nat):ByteArray:=⟨(s.map UInt8.ofNat).toArray⟩
inductive RelV (g:Gh):V->Value->Prop where
 |bool (b:Bool):RelV g (.bool b) (.bool b)
 |int (k:IntKind) (n:Int):RelV g (.int k n) (.int k n)
 |str {s:List Nat}:(∀ b:Nat,b∈s->b<256)->RelV g (.str s) (.string (bytes s))
 |nilp:RelV g .nilp (.pointer none)
 |ptr (b off:Nat):RelV g (.ptr b off) (.pointer (some ⟨g.blk b,off,none⟩))
 |gptr (k off:Nat):RelV g (.gptr k off) (.pointer (some ⟨k,off,none⟩))
 |obj (k:Nat):RelV g (.obj k) (.pointer (some (g.obj k)))
 |vp {cs:List V} {c o:Nat} (f:Nat->Value):(∀ (j:Nat) (x:V),cs[j]?=some x->x.one=true)->(∀ (j:Nat) (x:V),cs[j]?=some x->g.M c (o+j)=some (f j))->(∀ (j:Nat) (x:V),cs[j]?=some x->RelV g x (f j)) ->
   RelV g (.vp cs) (.pointer (some ⟨c,o,none⟩))
 |snil:RelV g .snil (.slice none 0 0)
 |sl {sz:Nat} {xs:List V} {ow:Own} {a:Option Addr} {cap c o:Nat} (f:Nat->Value):(∀ x:V,x∈xs->x.cells.length=sz)->xs.length<=cap->(xs≠[]->a=some ⟨c,o,none⟩) ->
   (∀ (j:Nat) (x:V),(zo xs)[j]?=some x->x.one=true)->(∀ (j:Nat) (x:V),(zo xs)[j]?=some x->g.M c (o+j)=some (f j))->(∀ (j:Nat) (x:V),(zo xs)[j]?=some x->RelV g x (f j)) ->
   RelV g (.sl sz xs ow) (.slice a xs.length cap)
 |sr {b off len cap:Nat}:len<=cap->RelV g (.sr b off len cap) (.slice (some ⟨g.blk b,off,none⟩) len cap)
 |nilm:RelV g .nilm (.map none)
 |map (b:Nat):RelV g (.map b) (.map (some (g.blk b)))
 |nilf:RelV g .nilf .nilFunc
 |fn {f:Fn} {as cs:List V} {fa fc:Array Value}:as.length=fa.size->cs.length=fc.size->(∀ (j:Nat) (x:V) (v:Value),as[j]?=some x->fa[j]?=some v->RelV g x v) ->
   (∀ (j:Nat) (x:V) (v:Value),cs[j]?=some x->fc[j]?=some v->RelV g x v)->RelV g (.fn f as cs) (.func f fa fc)
 |nili:RelV g .nili .nilIface
 |ifc {t:TypeId} {v:V} {cv:Value}:RelV g v cv->RelV g (.ifc t v) (.iface t cv)
 |agg {cs:List V} {arr:Array Value}:cs.length=arr.size->(∀ (j:Nat) (x:V),cs[j]?=some x->x.one=true)->(∀ (j:Nat) (x:V) (v:Value),cs[j]?=some x->arr[j]?=some v->RelV g x v)->RelV g (.agg cs) (.agg arr)
 |tup {cs:List V} {arr:Array Value}:cs.length=arr.size->(∀ (j:Nat) (x:V) (v:Value),cs[j]?=some x->arr[j]?=some v->RelV g x v)->RelV g (.tup cs) (.tuple arr)
 |ulr {b u len cap c o:Nat}:g.hdr b u=some (.slice (some ⟨c,o,none⟩) len cap)->RelV g (.ulr b u len) (.slice (some ⟨c,o,none⟩) len cap)
 |ulp {b u len cap c o:Nat} (k:Nat):g.hdr b u=some (.slice (some ⟨c,o,none⟩) len cap)->RelV g (.ulp b u k) (.pointer (some ⟨c,o+k,none⟩))
 |junk (v:Value):RelV g .junk v
theorem zg {x:V}:∀ {cs:List V},x∈cs->x.top<=tops cs
 | c::cs,h=>by
  simp only [tops];rcases zAK.1 h with rfl|h
  ·exact zBT _ _
  ·exact zAM (zg h) (zBm _ _)
theorem zN {n:Nat}:∀ {cs:List V},(∀ x∈cs,x.top<=n)->tops cs<=n
 | [],_=>zAW _
 | c::cs,h=>by
  simp only [tops];exact zBO.2 ⟨h c (zAL ..),zN fun x hx=>h x (zAE _ hx)⟩
theorem zag {x y:V} (h:y∈x.cells):y.top<=x.top:=by
 cases x<;>simp only [V.cells,zAp] at h<;>try (subst h;exact zAO _)
 simp only [V.top];exact zg h
theorem zdu {xs:List V} {y:V} (h:y∈zo xs):y.top<=tops xs:=by
 obtain ⟨x,hx,hy⟩:=List.mem_flatMap.1 h;exact zAM (zag hy) (zg hx)
theorem top_clr (v:V):(clr v).top=v.top:=by
 cases v<;>rfl
theorem qo:∀ (cs:List V),tops (cs.map clr)=tops cs
 | []=>rfl
 | c::cs=>by simp [tops,top_clr,qo cs]
theorem zfP (v:V):(clr v).one=v.one:=by cases v<;>rfl
theorem RelV.clr {g:Gh} {v:V} {cv:Value} (h:RelV g v cv):RelV g (clr v) cv:=by
 cases h<;>first
  |constructor<;>assumption
  |(rename_i f h1 h2 h3 h4 h5 h6;exact .sl f h1 h2 h3 h4 h5 h6)
  |(rename_i f h1 h2 h3;exact .vp f h1 h2 h3)
structure Gh.Le (n:Nat) (g g':Gh):Prop where
 M:∀ c o v,g.M c o=some v->g'.M c o=some v
 blk:∀ b,b<n->g'.blk b=g.blk b
 obj:g'.obj=g.obj
 hdr:∀ b u v,b<n->g.hdr b u=some v->g'.hdr b u=some v
theorem Gh.Le.refl (n:Nat) (g:Gh):Gh.Le n g g:=⟨fun _ _ _ h=>h,fun _ _=>rfl,rfl,fun _ _ _ _ h=>h⟩
theorem Gh.Le.trans {n:Nat} {a b c:Gh} (h:Gh.Le n a b) (k:Gh.Le n b c):Gh.Le n a c :=
 ⟨fun _ _ _ e=>k.M _ _ _ (h.M _ _ _ e),fun i hi=>(k.blk i hi).trans (h.blk i hi),k.obj.trans h.obj,fun b u v hb e=>k.hdr b u v hb (h.hdr b u v hb e)⟩
theorem Gh.Le.mono {n m:Nat} {a b:Gh} (h:Gh.Le n a b) (hm:m<=n):Gh.Le m a b:=⟨h.M,fun i hi=>h.blk i (zAh hi hm),h.obj,fun b u v hb e=>h.hdr b u v (zAh hb hm) e⟩
theorem zl {α:Type} {l:List α} {j:Nat} {x:α} (h:l[j]?=some x):x∈l:=zAb h
theorem RelV.le {n:Nat} {g g':Gh} (hg:Gh.Le n g g') {v:V} {cv:Value} (h:RelV g v cv):v.top<=n->RelV g' v cv:=by
 induction h with
 | bool b=>intro _;exact .bool b
 | int k m=>intro _;exact .int k m
 | str h=>intro _;exact .str h
 | nilp=>intro _;exact .nilp
 | ptr b off=>intro ht;simp only [V.top] at ht;rw [<- hg.blk b (by omega)];exact .ptr b off
 | gptr k off=>intro _;exact .gptr k off
 | obj k=>intro _;rw [<- hg.obj];exact .obj k
 | vp f h1 h2 _ ih=>intro ht;exact .vp f h1 (fun j x hx=>hg.M _ _ _ (h2 j x hx)) fun j x hx=>ih j x hx (zAM (zg (zl hx)) ht)
 | snil=>intro _;exact .snil
 | sl f h1 h2 h3 h4 h5 _ ih=>intro ht;exact .sl f h1 h2 h3 h4 (fun j x hx=>hg.M _ _ _ (h5 j x hx)) fun j x hx=>ih j x hx (zAM (zdu (zl hx)) ht)
 | sr hl=>intro ht;simp only [V.top] at ht;rw [<- hg.blk _ (by omega)];exact .sr hl
 | nilm=>intro _;exact .nilm
 | map b=>intro ht;simp only [V.top] at ht;rw [<- hg.blk b (by omega)];exact .map b
 | nilf=>intro _;exact .nilf
 | fn h1 h2 _ _ iha ihc =>
  intro ht;simp only [V.top] at ht;have:=zBO.1 ht;exact .fn h1 h2 (fun j x v hx hv=>iha j x v hx hv (zAM (zg (zl hx)) this.1)) (fun j x v hx hv=>ihc j x v hx hv (zAM (zg (zl hx)) this.2))
 | nili=>intro _;exact .nili
 | ifc _ ih=>intro ht;exact .ifc (ih ht)
 | agg h1 h2 _ ih=>intro ht;exact .agg h1 h2 fun j x v hx hv=>ih j x v hx hv (zAM (zg (zl hx)) ht)
 | tup h1 _ ih=>intro ht;exact .tup h1 fun j x v hx hv=>ih j x v hx hv (zAM (zg (zl hx)) ht)
 | ulr h=>intro ht;simp only [V.top] at ht;exact .ulr (hg.hdr _ _ _ (by omega) h)
 | ulp k h=>intro ht;simp only [V.top] at ht;exact .ulp k (hg.hdr _ _ _ (by omega) h)
 | junk v=>intro _;exact .junk v
theorem RelV.oneCell {g:Gh} {v:V} {cv:Value} (h:RelV g v cv) (h1:v.one=true):cv.oneCell'=true:=by
 cases h<;>first|rfl|(simp [V.one,oneV] at h1)
def rowAt (w:World) (e sz:Nat) (cv:Value) (n:Nat) (xs:List Value):Prop :=
 xs.length=n * sz/\((cv=.slice none 0 0/\n=0)\/∃ c o cap cur,cv=.slice (some ⟨c,o,none⟩) n cap/\w.heap[c]?=some (.cells cur e (0,0))/\n<=cap/\cap<=maxLen/\(cap=0\/cur.size=o+cap * sz)/\(cur.toList.drop o).take (n * sz)=xs)
def rowFree (sz len:Nat) (M:Nat->Option Value):Value->Prop
 | .slice (some a) _ cap=>∀ j,a.off+len * sz<=j->j<a.off+cap * sz->M j=none
 | _=>True
def OwnAt (g:Gh) (n:Nat) (w:World) (l:Loc) (e sz len:Nat) (cv:Value):Prop :=
 ∃ xs,rowAt w e sz cv len xs/\∀ c,cv.ownBlock=some c->g.own c=some l/\rowFree sz len (g.M c) cv/\(∀ b,b<n->g.blk b≠c)
theorem rowFree.eq {sz len:Nat} {M M':Nat->Option Value} {cv:Value} (h:rowFree sz len M cv) (hm:∀ j,M' j=M j):rowFree sz len M' cv:=by
 unfold rowFree at *;split
 ·rename_i a _ cap;intro j h1 h2;rw [hm];exact h j h1 h2
 ·trivial
theorem zg7 {w:World} {e sz n:Nat} {cv:Value} {xs:List Value} (h:w.ownsRow 0 e sz cv n xs):rowAt w e sz cv n xs:=by
 obtain ⟨h1,h|⟨c,cap,cur,h2,_,h3,h4,h5,h6,h7⟩⟩:=h
 ·exact ⟨h1,.inl h⟩
 ·exact ⟨h1,.inr ⟨c,0,cap,cur,h2,h3,h4,h5,.inr (by omega),by rw [zBo];exact h7⟩⟩
theorem rowAt.lt {w:World} {e sz n:Nat} {cv:Value} {xs:List Value} (h:rowAt w e sz cv n xs):∀ c,cv.ownBlock=some c->c<w.heap.size:=by
 obtain ⟨_,⟨rfl,_⟩|⟨c,o,cap,cur,rfl,h3,_⟩⟩:=h
 ·intro c hc;cases hc
 ·intro c' hc;cases hc;exact (zAX.1 h3).1
theorem rowAt.cells {w:World} {e sz n:Nat} {c o cap:Nat} {xs:List Value} (h:rowAt w e sz (.slice (some ⟨c,o,none⟩) n cap) n xs):∀ j u,xs[j]?=some u->w.cell? ⟨c,o+j,none⟩=some u:=by
 obtain ⟨_,⟨h,_⟩|⟨c,o,cap,cur,h,h3,_,_,_,rfl⟩⟩:=h
 ·cases h
 ·cases h;intro j u hu;rw [cell_of_row w _ _ cur _ _ h3];rw [zA4] at hu;split at hu
  ·rw [zBQ] at hu;simpa using hu
  ·cases hu
def OwnV (g:Gh) (n:Nat) (w:World) (l:Loc):V->Value->Prop
 | .sl sz xs (.yes e),cv=>OwnAt g n w l e sz xs.length cv
 | _,_=>True
def zdv (g:Gh) (b off:Nat):V->Value->Prop
 | .sl _ _ .lock,cv=>cv=g.lk b off
 | _,_=>True
def Blk.top:Blk->Nat
 | .cells cs _=>tops cs
 | .map es=>max (tops (es.map (·.1))) (tops (es.map (·.2)))
 | .iter _ _=>0
 | .ul _ _ cs _=>tops cs
structure UlOk (g:Gh) (n:Nat) (w:World) (b ver sz:Nat) (cs:List V) (e:TypeId) (c len cap:Nat) (vs:List Value):Prop where
 hdr:g.hdr b ver=some (.slice (some ⟨c,0,none⟩) len cap)
 pos:0<sz
 row:w.ownsRow 0 e sz (.slice (some ⟨c,0,none⟩) len cap) len vs
 mine:c=g.blk b\/g.own c=some (.cell b 0)
 M:∀ o,g.M c o=none
 others:∀ b',b'<n->b'≠b->g.blk b'≠c
 len:cs.length=vs.length
 cells:∀ (j:Nat) (x:V) (v:Value),cs[j]?=some x->vs[j]?=some v->x.one=true/\RelV g x v
 fresh:∀ u,ver<u->g.hdr b u=none
def BlkOk (g:Gh) (n:Nat) (w:World) (b:Nat):Blk->Prop
 | .cells cs t=>∃ arr,w.heap[g.blk b]?=some (.cells arr t (0,0))/\cs.length=arr.size /\
   ∀ (j:Nat) (x:V) (v:Value),cs[j]?=some x->arr[j]?=some v->x.one=true/\RelV g x v/\OwnV g n w (.cell b j) x v/\zdv g b j x v
 | .map es=>∃ en ck,w.heap[g.blk b]?=some (.map en ck)/\es.length=en.size/\∀ (j:Nat) (x:V×V) (me:MapEntry),es[j]?=some x->en[j]?=some me->RelV g x.1 me.key/\RelV g x.2 me.val
 | .iter s pos=>w.heap[g.blk b]?=some (.stringIter (bytes s) pos)/\∀ b:Nat,b∈s->b<256
 | .ul ver sz cs e=>∃ c len cap vs,UlOk g n w b ver sz cs e c len cap vs
structure Wok (g:Gh) (bs:List Blk) (w:World):Prop where
 mem:∀ c o v,g.M c o=some v->w.cell? ⟨c,o,none⟩=some v
 lt:∀ b,b<bs.length->g.blk b<w.heap.size
 inj:∀ b b',b<bs.length->b'<bs.length->g.blk b=g.blk b'->b=b'
 apart:∀ b,b<bs.length->∀ o,g.M (g.blk b) o=none
 ownlt:∀ c l,g.own c=some l->c<w.heap.size
 unowned:∀ b,b<bs.length->g.own (g.blk b)=none
 ok:∀ (b:Nat) (x:Blk),bs[b]?=some x->BlkOk g bs.length w b x
 tops:∀ (b:Nat) (x:Blk),bs[b]?=some x->x.top<=bs.length
 laid:∀ c,g.obj.lo c->(∃ cs t,w.heap[c]?=some (.cells cs t (0,0)))/\g.own c=none/\∀ b,b<bs.length->g.blk b≠c
def Prot (d n:Nat) (g:Gh) (w:World) (c:Nat):Prop :=
 c<w.heap.size/\(∀ b,b<n->g.blk b≠c)/\(g.own c=none\/∃ d' t,g.own c=some (.slot d' t)/\d<d')
def zP (bs:List Blk) (b off:Nat):Prop:=∃ cs t sz xs,bs[b]?=some (.cells cs t)/\cs[off]?=some (.sl sz xs .lock)
structure Fr (d:Nat) (bs:List Blk) (g:Gh) (w:World) (g':Gh) (w':World):Prop where
 le:Gh.Le bs.length g g'
 heap:∀ c,Prot d bs.length g w c->w'.heap[c]?=w.heap[c]?
 own:∀ c,Prot d bs.length g w c->g'.own c=g.own c
 M:∀ c,Prot d bs.length g w c->∀ o,g'.M c o=g.M c o
 size:w.heap.size<=w'.heap.size
 lk:∀ b off,zP bs b off->g'.lk b off=g.lk b off
 os:w'.os=w.os
 tape:w'.tape=w.tape
 output:w'.output=w.output
theorem Fr.refl (d:Nat) (bs:List Blk) (g:Gh) (w:World):Fr d bs g w g w :=
 ⟨.refl _ _,fun _ _=>rfl,fun _ _=>rfl,fun _ _ _=>rfl,zAO _,fun _ _ _=>rfl,rfl,rfl,rfl⟩
theorem Fr.trans {d:Nat} {bs0 bs:List Blk} {g0 g g':Gh} {w0 w w':World} (h1:Fr d bs0 g0 w0 g w) (hlen:bs0.length<=bs.length)
  (hnew:∀ b,bs0.length<=b->b<bs.length->w0.heap.size<=g.blk b) (hlk:∀ b off,zP bs0 b off->zP bs b off) (h2:Fr d bs g w g' w'):Fr d bs0 g0 w0 g' w':=by
 have hp:∀ c,Prot d bs0.length g0 w0 c->Prot d bs.length g w c:=fun c hc=>by
  refine ⟨zAh hc.1 h1.size,fun b hb e=>?_,by rw [h1.own c hc];exact hc.2.2⟩
  rcases zAZ b bs0.length with hlt|hge
  ·exact hc.2.1 b hlt ((h1.le.blk b hlt).symm.trans e)
  ·have:=hnew b hge hb;have:=hc.1;omega
 exact ⟨h1.le.trans (h2.le.mono hlen),fun c hc=>(h2.heap c (hp c hc)).trans (h1.heap c hc),fun c hc=>(h2.own c (hp c hc)).trans (h1.own c hc),
  fun c hc o=>(h2.M c (hp c hc) o).trans (h1.M c hc o),zAM h1.size h2.size,fun b off hl=>(h2.lk b off (hlk b off hl)).trans (h1.lk b off hl),
  h2.os.trans h1.os,h2.tape.trans h1.tape,h2.output.trans h1.output⟩
def zg8 (bs0:List Blk) (H:Hp):Prop :=
 ∀ (b:Nat) (x:Blk),H.blks[b]?=some x->x.top<=b+1\/(∃ m,(b,m)∈H.edges/\x.top<=m)\/∃ y:Blk,bs0[b]?=some y/\x.top<=y.top
structure Pend where
 t:Nat
 v:V
 cv:Value
 at_:Option (Nat×Nat)
structure Base where
 d:Nat
 bs:List Blk
 g:Gh
 w:World
 pend:List Pend
def zaA (B:Base) (b off:Nat):Prop:=zP B.bs b off\/∃ q∈B.pend,q.at_=some (b,off)
def FnRel (g:Gh) (n:Nat) (x:V×List V) (d:Deferred):Prop :=
 ∃ (f:FuncId) (as cs:List V) (fc:Array Value),x.1=.fn (.func f) as cs/\d.target=.fn (.func f) fc/\(as++x.2).length=d.args.size/\cs.length=fc.size/\(∀ (j:Nat) (y:V) (v:Value),(as++x.2)[j]?=some y->d.args[j]?=some v->RelV g y v) /\
  (∀ (j:Nat) (y:V) (v:Value),cs[j]?=some y->fc[j]?=some v->RelV g y v)/\tops (as++x.2)<=n/\tops cs<=n
def DefRel (g:Gh) (n:Nat) (x:V×List V) (d:Deferred):Prop:=FnRel g n x d\/(x=(.nilp,[])/\∃ D,d={ target:=.collected D,args:=#[] })
def zro (g:Gh) (n:Nat) (w:World) (D:Nat):Prop:=w.heap[D]?=some (.deferred (some []))/\(∀ b,b<n->g.blk b≠D)/\g.own D=none
structure Rel (B:Base) (g:Gh) (s:St) (a:Act) (w:World):Prop where
 wok:Wok g s.H.blks w
 len:s.env.length=a.tmps.size
 env:∀ (t:Nat) (x:V) (v:Value),s.env[t]?=some x->a.tmps[t]?=some v->RelV g x v/\OwnV g s.H.blks.length w (.slot B.d t) x v
 envTop:∀ (t:Nat) (x:V),s.env[t]?=some x->x.top<=s.H.blks.length
 n0:B.bs.length<=s.H.blks.length
 edges:zg8 B.bs s.H
 newer:∀ b,B.bs.length<=b->b<s.H.blks.length->B.w.heap.size<=g.blk b
 fr:Fr B.d B.bs B.g B.w g w
 lks:∀ b off,zaA B b off->zP s.H.blks b off
 lkl:∀ p∈s.lk,¬ zaA B p.1 p.2
 pend:∀ p∈B.pend,s.env.length<p.t/\RelV g p.v p.cv/\OwnV g s.H.blks.length w (.slot B.d p.t) p.v p.cv/\p.v.top<=s.H.blks.length/\∀ b off,p.at_=some (b,off)->g.lk b off=p.cv
 deflen:s.defers.length=a.defers.length
 defers:∀ (j:Nat) (x:V×List V) (d:Deferred),s.defers[j]?=some x->a.defers[j]?=some d->DefRel g s.H.blks.length x d
 marks:∀ d∈a.defers,∀ D,d.target=.collected D->B.w.heap.size<=D/\zro g s.H.blks.length w D
 mdis:a.defers.Pairwise fun d d'=>∀ D,d.target=.collected D->d'.target≠.collected D
structure Same (d:Nat) (b0:Option Nat) (l0:Option Loc) (n:Nat) (g:Gh) (w:World) (g':Gh) (w':World):Prop where
 le:Gh.Le n g g'
 heap:∀ c,c<w.heap.size->(∀ b,b0=some b->g.blk b≠c)->(∀ l,l0=some l->g.own c≠some l)->w'.heap[c]?=w.heap[c]?
 own:∀ c,c<w.heap.size->(∀ l,l0=some l->g.own c≠some l)->g'.own c=g.own c
 M:∀ c,c<w.heap.size->(∀ l,l0=some l->g.own c≠some l)->∀ o,g'.M c o=g.M c o
 size:w.heap.size<=w'.heap.size
 lk:∀ b off,(∀ l,l0=some l->l≠.cell b off)->g'.lk b off=g.lk b off
 l0ok:∀ l,l0=some l->(∃ t,l=.slot d t)\/∃ b j,l=.cell b j/\b0=some b
 b0lt:∀ b,b0=some b->b<n
 hdr:∀ b u,b<n->b0≠some b->g'.hdr b u=g.hdr b u
 os:w'.os=w.os
 tape:w'.tape=w.tape
 output:w'.output=w.output
theorem zcZ {w w':World} {base e sz:Nat} {cv:Value} {n:Nat} {xs:List Value} (h:w.ownsRow base e sz cv n xs) (hh:∀ c,cv.ownBlock=some c->w'.heap[c]?=w.heap[c]?) :
  w'.ownsRow base e sz cv n xs:=by
 refine ⟨h.1,h.2.imp id ?_⟩;rintro ⟨c,cap,cur,rfl,hb,hc,r⟩;exact ⟨c,cap,cur,rfl,hb,by rw [hh c rfl];exact hc,r⟩
theorem zaF {w w':World} {e sz:Nat} {cv:Value} {n:Nat} {xs:List Value} (h:rowAt w e sz cv n xs) (hh:∀ c,cv.ownBlock=some c->w'.heap[c]?=w.heap[c]?):rowAt w' e sz cv n xs:=by
 refine ⟨h.1,h.2.imp id ?_⟩;rintro ⟨c,o,cap,cur,rfl,hc,r⟩;exact ⟨c,o,cap,cur,rfl,by rw [hh c rfl];exact hc,r⟩
theorem OwnAt.lt {g:Gh} {n:Nat} {w:World} {l:Loc} {e sz len:Nat} {cv:Value} (h:OwnAt g n w l e sz len cv):∀ c,cv.ownBlock=some c->c<w.heap.size:=by
 obtain ⟨xs,ho,_⟩:=h;exact fun c hc=>ho.lt c hc
def ze1 (g:Gh) (l0:Option Loc) (w:World) (c:Nat):Prop:=w.heap.size<=c\/∃ l,l0=some l/\g.own c=some l
theorem OwnAt.same' {d:Nat} {b0:Option Nat} {l0:Option Loc} {n n':Nat} {g g':Gh} {w w':World} (hs:Same d b0 l0 n g w g' w') {l:Loc} (hl:l0≠some l)
  (hn:∀ b,n<=b->b<n'->ze1 g l0 w (g'.blk b)) {e sz len:Nat} {cv:Value} (h:OwnAt g n w l e sz len cv):OwnAt g' n' w' l e sz len cv:=by
 have hlt:=h.lt;obtain ⟨xs,ho,hc⟩:=h;have hne:∀ c,cv.ownBlock=some c->∀ l',l0=some l'->g.own c≠some l':=fun c hcc l' hl' e=>by
  rw [(hc c hcc).1] at e;cases e;exact hl hl'
 refine ⟨xs,zaF ho fun c hcc=>hs.heap c (hlt c hcc) (fun b hb=>(hc c hcc).2.2 b (hs.b0lt b hb)) (hne c hcc),fun c hcc=>⟨?_,?_,?_⟩⟩
 ·rw [hs.own c (hlt c hcc) (hne c hcc)];exact (hc c hcc).1
 ·exact (hc c hcc).2.1.eq fun o=>hs.M c (hlt c hcc) (hne c hcc) o
 ·intro b hb e;rcases zAZ b n with h1|h1
  ·exact (hc c hcc).2.2 b h1 ((hs.le.blk b h1).symm.trans e)
  ·have:=hlt c hcc;rcases hn b h1 hb with h2|⟨l',h2,h3⟩
   ·omega
   ·rw [e,(hc c hcc).1] at h3;cases h3;exact hl h2
theorem OwnAt.same {d:Nat} {b0:Option Nat} {l0:Option Loc} {n n':Nat} {g g':Gh} {w w':World} (hs:Same d b0 l0 n g w g' w') {l:Loc} (hl:l0≠some l)
  (hn:∀ b,n<=b->b<n'->w.heap.size<=g'.blk b) {e sz len:Nat} {cv:Value} (h:OwnAt g n w l e sz len cv):OwnAt g' n' w' l e sz len cv :=
 OwnAt.same' hs hl (fun b h1 h2=>.inl (hn b h1 h2)) h
theorem OwnV.same' {d:Nat} {b0:Option Nat} {l0:Option Loc} {n n':Nat} {g g':Gh} {w w':World} (hs:Same d b0 l0 n g w g' w') {l:Loc} (hl:l0≠some l)
  (hn:∀ b,n<=b->b<n'->ze1 g l0 w (g'.blk b)) {x:V} {cv:Value} (h:OwnV g n w l x cv):OwnV g' n' w' l x cv:=by
 unfold OwnV at *;split
 ·exact OwnAt.same' hs hl hn h
 ·trivial
theorem OwnV.same {d:Nat} {b0:Option Nat} {l0:Option Loc} {n n':Nat} {g g':Gh} {w w':World} (hs:Same d b0 l0 n g w g' w') {l:Loc} (hl:l0≠some l)
  (hn:∀ b,n<=b->b<n'->w.heap.size<=g'.blk b) {x:V} {cv:Value} (h:OwnV g n w l x cv):OwnV g' n' w' l x cv :=
 OwnV.same' hs hl (fun b h1 h2=>.inl (hn b h1 h2)) h
theorem jf (g:Gh) (n:Nat) (w:World) (l:Loc) (x:V) (cv:Value):OwnV g n w l (clr x) cv:=by
 cases x<;>simp [clr,OwnV]
theorem BlkOk.same' {d:Nat} {b0:Option Nat} {l0:Option Loc} {n n':Nat} {g g':Gh} {w w':World} (hs:Same d b0 l0 n g w g' w') {b:Nat} (hb:b0≠some b) (hbn:b<n)
  (hlt:g.blk b<w.heap.size) (hown:g.own (g.blk b)=none) (hinj:∀ b',b0=some b'->g.blk b'≠g.blk b)
  (hn:∀ b,n<=b->b<n'->ze1 g l0 w (g'.blk b)) {x:Blk} (htop:x.top<=n) (h:BlkOk g n w b x):BlkOk g' n' w' b x:=by
 have hne:∀ l,l0=some l->g.own (g.blk b)≠some l:=by
  intro l _;rw [hown];simp
 have hheap:w'.heap[g'.blk b]?=w.heap[g.blk b]?:=by
  rw [hs.le.blk b hbn];exact hs.heap _ hlt hinj hne
 have hcell:∀ j,l0≠some (.cell b j):=fun j e=>by
  rcases hs.l0ok _ e with ⟨t,ht⟩|⟨b',j',he,hb'⟩
  ·cases ht
  ·cases he;exact hb hb'
 cases x with
 | cells cs t =>
  obtain ⟨arr,ha,hl,hj⟩:=h;refine ⟨arr,hheap.trans ha,hl,fun j x v hx hv=>?_⟩;obtain ⟨h1,h2,h3,h4⟩:=hj j x v hx hv;have hxt:x.top<=n:=zAM (zg (zl hx)) htop;refine ⟨h1,h2.le hs.le hxt,OwnV.same' hs (hcell j) hn h3,?_⟩;unfold zdv at *;split
  ·rw [hs.lk b j fun l hl e=>hcell j (e ▸ hl)];exact h4
  ·trivial
 | map es =>
  obtain ⟨en,ck,ha,hl,hj⟩:=h;have ht:=zBO.1 (show max (tops (es.map (·.1))) (tops (es.map (·.2)))<=n from htop);refine ⟨en,ck,hheap.trans ha,hl,fun j x me hx hme=>?_⟩;obtain ⟨h1,h2⟩:=hj j x me hx hme;exact ⟨h1.le hs.le (zAM (zg (zBG (f:=(·.1)) (zl hx))) ht.1),h2.le hs.le (zAM (zg (zBG (f:=(·.2)) (zl hx))) ht.2)⟩
 | iter s pos=>exact ⟨hheap.trans h.1,h.2⟩
 | ul ver sz cs e =>
  obtain ⟨c,len,cap,vs,hu⟩:=h;have hlt:c<w.heap.size:=(hu.row.lt c rfl).2;have hno:∀ l,l0=some l->g.own c≠some l:=fun l hl' e'=>by
   rcases hu.mine with h1|h1
   ·exact hne l hl' (h1 ▸ e')
   ·rw [h1] at e';cases e';exact hcell 0 hl'
  have hnb:∀ b',b0=some b'->g.blk b'≠c:=fun b' hb'=>hu.others b' (hs.b0lt b' hb') fun e'=>hb (e' ▸ hb');refine ⟨c,len,cap,vs,?_,hu.pos,zcZ hu.row fun k hk=>?_,?_,fun o=>?_,fun b' hb' hne' e'=>?_,hu.len,fun j x v hx hv=>?_,fun u hlu=>?_⟩
  ·rw [hs.hdr b ver hbn hb];exact hu.hdr
  ·cases hk;exact hs.heap c hlt hnb hno
  ·rw [hs.le.blk b hbn,hs.own c hlt hno];exact hu.mine
  ·rw [hs.M c hlt hno];exact hu.M o
  ·rcases zAZ b' n with h1|h1
   ·exact hu.others b' h1 hne' ((hs.le.blk b' h1).symm.trans e')
   ·rcases hn b' h1 hb' with h2|⟨l,h2,h3⟩
    ·omega
    ·exact hno l h2 (e' ▸ h3)
  ·obtain ⟨h1,h2⟩:=hu.cells j x v hx hv;exact ⟨h1,h2.le hs.le (zAM (zg (zl hx)) htop)⟩
  ·rw [hs.hdr b u hbn hb];exact hu.fresh u hlu
theorem BlkOk.same {d:Nat} {b0:Option Nat} {l0:Option Loc} {n n':Nat} {g g':Gh} {w w':World} (hs:Same d b0 l0 n g w g' w') {b:Nat} (hb:b0≠some b) (hbn:b<n)
  (hlt:g.blk b<w.heap.size) (hown:g.own (g.blk b)=none) (hinj:∀ b',b0=some b'->g.blk b'≠g.blk b)
  (hn:∀ b,n<=b->b<n'->w.heap.size<=g'.blk b) {x:Blk} (htop:x.top<=n) (h:BlkOk g n w b x):BlkOk g' n' w' b x :=
 BlkOk.same' hs hb hbn hlt hown hinj (fun b h1 h2=>.inl (hn b h1 h2)) htop h
theorem Same.fr {d:Nat} {b0:Option Nat} {l0:Option Loc} {bs:List Blk} {g g':Gh} {w w':World} (hs:Same d b0 l0 bs.length g w g' w') (hl:∀ b j,l0=some (.cell b j)->¬ zP bs b j) :
  Fr d bs g w g' w':=by
 have hne:∀ c,Prot d bs.length g w c->∀ l,l0=some l->g.own c≠some l:=by
  intro c hc l hl' e;rcases hc.2.2 with h0|⟨d',t,h1,hd⟩
  ·rw [h0] at e;cases e
  ·rw [h1] at e;cases e;rcases hs.l0ok _ hl' with ⟨t',ht⟩|⟨b,j,hj,_⟩
   ·cases ht;omega
   ·cases hj
 exact ⟨hs.le,fun c hc=>hs.heap c hc.1 (fun b hb=>hc.2.1 b (hs.b0lt b hb)) (hne c hc),fun c hc=>hs.own c hc.1 (hne c hc),fun c hc=>hs.M c hc.1 (hne c hc),hs.size,
  fun b off hlk=>hs.lk b off fun l hl' e=>hl b off (e ▸ hl') hlk,hs.os,hs.tape,hs.output⟩
theorem FnRel.le {n n':Nat} {g g':Gh} (hg:Gh.Le n g g') (hn:n<=n') {x:V×List V} {d:Deferred} (h:FnRel g n x d):FnRel g' n' x d:=by
 obtain ⟨f,as,cs,fc,h1,h2,h3,h4,h5,h6,h7,h8⟩:=h
 exact ⟨f,as,cs,fc,h1,h2,h3,h4,fun j y v hy hv=>(h5 j y v hy hv).le hg (zAM (zg (zl hy)) h7),fun j y v hy hv=>(h6 j y v hy hv).le hg (zAM (zg (zl hy)) h8),
  zAM h7 hn,zAM h8 hn⟩
theorem DefRel.le {n n':Nat} {g g':Gh} (hg:Gh.Le n g g') (hn:n<=n') {x:V×List V} {d:Deferred} (h:DefRel g n x d):DefRel g' n' x d:=h.imp (fun h=>h.le hg hn) id
theorem Rel.master' {B:Base} {g:Gh} {s:St} {a:Act} {w:World} (h:Rel B g s a w) {b0:Option Nat} {l0:Option Loc} {g':Gh} {w':World} (hs:Same B.d b0 l0 s.H.blks.length g w g' w') {s':St}
  (hlen:s.H.blks.length<=s'.H.blks.length)
  (hold:∀ b,b<s.H.blks.length->b0≠some b->s'.H.blks[b]?=s.H.blks[b]?)
  (hchg:∀ (b:Nat) (x:Blk),(b0=some b\/s.H.blks.length<=b)->s'.H.blks[b]?=some x->BlkOk g' s'.H.blks.length w' b x/\x.top<=s'.H.blks.length)
  (hnew:∀ b,s.H.blks.length<=b->b<s'.H.blks.length->(ze1 g l0 w (g'.blk b)/\B.w.heap.size<=g'.blk b)/\g'.blk b<w'.heap.size/\g'.own (g'.blk b)=none/\∀ o,g'.M (g'.blk b) o=none)
  (hinj:∀ b b',s.H.blks.length<=b->b<s'.H.blks.length->s.H.blks.length<=b'->b'<s'.H.blks.length->g'.blk b=g'.blk b'->b=b')
  (hmem:∀ c o v,g'.M c o=some v->w'.cell? ⟨c,o,none⟩=some v)
  (hownlt:∀ c l,g'.own c=some l->c<w'.heap.size)
  (hl0:∀ b j,l0=some (.cell b j)->¬ zP s.H.blks b j)
  (henvl:s'.env.length=s.env.length) (hdef:s'.defers=s.defers)
  (henv:∀ (t:Nat) (x:V),s'.env[t]?=some x->∃ y,s.env[t]?=some y/\(x=y/\l0≠some (.slot B.d t)\/x=clr y))
  (hedges:zg8 B.bs s'.H) (hlks:∀ b off,zaA B b off->zP s'.H.blks b off) (hlkl:∀ p∈s'.lk,¬ zaA B p.1 p.2) (hl1:∀ t,l0=some (.slot B.d t)->∀ p∈B.pend,p.t≠t):Rel B g' s' a w':=by
 have hn:∀ b,s.H.blks.length<=b->b<s'.H.blks.length->ze1 g l0 w (g'.blk b):=fun b h1 h2=>(hnew b h1 h2).1.1;have hnc:∀ b,s.H.blks.length<=b->b<s'.H.blks.length->∀ c,c<w.heap.size->(∀ l,l0=some l->g.own c≠some l)->g'.blk b≠c:=fun b h1 h2 c h3 h4 e=>by
  rcases hn b h1 h2 with h5|⟨l,h5,h6⟩
  ·omega
  ·exact h4 l h5 (e ▸ h6)
 have hne:∀ b,b<s.H.blks.length->∀ l,l0=some l->g.own (g.blk b)≠some l:=fun b hb l _=>by rw [h.wok.unowned b hb];simp
 have hblk:∀ b,b<s.H.blks.length->g'.blk b=g.blk b:=fun b hb=>hs.le.blk b hb;refine { wok:=?_,len:=henvl.trans h.len,env:=?_,envTop:=?_,n0:=zAM h.n0 hlen,edges:=hedges,newer:=?_,fr:=?_,lks:=hlks,lkl:=hlkl,pend:=?_,deflen:=by rw [hdef];exact h.deflen,defers:=?_,marks:=fun d hd D hD=>?_,mdis:=h.mdis }
 ·refine { mem:=hmem,lt:=?_,inj:=?_,apart:=?_,ownlt:=hownlt,unowned:=?_,ok:=?_,tops:=?_,laid:=?_ }
  ·intro b hb;rcases zAZ b s.H.blks.length with h1|h1
   ·rw [hblk b h1];exact zAh (h.wok.lt b h1) hs.size
   ·exact (hnew b h1 hb).2.1
  ·intro b b' hb hb' e;rcases zAZ b s.H.blks.length with h1|h1<;>rcases zAZ b' s.H.blks.length with h2|h2
   ·rw [hblk b h1,hblk b' h2] at e;exact h.wok.inj b b' h1 h2 e
   ·rw [hblk b h1] at e;exact absurd e.symm (hnc b' h2 hb' _ (h.wok.lt b h1) (hne b h1))
   ·rw [hblk b' h2] at e;exact absurd e (hnc b h1 hb _ (h.wok.lt b' h2) (hne b' h2))
   ·exact hinj b b' h1 hb h2 hb' e
  ·intro b hb o;rcases zAZ b s.H.blks.length with h1|h1
   ·rw [hblk b h1,hs.M _ (h.wok.lt b h1) (hne b h1)];exact h.wok.apart b h1 o
   ·exact (hnew b h1 hb).2.2.2 o
  ·intro b hb;rcases zAZ b s.H.blks.length with h1|h1
   ·rw [hblk b h1,hs.own _ (h.wok.lt b h1) (hne b h1)];exact h.wok.unowned b h1
   ·exact (hnew b h1 hb).2.2.1
  ·intro b x hx
   by_cases hc:b0=some b\/s.H.blks.length<=b
   ·exact (hchg b x hc hx).1
   ·have h1:b<s.H.blks.length:=by omega
    have h2:b0≠some b:=fun e=>hc (.inl e);rw [hold b h1 h2] at hx;exact BlkOk.same' hs h2 h1 (h.wok.lt b h1) (h.wok.unowned b h1) (fun b' hb' e=>h2 (by rw [hb',h.wok.inj b' b (hs.b0lt b' hb') h1 e])) hn (h.wok.tops b x hx) (h.wok.ok b x hx)
  ·intro b x hx
   by_cases hc:b0=some b\/s.H.blks.length<=b
   ·exact (hchg b x hc hx).2
   ·have h1:b<s.H.blks.length:=by omega
    rw [hold b h1 (fun e=>hc (.inl e))] at hx;exact zAM (h.wok.tops b x hx) hlen
  ·intro c hc;rw [hs.le.obj] at hc;obtain ⟨⟨cs,t,h1⟩,h2,h3⟩:=h.wok.laid c hc;have hlt:c<w.heap.size:=(zAX.1 h1).1;have hno:∀ l,l0=some l->g.own c≠some l:=fun l _=>by rw [h2];simp
   refine ⟨⟨cs,t,by rw [hs.heap c hlt (fun b hb=>h3 b (hs.b0lt b hb)) hno];exact h1⟩,by rw [hs.own c hlt hno];exact h2,fun b hb e=>?_⟩
   rcases zAZ b s.H.blks.length with h4|h4
   ·rw [hblk b h4] at e;exact h3 b h4 e
   ·exact hnc b h4 hb c hlt hno e
 ·intro t x v hx hv;obtain ⟨y,hy,hxy⟩:=henv t x hx;obtain ⟨h1,h2⟩:=h.env t y v hy hv;have h3:=h.envTop t y hy;rcases hxy with ⟨rfl,hl⟩|rfl
  ·exact ⟨h1.le hs.le h3,OwnV.same' hs hl hn h2⟩
  ·exact ⟨(h1.le hs.le h3).clr,jf _ _ _ _ _ _⟩
 ·intro t x hx;obtain ⟨y,hy,hxy⟩:=henv t x hx;have h3:=h.envTop t y hy;rcases hxy with ⟨rfl,_⟩|rfl
  ·exact zAM h3 hlen
  ·rw [top_clr];exact zAM h3 hlen
 ·intro b h1 h2;rcases zAZ b s.H.blks.length with h3|h3
  ·rw [hblk b h3];exact h.newer b h1 h3
  ·exact (hnew b h3 h2).1.2
 ·exact h.fr.trans h.n0 h.newer (fun b off hl=>h.lks b off (.inl hl)) (hs.fr hl0)
 ·intro p hp;obtain ⟨p1,p2,p3,p4,p5⟩:=h.pend p hp;refine ⟨by rw [henvl];exact p1,p2.le hs.le p4,OwnV.same' hs (fun e=>?_) hn p3,zAM p4 hlen,fun b off e=>?_⟩
  ·exact hl1 _ e p hp rfl
  ·rw [hs.lk b off fun l hl e'=>hl0 b off (e' ▸ hl) (h.lks b off (.inr ⟨p,hp,e⟩))];exact p5 b off e
 ·intro j x d hx hd;rw [hdef] at hx;exact (h.defers j x d hx hd).le hs.le hlen
 ·obtain ⟨h0,h1,h2,h3⟩:=h.marks d hd D hD;have hlt:D<w.heap.size:=(zAX.1 h1).1;have hno:∀ l,l0=some l->g.own D≠some l:=fun l _=>by rw [h3];simp
  refine ⟨h0,by rw [hs.heap D hlt (fun b hb=>h2 b (hs.b0lt b hb)) hno];exact h1,fun b hb e=>?_,by rw [hs.own D hlt hno];exact h3⟩
  rcases zAZ b s.H.blks.length with h4|h4
  ·rw [hblk b h4] at e;exact h2 b h4 e
  ·exact hnc b h4 hb D hlt hno e
theorem Rel.master {B:Base} {g:Gh} {s:St} {a:Act} {w:World} (h:Rel B g s a w) {b0:Option Nat} {l0:Option Loc} {g':Gh} {w':World} (hs:Same B.d b0 l0 s.H.blks.length g w g' w') {s':St}
  (hlen:s.H.blks.length<=s'.H.blks.length)
  (hold:∀ b,b<s.H.blks.length->b0≠some b->s'.H.blks[b]?=s.H.blks[b]?)
  (hchg:∀ (b:Nat) (x:Blk),(b0=some b\/s.H.blks.length<=b)->s'.H.blks[b]?=some x->BlkOk g' s'.H.blks.length w' b x/\x.top<=s'.H.blks.length)
  (hnew:∀ b,s.H.blks.length<=b->b<s'.H.blks.length->w.heap.size<=g'.blk b/\g'.blk b<w'.heap.size/\g'.own (g'.blk b)=none/\∀ o,g'.M (g'.blk b) o=none)
  (hinj:∀ b b',s.H.blks.length<=b->b<s'.H.blks.length->s.H.blks.length<=b'->b'<s'.H.blks.length->g'.blk b=g'.blk b'->b=b')
  (hmem:∀ c o v,g'.M c o=some v->w'.cell? ⟨c,o,none⟩=some v)
  (hownlt:∀ c l,g'.own c=some l->c<w'.heap.size)
  (hl0:∀ b j,l0=some (.cell b j)->¬ zP s.H.blks b j)
  (henvl:s'.env.length=s.env.length) (hdef:s'.defers=s.defers)
  (henv:∀ (t:Nat) (x:V),s'.env[t]?=some x->∃ y,s.env[t]?=some y/\(x=y/\l0≠some (.slot B.d t)\/x=clr y))
  (hedges:zg8 B.bs s'.H) (hlks:∀ b off,zaA B b off->zP s'.H.blks b off) (hlkl:∀ p∈s'.lk,¬ zaA B p.1 p.2) (hl1:∀ t,l0=some (.slot B.d t)->t<=s.env.length):Rel B g' s' a w' :=
 h.master' hs hlen hold hchg (fun b h1 h2=>⟨⟨.inl (hnew b h1 h2).1,zAM h.fr.size (hnew b h1 h2).1⟩,(hnew b h1 h2).2⟩) hinj hmem hownlt hl0 henvl hdef henv hedges hlks hlkl
  fun t e p hp e'=>by have:=hl1 t e;have:=(h.pend p hp).1;omega
end Go.Vm
namespace Go.Vm
open Go
mutual
theorem zb5 (g:Gh):∀ (v:Value) (x:V),ofVal v=some x->RelV g x v/\x.top=0
 | .bool b,x,h=>by simp only [ofVal,zAA] at h;subst h;exact ⟨.bool b,rfl⟩
 | .int k n,x,h=>by simp only [ofVal,zAA] at h;subst h;exact ⟨.int k n,rfl⟩
 | .float _ _,x,h=>by simp [ofVal] at h
 | .complex _ _ _,x,h=>by simp [ofVal] at h
 | .string s,x,h=>by
  simp only [ofVal,zAA] at h;subst h;have e:s=bytes (s.data.toList.map UInt8.toNat):=by
   cases s;simp [bytes,Function.comp_def]
  refine ⟨?_,rfl⟩
  conv=>rhs;rw [e]
  exact .str fun b hb=>by
   obtain ⟨c,_,rfl⟩:=zAo.1 hb;exact c.toNat_lt
 | .pointer a,x,h=>by
  cases a with
  | none=>simp only [ofVal,zAA] at h;subst h;exact ⟨.nilp,rfl⟩
  | some _=>simp [ofVal] at h
 | .slice a n c,x,h=>by
  unfold ofVal at h;split at h<;>first|(rename_i e;cases e;done)|skip
  all_goals first
   |(simp only [zAA] at h;subst h;rename_i e;cases e;first|exact ⟨.snil,rfl⟩)
   |(cases h;done)
   |(rename_i e;cases e)
 | .map r,x,h=>by
  cases r with
  | none=>simp only [ofVal,zAA] at h;subst h;exact ⟨.nilm,rfl⟩
  | some _=>simp [ofVal] at h
 | .chan _,x,h=>by simp [ofVal] at h
 | .func f ⟨as⟩ ⟨cs⟩,x,h=>by
  cases as with
  | nil=>cases cs with
   | nil =>
    simp only [ofVal,zAA] at h;subst h;exact ⟨.fn rfl rfl (fun j x v hx=>by simp at hx) (fun j x v hx=>by simp at hx),rfl⟩
   | cons _ _=>simp [ofVal] at h
  | cons _ _=>simp [ofVal] at h
 | .nilFunc,x,h=>by simp only [ofVal,zAA] at h;subst h;exact ⟨.nilf,rfl⟩
 | .iface _ _,x,h=>by simp [ofVal] at h
 | .nilIface,x,h=>by simp only [ofVal,zAA] at h;subst h;exact ⟨.nili,rfl⟩
 | .agg ⟨cs⟩,x,h=>by
  simp only [ofVal,zAG] at h;obtain ⟨l,hl,h⟩:=h;split at h
  ·rename_i hall;simp only [zAA] at h;subst h;obtain ⟨h1,h2,h3⟩:=zdw g cs l hl;refine ⟨.agg (by simpa using h1) (fun j x hx=>zBH.1 hall x (zl hx)) (fun j x v hx hv=>h2 j x v hx (by simpa using hv)),?_⟩
   simp only [V.top];exact h3
  ·cases h
 | .tuple ⟨vs⟩,x,h=>by
  cases vs with
  | nil=>simp only [ofVal,zAA] at h;subst h;exact ⟨.tup rfl (fun j x v hx=>by simp at hx),rfl⟩
  | cons _ _=>simp [ofVal] at h
theorem zdw (g:Gh):∀ (vs:List Value) (xs:List V),ofVals vs=some xs->xs.length=vs.length/\(∀ (j:Nat) (x:V) (v:Value),xs[j]?=some x->vs[j]?=some v->RelV g x v)/\tops xs=0
 | [],xs,h=>by simp only [ofVals,zAA] at h;subst h;exact ⟨rfl,fun j x v hx=>by simp at hx,rfl⟩
 | v::vs,xs,h=>by
  simp only [ofVals] at h;split at h
  ·rename_i x ys hx hys;simp only [zAA] at h;subst h;obtain ⟨h1,h2⟩:=zb5 g v x hx;obtain ⟨h3,h4,h5⟩:=zdw g vs ys hys;refine ⟨by simp [h3],fun j y u hy hu=>?_,by simp [tops,h2,h5]⟩
   cases j with
   | zero=>simp at hy hu;subst hy;subst hu;exact h1
   | succ j=>simp at hy hu;exact h4 j y u hy hu
  ·cases h
end
variable {B:Base} {g:Gh} {s:St} {a:Act} {w:World}
theorem Rel.slot (h:Rel B g s a w) {t:Nat} {x:V} (hx:s.env[t]?=some x):∃ v,a.tmps[t]?=some v/\a.eval (.tmp t)=v:=by
 have hlt:t<a.tmps.size:=by rw [<- h.len];exact (zAB.1 hx).1
 refine ⟨a.tmps[t],zAy hlt,?_⟩;simp [Act.eval,Array.getD,hlt]
theorem ze2 {n:Nat} {l:Loc} {x:V} {v cv:Value} (h:ofVal v=some x):OwnV g n w l x cv:=by
 unfold OwnV;split
 ·unfold ofVal at h;split at h<;>try (simp at h;done)
  all_goals (simp only [zAG] at h;obtain ⟨l,_,h⟩:=h;split at h<;>simp at h)
 ·trivial
theorem zm (h:Rel B g s a w) {x:Operand} {v:V} (hp:peek s.env x=some v) :
  RelV g v (a.eval x)/\v.top<=s.H.blks.length/\∀ n l,OwnV g n w l v (a.eval x):=by
 cases x with
 | tmp t =>
  simp only [peek,zd] at hp;split at hp<;>simp only [zAA,reduceCtorEq] at hp;rename_i y hy;subst hp;obtain ⟨cv,hcv,he⟩:=h.slot hy;rw [he];exact ⟨(h.env t y cv hy hcv).1.clr,by rw [top_clr];exact h.envTop t y hy,fun _ _=>jf _ _ _ _ _ _⟩
 | const c =>
  simp only [peek] at hp;obtain ⟨h1,h2⟩:=zb5 g c v hp;exact ⟨h1,by omega,fun _ _=>ze2 hp⟩
 | global k =>
  simp only [peek,zAA] at hp;subst hp;exact ⟨.gptr k 0,zAW _,fun _ _=>trivial⟩
 | func f =>
  simp only [peek,zAA] at hp;subst hp;exact ⟨.fn rfl rfl (fun j x v hx=>by simp at hx) (fun j x v hx=>by simp at hx),zAW _,fun _ _=>trivial⟩
theorem Rel.hand (h:Rel B g s a w) {t:Nat} {v:V} (hv:s.env[t]?=some v) (c:Nat) (hc:g.own c=some (.slot B.d t)) (hcw:c<w.heap.size) (l:Loc) :
  Rel B { g with own:=fun x=>if x=c then some l else g.own x } { s with env:=s.env.set t (clr v) } a w:=by
 have ht:t<s.env.length:=(zAB.1 hv).1;refine h.master (b0:=none) (l0:=some (.slot B.d t)) ?_ (zAO _) (fun _ _ _=>rfl) (fun b x hb hx=>?_) (fun b h1 h2=>?_) (fun b b' h1 h2=>?_) h.wok.mem (fun c' l' hc'=>?_) (fun b j e=>by cases e) (by simp) rfl (fun t' x hx=>?_) h.edges h.lks h.lkl ?_
 ·refine ⟨⟨fun _ _ _ e=>e,fun _ _=>rfl,rfl,fun _ _ _ _ e=>e⟩,fun _ _ _ _=>rfl,fun c' _ h'=>?_,fun _ _ _ _=>rfl,zAO _,fun _ _ _=>rfl,fun l' hl'=>?_,fun b hb=>(by cases hb),fun _ _ _ _=>rfl,rfl,rfl,rfl⟩
  ·show (if c'=c then some l else g.own c')=g.own c'
   rw [if_neg];rintro rfl;exact h' _ rfl hc
  ·cases hl';exact .inl ⟨t,rfl⟩
 ·rcases hb with hb|hb
  ·cases hb
  ·have:=(zAB.1 hx).1;simp only at this;omega
 ·simp only at h2;omega
 ·simp only at h2;omega
 ·simp only at hc';split at hc'
  ·rename_i e;rw [e];exact hcw
  ·exact h.wok.ownlt c' l' hc'
 ·simp only [zAl] at hx;split at hx
  ·rename_i e;subst e;simp only [zAA] at hx;exact ⟨v,hv,.inr hx.symm⟩
  ·rename_i e;exact ⟨x,hx,.inl ⟨rfl,fun e'=>e (by cases e';rfl)⟩⟩
 ·intro t' e;cases e;exact Nat.le_of_lt ht
theorem Rel.clear (h:Rel B g s a w) {t:Nat} {v:V} (hv:s.env[t]?=some v):Rel B g { s with env:=s.env.set t (clr v) } a w:=by
 have ht:t<s.env.length:=(zAB.1 hv).1;refine h.master (b0:=none) (l0:=none) ?_ (zAO _) (fun _ _ _=>rfl) (fun b x hb hx=>?_) (fun b h1 h2=>?_) (fun b b' h1 h2=>?_) h.wok.mem h.wok.ownlt (fun b j e=>by cases e) (by simp) rfl (fun t' x hx=>?_) h.edges h.lks h.lkl ?_
 ·exact ⟨⟨fun _ _ _ e=>e,fun _ _=>rfl,rfl,fun _ _ _ _ e=>e⟩,fun _ _ _ _=>rfl,fun _ _ _=>rfl,fun _ _ _ _=>rfl,zAO _,fun _ _ _=>rfl,fun l' hl'=>(by cases hl'),fun b hb=>(by cases hb),fun _ _ _ _=>rfl,rfl,rfl,rfl⟩
 ·rcases hb with hb|hb
  ·cases hb
  ·have:=(zAB.1 hx).1;simp only at this;omega
 ·simp only at h2;omega
 ·simp only at h2;omega
 ·simp only [zAl] at hx;split at hx
  ·rename_i e;subst e;simp only [zAA] at hx;exact ⟨v,hv,.inr hx.symm⟩
  ·exact ⟨x,hx,.inl ⟨rfl,fun e'=>by cases e'⟩⟩
 ·intro t' e;cases e
structure Gh.Alike (g g':Gh):Prop where
 M:g'.M=g.M
 blk:g'.blk=g.blk
 obj:g'.obj=g.obj
 lk:g'.lk=g.lk
 hdr:g'.hdr=g.hdr
theorem Gh.Alike.refl (g:Gh):Gh.Alike g g:=⟨rfl,rfl,rfl,rfl,rfl⟩
theorem Gh.Alike.le {g g':Gh} (h:Gh.Alike g g') (n:Nat):Gh.Le n g g':=⟨fun _ _ _ e=>by rw [h.M];exact e,fun _ _=>by rw [h.blk],h.obj,fun _ _ _ _ e=>by rw [h.hdr];exact e⟩
theorem Gh.Alike.rel {g g':Gh} (h:Gh.Alike g g') {v:V} {cv:Value} (hr:RelV g v cv):RelV g' v cv:=hr.le (h.le v.top) (zAO _)
theorem take_ok (h:Rel B g s a w) {x:Operand} {v:V} {env':List V} (ht:take s.env x=some (v,env')) (l:Loc) :
  ∃ g',Rel B g' { s with env:=env' } a w/\RelV g' v (a.eval x)/\OwnV g' s.H.blks.length w l v (a.eval x)/\v.top<=s.H.blks.length/\Gh.Alike g g':=by
 have plain:∀ y,(∀ t,y≠.tmp t)->take s.env y=some (v,env')->∃ g',Rel B g' { s with env:=env' } a w/\RelV g' v (a.eval y)/\OwnV g' s.H.blks.length w l v (a.eval y)/\v.top<=s.H.blks.length/\Gh.Alike g g':=by
  intro y hy hty;have hp:peek s.env y=some v/\s.env=env':=by
   cases y with
   | tmp t=>exact absurd rfl (hy t)
   | _ =>
    simp only [take,zAV,zAD] at hty;obtain ⟨u,hu,rfl,rfl⟩:=hty;exact ⟨hu,rfl⟩
  obtain ⟨h1,h2,h3⟩:=zm h hp.1;rw [<- hp.2];exact ⟨g,h,h1,h3 _ _,h2,.refl g⟩
 cases x with
 | tmp t =>
  simp only [take,zd,fSet_eq] at ht;split at ht<;>simp only [zAA,zAD,reduceCtorEq] at ht
  ·rename_i sz xs e hy;obtain ⟨rfl,rfl⟩:=ht;obtain ⟨cv,hcv,he⟩:=h.slot hy;obtain ⟨h1,h2⟩:=h.env t _ cv hy hcv;have h3:=h.envTop t _ hy;rw [he];have h2':OwnAt g s.H.blks.length w (.slot B.d t) e sz xs.length cv:=h2;cases hob:cv.ownBlock with
   | none =>
    obtain ⟨ys,ho,_⟩:=h2';exact ⟨g,h.clear hy,h1,⟨ys,ho,fun c hc=>by rw [hob] at hc;cases hc⟩,h3,.refl g⟩
   | some c =>
    have hlt:=h2'.lt c hob;obtain ⟨ys,ho,hc⟩:=h2';obtain ⟨c1,c2,c3⟩:=hc c hob;refine ⟨_,h.hand hy c c1 hlt l,?_,⟨ys,ho,fun c' hc'=>?_⟩,h3,⟨rfl,rfl,rfl,rfl,rfl⟩⟩
    ·exact Gh.Alike.rel (g:=g) (g':={ g with own:=fun x=>if x=c then some l else g.own x }) ⟨rfl,rfl,rfl,rfl,rfl⟩ h1
    ·rw [hob] at hc';cases hc';exact ⟨by simp,c2,c3⟩
  ·rename_i y _ hy;obtain ⟨rfl,rfl⟩:=ht;obtain ⟨cv,hcv,he⟩:=h.slot hy;obtain ⟨h1,h2⟩:=h.env t _ cv hy hcv;rw [he];exact ⟨g,h,h1.clr,jf _ _ _ _ _ _,by rw [top_clr];exact h.envTop t _ hy,.refl g⟩
 | const c=>exact plain _ (fun t=>by simp) ht
 | global k=>exact plain _ (fun t=>by simp) ht
 | func f=>exact plain _ (fun t=>by simp) ht
structure OpOk (B:Base) (g:Gh) (s:St) (a:Act) (w:World) (dst:Option Tmp) (v:V) (cv:Value):Prop where
 rel:Rel B g s a w
 val:RelV g v cv
 own:∀ t,dst=some t->OwnV g s.H.blks.length w (.slot B.d t) v cv
 top:v.top<=s.H.blks.length
theorem jN {dst:Option Tmp} {v:V} {cv:Value} (h:OpOk B g s a w dst v cv):Rel B g { s with env:=putA s.env dst v } (a.put dst cv) w:=by
 cases dst with
 | none=>exact h.rel
 | some t =>
  have hr:=h.rel;refine { wok:=hr.wok,len:=by simpa [putA,Act.put] using hr.len,env:=?_,envTop:=?_,n0:=hr.n0,edges:=hr.edges,newer:=hr.newer,fr:=hr.fr,lks:=hr.lks,lkl:=hr.lkl,pend:=by simpa [putA] using hr.pend,deflen:=hr.deflen,defers:=hr.defers,marks:=hr.marks,mdis:=hr.mdis }
  ·intro t' x u hx hu;simp only [putA,zAl] at hx;simp only [Act.put,Array.getElem?_setIfInBounds] at hu
   by_cases e:t=t'
   ·subst e;simp only [if_true] at hx hu;split at hx
    ·simp only [zAA] at hx;split at hu
     ·simp only [zAA] at hu;subst hx;subst hu;exact ⟨h.val,h.own t rfl⟩
     ·cases hu
    ·cases hx
   ·simp only [e,if_false] at hx hu;exact hr.env t' x u hx hu
  ·intro t' x hx;simp only [putA,zAl] at hx
   by_cases e:t=t'
   ·subst e;simp only [if_true] at hx;split at hx
    ·simp only [zAA] at hx;subst hx;exact h.top
    ·cases hx
   ·simp only [e,if_false] at hx;exact hr.envTop t' x hx
end Go.Vm
namespace Go.Vm
open Go
variable {P:Program} {g:Gh} {w:World}
theorem zW {t:TypeId} {n:Nat} (h:zy P t=some n) (w:World):(sizeOf t).run P w=.ok n w:=by
 simp only [zy,zAV] at h;obtain ⟨i,hi,rfl⟩:=h;simp [sizeOf,typeInfo,hi]
theorem zbd {t:TypeId} {b:Bool} (h:qC P t=some b) (w:World):(isAgg t).run P w=.ok b w:=by
 simp only [qC,zAV] at h;obtain ⟨d,hd,rfl⟩:=h;unfold isAgg;simp only [Sem.run_bind,run_underlying hd,Result.andThen_ok];cases d<;>rfl
structure RelCs (g:Gh) (cs:List V) (vs:List Value):Prop where
 len:cs.length=vs.length
 one:∀ (j:Nat) (x:V),cs[j]?=some x->x.one=true
 rel:∀ (j:Nat) (x:V) (v:Value),cs[j]?=some x->vs[j]?=some v->RelV g x v
theorem RelCs.get {cs:List V} {vs:List Value} (h:RelCs g cs vs) {j:Nat} {x:V} (hx:cs[j]?=some x):∃ v,vs[j]?=some v/\RelV g x v:=by
 have hlt:j<vs.length:=by rw [<- h.len];exact (zAB.1 hx).1
 exact ⟨vs[j],zAS hlt,h.rel j x _ hx (zAS hlt)⟩
theorem RelCs.drop {cs:List V} {vs:List Value} (h:RelCs g cs vs) (k:Nat):RelCs g (cs.drop k) (vs.drop k) :=
 ⟨by simp [h.len],fun j x hx=>h.one (k+j) x (by simpa using hx),fun j x v hx hv=>h.rel (k+j) x v (by simpa using hx) (by simpa using hv)⟩
theorem RelCs.take {cs:List V} {vs:List Value} (h:RelCs g cs vs) (k:Nat):RelCs g (cs.take k) (vs.take k):=by
 refine ⟨by simp [h.len],fun j x hx=>?_,fun j x v hx hv=>?_⟩
 ·rw [zA4] at hx;split at hx
  ·exact h.one j x hx
  ·cases hx
 ·rw [zA4] at hx hv;split at hx
  ·rename_i hj;rw [if_pos hj] at hv;exact h.rel j x v hx hv
  ·cases hx
theorem RelCs.agg {cs:List V} {arr:Array Value} (h:RelCs g cs arr.toList):RelV g (.agg cs) (.agg arr) :=
 .agg (by simpa using h.len) h.one fun j x v hx hv=>h.rel j x v hx (by simpa using hv)
theorem ku {cs:List V} {cv:Value} (h:RelV g (.agg cs) cv):∃ arr,cv=.agg arr/\RelCs g cs arr.toList:=by
 cases h with
 | agg h1 h2 h3=>exact ⟨_,rfl,⟨by simpa using h1,h2,fun j x v hx hv=>h3 j x v hx (by simpa using hv)⟩⟩
theorem RelCs.map_clr {cs:List V} {vs:List Value} (h:RelCs g cs vs):RelCs g (cs.map clr) vs:=by
 refine ⟨by simp [h.len],fun j x hx=>?_,fun j x v hx hv=>?_⟩
 ·simp only [zAY,zAV] at hx;obtain ⟨y,hy,rfl⟩:=hx;exact (zfP y).trans (h.one j y hy)
 ·simp only [zAY,zAV] at hx;obtain ⟨y,hy,rfl⟩:=hx;exact (h.rel j y v hy hv).clr
theorem zah {cs:List V} {arr:Array Value} (h:RelCs g cs arr.toList) {t:TypeId} {off:Nat} {v:V} (hv:qq P t cs off=some v) (w:World) :
  ∃ cv,(part t arr off).run P w=.ok cv w/\RelV g v cv/\v.top<=tops cs/\(∀ ys,v=.agg ys->∃ vs,cv=.agg vs/\vs=arr.extract off (off+ys.length)):=by
 simp only [qq,Option.bind_eq_bind,zAG] at hv;obtain ⟨b,hb,hv⟩:=hv;unfold part;simp only [Sem.run_bind,zbd hb,Result.andThen_ok];cases b with
 | true =>
  simp only [if_true,zAG] at hv;obtain ⟨n,hn,hv⟩:=hv;split at hv<;>simp only [zAA,reduceCtorEq] at hv;rename_i hle;subst hv;simp only [if_true,Sem.run_bind,zW hn,Result.andThen_ok,Sem.run_pure];have hl:(List.take n (List.drop off cs)).length=n:=by simp;omega
  refine ⟨_,rfl,?_,?_,fun ys hys=>?_⟩
  ·refine RelCs.agg ?_;have:=(h.drop off).take n;simpa [List.take_drop] using this
  ·simp only [V.top];exact zN fun x hx=>zg (zA1 (zAw hx))
  ·cases hys;exact ⟨_,rfl,by rw [hl]⟩
 | false =>
  simp only [zAH,if_false,zd] at hv;obtain ⟨cv,hcv,hr⟩:=h.get hv;simp only [zAH,if_false];have:arr[off]?=some cv:=by simpa using hcv
  rw [this];refine ⟨cv,rfl,hr,zg (zl hv),fun ys hys=>?_⟩;subst hys;have:=h.one off _ hv;simp [V.one,oneV] at this
theorem zfQ {cs:List V} {vs:List Value} (h:RelCs g cs vs) {c o:Nat} (hc:∀ j v,vs[j]?=some v->w.cell? ⟨c,o+j,none⟩=some v) {t:TypeId} {off:Nat} {v:V} (hv:qq P t cs off=some v) :
  ∃ cv,(loadVar t ⟨c,o+off,none⟩).run P w=.ok cv w/\RelV g v cv/\v.top<=tops cs:=by
 simp only [qq,Option.bind_eq_bind,zAG] at hv;obtain ⟨b,hb,hv⟩:=hv;unfold loadVar;simp only [Sem.run_bind,zbd hb,Result.andThen_ok];cases b with
 | true =>
  simp only [if_true,zAG] at hv;obtain ⟨n,hn,hv⟩:=hv;split at hv<;>simp only [zAA,reduceCtorEq] at hv;rename_i hle;subst hv;have hr:=(h.drop off).take n;have hl:((vs.drop off).take n).length=n:=by simp;have:=h.len;omega
  have hrun:=run_loadCells_list (P:=P) (w:=w) ⟨c,o+off,none⟩ ((vs.drop off).take n) (fun j v hj=>by
   rw [zA4] at hj;split at hj
   ·rw [Addr.add_lit];rw [zBQ] at hj;rw [zBJ];exact hc _ _ hj
   ·cases hj)
  rw [hl] at hrun;simp only [if_true,Sem.run_bind,zW hn,Result.andThen_ok,hrun,Sem.run_pure];refine ⟨_,rfl,RelCs.agg (by simpa using hr),?_⟩
  simp only [V.top];exact zN fun x hx=>zg (zA1 (zAw hx))
 | false =>
  simp only [zAH,if_false,zd] at hv;obtain ⟨cv,hcv,hr⟩:=h.get hv;refine ⟨cv,?_,hr,zg (zl hv)⟩;simp [hc off cv hcv]
end Go.Vm
namespace Go.Vm
open Go
variable {P:Program} {g:Gh} {w:World}
theorem zl2 {op:BinOp} {k:IntKind} {x y:Int} {v:V} (t:TypeId) (h:ql op k x y=some v) (w:World) :
  ∃ cv,(binOp op t (.int k x) (.int k y)).run P w=.ok cv w/\RelV g v cv/\v.top=0/\∀ m l,OwnV g m w l v cv:=by
 cases op<;>simp only [ql,zAA,reduceCtorEq] at h
 case quo =>
  split at h<;>simp only [zAA,reduceCtorEq] at h;rename_i hy;subst h;refine ⟨.int _ _,?_,.int _ _,rfl,fun _ _=>trivial⟩;simp [binOp,Op.intDiv,hy]
 case rem =>
  split at h<;>simp only [zAA,reduceCtorEq] at h;rename_i hy;subst h;refine ⟨.int _ _,?_,.int _ _,rfl,fun _ _=>trivial⟩;simp [binOp,Op.intDiv,hy]
 all_goals subst h
 all_goals first
  | (refine ⟨.int _ _,?_,.int _ _,rfl,fun _ _=>trivial⟩;simp [binOp,Op.intArith,Op.intBits];done)
  | (refine ⟨.bool _,?_,.bool _,rfl,fun _ _=>trivial⟩;simp [binOp,Op.intCmp];done)
theorem zg9 {op:BinOp} {k k':IntKind} {x y:Int} {v:V} (h:zb2 op k x y=some v) (w:World) :
  ∃ cv,(Op.shift op k x k' y).run P w=.ok cv w/\RelV g v cv/\v.top=0/\∀ m l,OwnV g m w l v cv:=by
 simp only [zb2] at h;split at h
 ·cases h
 ·rename_i hy;cases op<;>simp only [zAA,reduceCtorEq] at h
  all_goals
   subst h;refine ⟨.int _ _,?_,.int _ _,rfl,fun _ _=>trivial⟩;simp [Op.shift,hy]
theorem eqL_iff:∀ (x y:List Nat),(∀ b:Nat,b∈x->b<256)->(∀ b:Nat,b∈y->b<256)->(x.map UInt8.ofNat == y.map UInt8.ofNat)=eqL x y
 | [],[],_,_=>rfl
 | [],_::_,_,_=>rfl
 | _::_,[],_,_=>rfl
 | a::x,b::y,hx,hy=>by
  have ih:=eqL_iff x y (fun c hc=>hx c (zAE _ hc)) (fun c hc=>hy c (zAE _ hc));have ha:=hx a (zAL ..);have hb:=hy b (zAL ..);have e:(UInt8.ofNat a == UInt8.ofNat b)=Nat.beq a b:=by
   rw [zBU,beq_iff_eq,Nat.beq_eq];constructor
   ·intro h;have:=congrArg UInt8.toNat h;simpa [UInt8.toNat_ofNat',zBV ha,zBV hb] using this
   ·rintro rfl;rfl
  simp only [zAz,eqL];rw [<- ih,<- e];rfl
theorem ltL_iff:∀ (x y:List Nat),(∀ b:Nat,b∈x->b<256)->(∀ b:Nat,b∈y->b<256)->Op.bytesLess (x.map UInt8.ofNat) (y.map UInt8.ofNat)=ltL x y
 | [],[],_,_=>rfl
 | [],_::_,_,_=>rfl
 | _::_,[],_,_=>rfl
 | a::x,b::y,hx,hy=>by
  have ih:=ltL_iff x y (fun c hc=>hx c (zAE _ hc)) (fun c hc=>hy c (zAE _ hc));have ha:=hx a (zAL ..);have hb:=hy b (zAL ..);have e:(UInt8.ofNat a == UInt8.ofNat b)=Nat.beq a b:=by
   rw [zBU,beq_iff_eq,Nat.beq_eq];constructor
   ·intro h;have:=congrArg UInt8.toNat h;simpa [UInt8.toNat_ofNat',zBV ha,zBV hb] using this
   ·rintro rfl;rfl
  have e2:decide (UInt8.ofNat a<UInt8.ofNat b)=Nat.blt a b:=by
   rw [zBU,decide_eq_true_iff,UInt8.lt_iff_toNat_lt,UInt8.toNat_ofNat',UInt8.toNat_ofNat',zBV ha,zBV hb];simp only [Nat.blt,Nat.ble_eq];exact Nat.lt_iff_add_one_le
  simp only [zAz,Op.bytesLess,ltL,ih,e,e2]
theorem kw (x:List Nat):(bytes x).toList=x.map UInt8.ofNat:=by
 rw [ByteArray.toList_eq];simp [bytes]
theorem qQ (x:List Nat):(bytes x).size=x.length:=by simp [bytes,ByteArray.size]
theorem zfR (x y:List Nat):bytes x++bytes y=bytes (x++y):=by
 apply ByteArray.ext;simp [bytes,ByteArray.data_append]
theorem zl3 {op:BinOp} {x y:List Nat} {v:V} (t:TypeId) (hx:∀ b:Nat,b∈x->b<256) (hy:∀ b:Nat,b∈y->b<256) (h:zb3 op x y=some v) (w:World) :
  ∃ cv,(binOp op t (.string (bytes x)) (.string (bytes y))).run P w=.ok cv w/\RelV g v cv/\v.top=0/\∀ m l,OwnV g m w l v cv:=by
 have e1:=eqL_iff x y hx hy;have e2:=ltL_iff x y hx hy;have e0:(binOp op t (.string (bytes x)) (.string (bytes y)))=Op.stringOp op (bytes x) (bytes y):=by
  cases op<;>rfl
 rw [e0];cases op<;>simp only [zb3,zAA,reduceCtorEq] at h
 case add =>
  split at h<;>simp only [zAA,reduceCtorEq] at h;rename_i hl;subst h;have hm:IntKind.i64.max=9223372036854775807:=by decide
  refine ⟨.string (bytes (x++y)),?_,.str fun b hb=>?_,rfl,fun _ _=>trivial⟩
  ·have:¬ (((bytes x).size+(bytes y).size:Nat):Int) > IntKind.i64.max:=by rw [hm,qQ,qQ];omega
   simp only [Op.stringOp,if_neg this,zfR];rfl
  ·rcases zA3.1 hb with hb|hb
   ·exact hx b hb
   ·exact hy b hb
 all_goals
  subst h;refine ⟨.bool _,?_,.bool _,rfl,fun _ _=>trivial⟩;simp only [Op.stringOp,kw,e1,e2,Sem.run_pure]
def zai (P:Program) (d:Nat) (e:TypeId) (n:Nat) (xs ys:Array Value):List Nat->Sem Bool
 | []=>pure true
 | i::is=>do
  let a <- part e xs (i * n)
  let b <- part e ys (i * n)
  let r <- Op.equalIn d e a b
  if (!r)=true then pure false else zai P d e n xs ys is
theorem zbe (d:Nat) (t e:TypeId) (len n:Nat) (xs ys:Array Value) (ht:P.underlying t=some (.array len e)) (hn:zy P e=some n) (w:World) :
  (Op.equalIn (d+1) t (.agg xs) (.agg ys)).run P w=(zai P d e n xs ys (List.range' 0 len)).run P w:=by
 simp only [Op.equalIn,Sem.run_bind,run_underlying ht,zW hn,Result.andThen_ok];rw [Std.Legacy.Range.forIn_eq_forIn_range'];simp only [Std.Legacy.Range.size,Nat.sub_zero,Nat.add_sub_cancel,Nat.div_one];generalize List.range' 0 len=is
 induction is generalizing w with
 | nil=>simp [zai]
 | cons f fs ih =>
  simp only [List.forIn_cons,zai,Sem.run_bind,Sem.run_ite];generalize (part e xs (f * n)).run P w=r1;cases r1 with
  | ok a w1 =>
   simp only [Result.andThen_ok];generalize (part e ys (f * n)).run P w1=r2;cases r2 with
   | ok b w2 =>
    simp only [Result.andThen_ok];generalize (Op.equalIn d e a b).run P w2=r3;cases r3 with
    | ok r w3 =>
     cases r
     ·simp only [Result.andThen_ok,zAm,if_true,Sem.run_pure]
     ·simp only [Result.andThen_ok,zAg,zAH,if_false,Sem.run_pure];exact ih w3
    | halt x w3=>simp [Result.andThen]
   | halt x w2=>simp [Result.andThen]
  | halt x w1=>simp [Result.andThen]
theorem zjK {eq:TypeId->V->V->Option Bool} {d:Nat} (heq:∀ t x y b cx cy,eq t x y=some b->RelV g x cx->RelV g y cy->(Op.equalIn d t cx cy).run P w=.ok b w) {xs ys:List V} {ax ay:Array Value}
  (hx:RelCs g xs ax.toList) (hy:RelCs g ys ay.toList):∀ (fs:List Field) (b:Bool),ziJ P eq fs xs ys=some b->(Op.eqFields d ax ay fs).run P w=.ok b w
 | [],b,h=>by simp only [ziJ,zAA] at h;subst h;rfl
 | f::fs,b,h=>by
  simp only [ziJ] at h;split at h
  ·cases h
  ·rename_i hf;simp only [Option.bind_eq_bind,zAG] at h;obtain ⟨u,hu,v,hv,r,hr,h⟩:=h;obtain ⟨cu,hu1,hu2,_⟩:=zah hx hu w;obtain ⟨cv,hv1,hv2,_⟩:=zah hy hv w;simp only [Op.eqFields,ne_eq,hf,not_false_eq_true,if_true,Sem.run_bind,hu1,hv1,heq _ _ _ _ _ _ hr hu2 hv2,Result.andThen_ok];cases r with
   | true=>simp only [if_true] at h;simpa using zjK heq hx hy fs b h
   | false=>simp only [zAH,if_false,zAA] at h;subst h;simp
theorem zjL {eq:TypeId->V->V->Option Bool} {d:Nat} (heq:∀ t x y b cx cy,eq t x y=some b->RelV g x cx->RelV g y cy->(Op.equalIn d t cx cy).run P w=.ok b w) {xs ys:List V} {ax ay:Array Value}
  (hx:RelCs g xs ax.toList) (hy:RelCs g ys ay.toList) (e n:Nat):∀ (k i:Nat) (b:Bool),ziK P eq e n xs ys i k=some b->(zai P d e n ax ay (List.range' i k)).run P w=.ok b w
 | 0,i,b,h=>by simp only [ziK,zAA] at h;subst h;rfl
 | k+1,i,b,h=>by
  simp only [ziK,Option.bind_eq_bind,zAG] at h;obtain ⟨u,hu,v,hv,r,hr,h⟩:=h;obtain ⟨cu,hu1,hu2,_⟩:=zah hx hu w;obtain ⟨cv,hv1,hv2,_⟩:=zah hy hv w;simp only [List.range'_succ,zai,Sem.run_bind,hu1,hv1,heq _ _ _ _ _ _ hr hu2 hv2,Result.andThen_ok];cases r with
  | true=>simp only [if_true] at h;simpa using zjL heq hx hy e n k (i+1) b h
  | false=>simp only [zAH,if_false,zAA] at h;subst h;simp
theorem zp0 {D:Nat} {t:TypeId} {ds:TypeDesc} (hd:P.underlying t=some ds) {x y:V} {b:Bool} {cx cy:Value} (h:eqS ds x y=some b) (hx:RelV g x cx) (hy:RelV g y cy):(Op.equalIn (D+1) t cx cy).run P w=.ok b w:=by
 have hu:=run_underlying hd w;unfold eqS at h;split at h
 ·split at h<;>simp only [zAA,reduceCtorEq] at h;subst h;cases hx;cases hy;exact run_equalIn_bool' w D t _ _ hd
 ·split at h<;>try (simp only [reduceCtorEq] at h;done)
  split at h<;>simp only [zAA,reduceCtorEq] at h;rename_i e;subst h;subst e;cases hx;cases hy;exact run_equalIn_int w D t _ _ _ _ hd
 ·split at h<;>simp only [zAA,reduceCtorEq] at h;subst h;cases hx with
  | str h1=>cases hy with
   | str h2 =>
    rw [run_equalIn_string w D t _ _ hd,kw,kw,eqL_iff _ _ h1 h2]
 ·split at h<;>simp only [zAA,reduceCtorEq] at h
  all_goals (subst h;cases hx;cases hy;simp [Op.equalIn,hu];done)
 ·split at h<;>try (simp only [reduceCtorEq] at h;done)
  ·simp only [zAA] at h;subst h;cases hx;cases hy;simp [Op.equalIn,hu]
  ·simp only [zAA] at h;subst h;cases hx;cases hy;simp [Op.equalIn,hu]
  ·simp only [zAA] at h;subst h;cases hx;cases hy;simp [Op.equalIn,hu]
  ·split at h<;>simp only [zAA,reduceCtorEq] at h;rename_i e;subst h;cases hx;cases hy;simp [Op.equalIn,hu,e]
 ·split at h<;>simp only [zAA,reduceCtorEq] at h
  ·subst h;cases hx;cases hy;simp [Op.equalIn,hu]
  ·subst h;cases hx;cases hy with
   | sl f h1 h2 h3=>rw [h3 (by simp)];simp [Op.equalIn,hu]
  ·subst h;cases hy;cases hx with
   | sl f h1 h2 h3=>rw [h3 (by simp)];simp [Op.equalIn,hu]
  ·subst h;cases hx;cases hy;simp [Op.equalIn,hu]
  ·subst h;cases hx;cases hy;simp [Op.equalIn,hu]
 ·split at h<;>simp only [zAA,reduceCtorEq] at h
  all_goals (subst h;cases hx;cases hy;simp [Op.equalIn,hu];done)
 ·split at h<;>simp only [zAA,reduceCtorEq] at h
  all_goals (subst h;cases hx;cases hy;simp [Op.equalIn,hu];done)
 ·cases h
theorem eqA_ok:∀ (d D:Nat) (t:TypeId) (x y:V) (b:Bool) (cx cy:Value),d<=D->eqA P d t x y=some b->RelV g x cx->RelV g y cy->(Op.equalIn D t cx cy).run P w=.ok b w
 | 0,D,t,x,y,b,cx,cy,_,h,_,_=>by simp [eqA] at h
 | d+1,0,t,x,y,b,cx,cy,hD,h,_,_=>by omega
 | d+1,D+1,t,x,y,b,cx,cy,hD,h,hx,hy=>by
  have ih:=fun t x y b cx cy=>eqA_ok d D t x y b cx cy (by omega)
  simp only [eqA] at h;split at h
  ·cases h
  ·rename_i ds hd;split at h
   ·obtain ⟨ax,rfl,h1⟩:=ku hx;obtain ⟨ay,rfl,h2⟩:=ku hy;split at h
    ·rename_i fs;split at h
     ·cases h
     ·rename_i hp;have hf:P.fieldsOf t=fs:=by simp [Program.fieldsOf,hd]
      rw [run_equalIn_struct w D t ax ay (by rw [hf];exact hd) (by simpa using hp),hf]
      exact zjK ih h1 h2 _ _ h
    ·split at h
     ·rename_i n hn;rw [zbe D t _ _ n ax ay hd hn];exact zjL ih h1 h2 _ _ _ _ _ h
     ·cases h
    ·cases h
   ·exact zp0 hd h hx hy
theorem guard_ok {op:BinOp} {t:TypeId} {x y:V} {cx cy:Value} {ox oy:Operand} (hg:zM P op t ox oy x y=true) (hx:RelV g x cx) (hy:RelV g y cy) (w:World):(eqGuard op t ox oy cx cy).run P w=.ok () w:=by
 have key:(op=.eql\/op=.neq)->(eqGuard op t ox oy cx cy).run P w=.ok () w:=by
  intro ho;have hg':jp P t ox oy x y=true:=by rcases ho with rfl|rfl<;>exact hg
  by_cases ha:∃ xs ys,cx=.agg xs/\cy=.agg ys
  ·obtain ⟨xs,ys,rfl,rfl⟩:=ha;refine run_eqGuard_agg w op t ox oy xs ys ?_;cases hx<;>cases hy<;>first|(simp [jp] at hg';done)|(simpa [jp] using hg')
  ·by_cases hn:cx=.nilIface/\cy=.nilIface
   ·obtain ⟨rfl,rfl⟩:=hn;have hc:isConst ox=true\/isConst oy=true:=by
     cases hx<;>cases hy<;>first|(simp [jp] at hg';done)|(simpa [jp] using hg')
    rcases ho with rfl|rfl<;>rcases hc with hc|hc<;>(cases ox<;>cases oy<;>simp [isConst] at hc<;>simp [eqGuard])
   ·rcases ho with rfl|rfl
    all_goals
     cases cx<;>cases cy<;>first
      |rfl
      |exact absurd ⟨rfl,rfl⟩ hn
      |exact absurd ⟨_,_,rfl,rfl⟩ ha
 cases op<;>first
  |exact key (.inl rfl)
  |exact key (.inr rfl)
  |simp [eqGuard]
theorem zjM {d:Nat} {t:TypeId} {k:IntKind} {n:Int} {y:V} {b:Bool} (h:eqA P d t (.int k n) y=some b):∃ k' m,y=.int k' m:=by
 cases d with
 | zero=>simp [eqA] at h
 | succ d =>
  simp only [eqA] at h;split at h
  ·cases h
  ·rename_i ds _;cases ds<;>cases y<;>simp [eqS] at h;exact ⟨_,_,rfl⟩
theorem zjN {d:Nat} {t:TypeId} {s:List Nat} {y:V} {b:Bool} (h:eqA P d t (.str s) y=some b):∃ s',y=.str s':=by
 cases d with
 | zero=>simp [eqA] at h
 | succ d =>
  simp only [eqA] at h;split at h
  ·cases h
  ·rename_i ds _;cases ds<;>cases y<;>simp [eqS] at h;exact ⟨_,rfl⟩
theorem zha {d:Nat} {t:TypeId} {y:V} {b:Bool} (h:eqA P d t .junk y=some b):False:=by
 cases d with
 | zero=>simp [eqA] at h
 | succ d =>
  simp only [eqA] at h;split at h
  ·cases h
  ·rename_i ds _;cases ds<;>simp [eqS] at h
theorem zoi {op:BinOp} {t:TypeId} {x y:V} {v:V} {cx cy:Value} (h:ja P op t x y=some v) (hx:RelV g x cx) (hy:RelV g y cy) (w:World) :
  ∃ cv,(binOp op t cx cy).run P w=.ok cv w/\RelV g v cv/\v.top=0/\∀ m l,OwnV g m w l v cv:=by
 unfold ja at h;split at h
 ·rename_i k1 a1 k2 b1;cases hx;cases hy;exact zg9 (k':=k2) h w
 ·rename_i k1 a1 k2 b1;cases hx;cases hy;exact zg9 (k':=k2) h w
 ·split at h
  ·rename_i e;subst e;cases hx;cases hy;exact zl2 t h w
  ·cases h
 ·cases hx with
  | str h1=>cases hy with
   | str h2=>exact zl3 t h1 h2 h w
 ·rename_i n1 n2;simp only [zAV] at h;obtain ⟨b,hb,rfl⟩:=h;have e:binOp .eql t cx cy=(do pure (.bool (<- Op.equal t cx cy))):=by
   cases hx<;>first
    |rfl
    |(obtain ⟨k',m,rfl⟩:=zjM hb;exact absurd rfl (n1 _ _ _ _ rfl))
    |(obtain ⟨s',rfl⟩:=zjN hb;exact absurd rfl (n2 _ _ rfl))
    |exact (zha hb).elim
  rw [e];refine ⟨.bool b,?_,.bool b,rfl,fun _ _=>trivial⟩;simp only [Sem.run_bind,Op.equal,eqA_ok 100 Op.maxDepth t _ _ b cx cy (by decide) hb hx hy,Result.andThen_ok,Sem.run_pure]
 ·rename_i n1 n2;simp only [zAV] at h;obtain ⟨b,hb,rfl⟩:=h;have e:binOp .neq t cx cy=(do pure (.bool (!(<- Op.equal t cx cy)))):=by
   cases hx<;>first
    |rfl
    |(obtain ⟨k',m,rfl⟩:=zjM hb;exact absurd rfl (n1 _ _ _ _ rfl))
    |(obtain ⟨s',rfl⟩:=zjN hb;exact absurd rfl (n2 _ _ rfl))
    |exact (zha hb).elim
  rw [e];refine ⟨.bool (!b),?_,.bool _,rfl,fun _ _=>trivial⟩;simp only [Sem.run_bind,Op.equal,eqA_ok 100 Op.maxDepth t _ _ b cx cy (by decide) hb hx hy,Result.andThen_ok,Sem.run_pure]
 ·cases h
end Go.Vm
namespace Go.Vm
open Go
variable {P:Program} {B:Base} {g:Gh} {s:St} {a:Act} {w:World}
def zdx (P:Program) (g:Gh) (n:Nat) (w:World) (m:Sem Value) (v:V):Prop:=∃ cv,m.run P w=.ok cv w/\RelV g v cv/\v.top<=n/\∀ k l,OwnV g k w l v cv
theorem zjO {n:Nat} {l:Loc} {v:V} {cv:Value} (h:∀ sz xs e,v≠.sl sz xs (.yes e)):OwnV g n w l v cv:=by
 cases v with
 | sl sz xs o=>cases o with
  | yes e=>exact absurd rfl (h sz xs e)
  | _=>trivial
 | _=>trivial
def zeL (g:Gh):Option V->Option Value->Prop
 | none,none=>True
 | some x,some v=>RelV g x v
 | _,_=>False
theorem zaP {isSlice:Bool} {len cap:Nat} {lo hi:Option V} {clo chi:Option Value} {l h:Nat} (hlo:zeL g lo clo) (hhi:zeL g hi chi) (h1:z8 hi len=some h) (h2:z8 lo 0=some l)
  (hl:l<=h) (hh:h<=cap) (w:World):(Instr.sliceBounds isSlice len cap clo chi none).run P w=.ok (l,h,cap) w:=by
 have e1:∀ code,(match chi with|some v=>Instr.sliceBound v cap code|none=>pure len:Sem Nat).run P w=.ok h w:=by
  intro code;cases chi with
  | none=>cases hi with
   | none=>simp only [z8,zAA] at h1;simp [h1]
   | some _=>exact hhi.elim
  | some cv=>cases hi with
   | none=>exact hhi.elim
   | some x =>
    simp only [z8] at h1;split at h1<;>first|(rename_i e;simp at e;done)|skip
    ·rename_i k m e;simp only [zAA] at e;subst e;split at h1<;>simp only [zAA,reduceCtorEq] at h1;rename_i hm;have hr:RelV g (.int k m) cv:=hhi;cases hr;have:0<=m/\m<=(cap:Int):=⟨hm,by omega⟩
     simp [Instr.sliceBound,asIntOf,this,h1]
    ·cases h1
 have e2:∀ code,(match clo with|some v=>Instr.sliceBound v h code|none=>pure 0:Sem Nat).run P w=.ok l w:=by
  intro code;cases clo with
  | none=>cases lo with
   | none=>simp only [z8,zAA] at h2;simp [h2]
   | some _=>exact hlo.elim
  | some cv=>cases lo with
   | none=>exact hlo.elim
   | some x =>
    simp only [z8] at h2;split at h2<;>first|(rename_i e;simp at e;done)|skip
    ·rename_i k m e;simp only [zAA] at e;subst e;split at h2<;>simp only [zAA,reduceCtorEq] at h2;rename_i hm;have hr:RelV g (.int k m) cv:=hlo;cases hr;have:0<=m/\m<=(h:Int):=⟨hm,by omega⟩
     simp [Instr.sliceBound,asIntOf,this,h2]
    ·cases h2
 unfold Instr.sliceBounds;cases chi with
 | none =>
  have e1':=e1 .sliceAcap;simp only [Sem.run_pure,Result.ok.injEq,zBn] at e1';cases clo with
  | none=>have e2':=e2 .sliceB;simp only [Sem.run_pure,Result.ok.injEq,zBn] at e2';simp [e1',e2']
  | some cv=>have e2':=e2 .sliceB;simp only at e2';simp [e1',e2']
 | some cu =>
  have e1':=e1 (if isSlice then .sliceAcap else .sliceAlen)
  simp only at e1';cases clo with
  | none=>have e2':=e2 .sliceB;simp only [Sem.run_pure,Result.ok.injEq,zBn] at e2';simp [e1',e2']
  | some cv=>have e2':=e2 .sliceB;simp only at e2';simp [e1',e2']
theorem ym {isSlice:Bool} {len cap:Nat} {lo hi:Option V} {clo chi:Option Value} {l h:Nat} (hlo:zeL g lo clo) (hhi:zeL g hi chi) (h1:z8 hi len=some h) (h2:z8 lo 0=some l)
  (hl:l<=h) (hh:h<=len) (hc:len<=cap) (w:World):(Instr.sliceBounds isSlice len cap clo chi none).run P w=.ok (l,h,cap) w:=zaP hlo hhi h1 h2 hl (zAM hh hc) w
theorem zp1 {lo:Option V} {clo:Option Value} {l h:Nat} (hlo:zeL g lo clo) (h2:z8 lo 0=some l) (hl:l<=h) (w:World) (code:BoundsCode):(match clo with|some v=>Instr.sliceBound v h code|none=>pure 0:Sem Nat).run P w=.ok l w:=by
 cases clo with
 | none=>cases lo with
  | none=>simp only [z8,zAA] at h2;simp [h2]
  | some _=>exact hlo.elim
 | some cv=>cases lo with
  | none=>exact hlo.elim
  | some x =>
   simp only [z8] at h2;split at h2<;>first|(rename_i e;simp at e;done)|skip
   ·rename_i k m e;simp only [zAA] at e;subst e;split at h2<;>simp only [zAA,reduceCtorEq] at h2;rename_i hm;have hr:RelV g (.int k m) cv:=hlo;cases hr;have:0<=m/\m<=(h:Int):=⟨hm,by omega⟩
    simp [Instr.sliceBound,asIntOf,this,h2]
   ·cases h2
theorem ziM {isSlice:Bool} {len cap:Nat} {lo:Option V} {clo:Option Value} {k k':IntKind} {l:Nat} {h m:Int} (hlo:zeL g lo clo) (h2:z8 lo 0=some l) (h0:0<=h) (hl:l<=h.toNat) (hm:h<=m) (hc:m<=cap) (w:World) :
  (Instr.sliceBounds isSlice len cap clo (some (.int k h)) (some (.int k' m))).run P w=.ok (l,h.toNat,m.toNat) w:=by
 have a1:0<=m/\m<=(cap:Int):=⟨by omega,hc⟩
 have a2:0<=h/\h<=(m.toNat:Int):=⟨h0,by omega⟩
 have e2:=zp1 (P:=P) hlo h2 hl w .slice3C;have r:∀ (kk:IntKind) (i:Int) (y:Nat) (code:BoundsCode),0<=i->i<=(y:Int)->(Instr.sliceBound (.int kk i) y code).run P w=.ok i.toNat w:=fun kk i y code h1 h2=>by
  have:0<=i/\i<=(y:Int):=⟨h1,h2⟩;simp [Instr.sliceBound,asIntOf,this]
 unfold Instr.sliceBounds;cases clo with
 | none=>simp only [Sem.run_pure,Result.ok.injEq,zBn] at e2;simp [r _ _ _ _ a1.1 a1.2,r _ _ _ _ a2.1 a2.2,e2]
 | some cv=>simp only at e2;simp [r _ _ _ _ a1.1 a1.2,r _ _ _ _ a2.1 a2.2,e2]
theorem zeM (x:List Nat) (l h:Nat):(bytes x).extract l h=bytes ((x.take h).drop l):=by
 apply ByteArray.ext;simp [bytes,ByteArray.data_extract,List.extract,<- List.map_take,<- List.map_drop,List.drop_take]
theorem zp2 {op:UnOp} {x v:V} {cx:Value} (h:unA op x=some v) (hx:RelV g x cx) (n:Nat) (w:World):zdx P g n w (Op.unary op cx) v:=by
 unfold unA at h;split at h
 ·simp only [zAA] at h;subst h;cases hx;exact ⟨.int _ _,by simp [Op.unary,Op.intArith],.int _ _,zAW _,fun _ _=>trivial⟩
 ·simp only [ql,zAA] at h;subst h;cases hx;exact ⟨.int _ _,by simp [Op.unary,Op.intBits],.int _ _,zAW _,fun _ _=>trivial⟩
 ·simp only [zAA] at h;subst h;cases hx;exact ⟨.bool _,by simp [Op.unary],.bool _,zAW _,fun _ _=>trivial⟩
 ·cases h
theorem wg {t:TypeId} {f:Nat} {fs:Array Field} {fd:Field} {sz:Nat} (ht:P.underlying t=some (.struct fs)) (hf:fs[f]?=some fd) (hs:zy P fd.type=some sz) (h0:Nat.beq sz 0=false) (c o:Nat) (w:World) :
  (Instr.fieldAt t (.pointer (some ⟨c,o,none⟩)) f).run P w=.ok (.pointer (some ⟨c,o+fd.offset,none⟩)) w:=by
 have:sz≠0:=by intro e;subst e;simp at h0
 unfold Instr.fieldAt;simp [run_underlying ht,hf,Instr.sureAddr,fieldPlace,zW hs,this,Addr.add_lit]
theorem RelV.vp_drop {cs:List V} {c o:Nat} (h:RelV g (.vp cs) (.pointer (some ⟨c,o,none⟩))) (k:Nat):RelV g (.vp (cs.drop k)) (.pointer (some ⟨c,o+k,none⟩)):=by
 cases h with
 | vp f h1 h2 h3 =>
  refine .vp (fun j=>f (k+j)) (fun j x hx=>h1 (k+j) x (by simpa using hx)) (fun j x hx=>?_) (fun j x hx=>h3 (k+j) x (by simpa using hx))
  rw [zBJ];exact h2 (k+j) x (by simpa using hx)
theorem tops_drop (cs:List V) (k:Nat):tops (cs.drop k)<=tops cs:=zN fun _ hx=>zg (zA1 hx)
theorem zbf {sz:Nat}:∀ {xs:List V} {i:Nat} {x:V},(∀ y:V,y∈xs->y.cells.length=sz)->xs[i]?=some x->∀ j y,x.cells[j]?=some y->(zo xs)[i * sz+j]?=some y
 | [],i,x,_,h,_,_,_=>by simp at h
 | z::xs,0,x,hs,h,j,y,hy=>by
  simp at h;subst h;simp only [zo,zBK,Nat.zero_mul,zA0];rw [zAR (zAB.1 hy).1];exact hy
 | z::xs,i+1,x,hs,h,j,y,hy=>by
  have hz:=hs z (zAL ..);simp only [zo,zBK];rw [zAP (by rw [hz,zBM];omega),hz]
  have:=zbf (xs:=xs) (i:=i) (fun y hy=>hs y (zAE _ hy)) (by simpa using h) j y hy
  have e:(i+1) * sz+j - sz=i * sz+j:=by rw [zBM];omega
  rw [e];exact this
theorem RelV.elem {sz:Nat} {xs:List V} {ow:Own} {c o len cap:Nat} (h:RelV g (.sl sz xs ow) (.slice (some ⟨c,o,none⟩) len cap)) {i:Nat} {x:V} (hx:xs[i]?=some x) :
  RelV g (.vp x.cells) (.pointer (some ⟨c,o+i * sz,none⟩)):=by
 cases h with
 | sl f h1 h2 h3 h4 h5 h6 =>
  have hne:xs≠[]:=by rintro rfl;simp at hx
  have he:=h3 hne;cases he;refine .vp (fun j=>f (i * sz+j)) (fun j y hy=>h4 _ _ (zbf h1 hx j y hy)) (fun j y hy=>?_) (fun j y hy=>h6 _ _ (zbf h1 hx j y hy));rw [zBJ];exact h5 _ _ (zbf h1 hx j y hy)
theorem RelV.sl_form {sz:Nat} {xs:List V} {ow:Own} {cv:Value} (h:RelV g (.sl sz xs ow) cv):∃ ad cap,cv=.slice ad xs.length cap/\xs.length<=cap/\(xs≠[]->∃ c o,ad=some ⟨c,o,none⟩):=by
 cases h with
 | sl f h1 h2 h3=>exact ⟨_,_,rfl,h2,fun hne=>⟨_,_,h3 hne⟩⟩
theorem v6 {t e:TypeId} {c o len cap sz:Nat} {k:IntKind} {i:Int} (ht:P.underlying t=some (.slice e)) (hs:zy P e=some sz) (h0:0<=i) (hi:i<len) (w:World) :
  (Instr.indexAt t (.slice (some ⟨c,o,none⟩) len cap) (.int k i)).run P w=.ok (.pointer (some ⟨c,o+i.toNat * sz,none⟩)) w:=by
 unfold Instr.indexAt;simp [asIntOf,run_underlying ht,h0,hi,zW hs,Addr.add_lit]
theorem wO {t e:TypeId} {c o n sz:Nat} {k:IntKind} {i:Int} (ht:P.underlying t=some (.array n e)) (hs:zy P e=some sz) (h0:0<=i) (hi:i<n) (w:World) :
  (Instr.indexAt t (.pointer (some ⟨c,o,none⟩)) (.int k i)).run P w=.ok (.pointer (some ⟨c,o+i.toNat * sz,none⟩)) w:=by
 unfold Instr.indexAt;simp [asIntOf,run_underlying ht,h0,hi,zW hs,Addr.add_lit,Instr.sureAddr]
theorem zE {sz:Nat}:∀ {xs:List V},(∀ y:V,y∈xs->y.cells.length=sz)->(zo xs).length=xs.length * sz
 | [],_=>by simp [zo]
 | z::xs,hs=>by
  have:=zE (xs:=xs) fun y hy=>hs y (zAE _ hy);simp only [zo,zBK,zAi,zAj,hs z (zAL ..)] at *;rw [this,zBM];omega
theorem xw (xs ys:List V):zo (xs++ys)=zo xs++zo ys:=by simp [zo]
theorem vi {sz:Nat} {xs:List V} (hs:∀ y:V,y∈xs->y.cells.length=sz) {b c j:Nat} {y:V} (h:(zo ((xs.take b).drop c))[j]?=some y):(zo xs)[c * sz+j]?=some y:=by
 have h1:(zo (xs.take b))[c * sz+j]?=some y:=by
  have hc:c<=(xs.take b).length:=by
   rcases zAZ (xs.take b).length c with hlt|hge
   ·rw [List.drop_eq_nil_of_le (by omega)] at h;simp [zo] at h
   ·exact hge
  have e:zo (xs.take b)=zo ((xs.take b).take c)++zo ((xs.take b).drop c):=by rw [<- xw,zA8]
  have hl:(zo ((xs.take b).take c)).length=c * sz:=by
   rw [zE fun y hy=>hs y (zAw (zAw hy)),zBA,Nat.min_eq_left hc]
  rw [e,zAP (by omega),hl,zBw]
  exact h
 have e:zo xs=zo (xs.take b)++zo (xs.drop b):=by rw [<- xw,zA8]
 rw [e,zAR (zAB.1 h1).1];exact h1
theorem ze3 {t:TypeId} {x v:V} {lo hi:Option V} {cx:Value} {clo chi:Option Value} {n:Nat} (h:kU P t x lo hi=some v) (hx:RelV g x cx) (hlo:zeL g lo clo) (hhi:zeL g hi chi) (ht:x.top<=n) (w:World) :
  zdx P g n w (Instr.sliceAt t cx clo chi none) v:=by
 simp only [kU,Option.bind_eq_bind,zAG] at h;obtain ⟨ds,hd,h⟩:=h;have hu:=run_underlying hd w;split at h
 ·rename_i l;simp only [zAG] at h;obtain ⟨b,hb,c,hc,h⟩:=h;split at h<;>simp only [zAA,reduceCtorEq] at h;rename_i hle;subst h;cases hx with
  | str h1 =>
   refine ⟨.string (bytes ((l.take b).drop c)),?_,.str fun y hy=>h1 y (zAw (zA1 hy)),zAW _,fun _ _=>trivial⟩;have hb':=ym (P:=P) (isSlice:=false) hlo hhi hb hc hle.1 hle.2 (zAO _) w;rw [<- qQ l] at hb';simp [Instr.sliceAt,hu,Instr.slice,hb',zeM]
 ·rename_i e sz xs ow;simp only [zAG] at h;obtain ⟨b,hb,c,hc,m,hm,h⟩:=h;split at h<;>simp only [zAA,reduceCtorEq] at h;rename_i hle;obtain ⟨hle1,hle2,rfl⟩:=hle;subst h;cases hx with
  | sl f h1 h2 h3 h4 h5 h6 =>
   rename_i ad cap cb o;have hb':=ym (P:=P) (isSlice:=true) hlo hhi hb hc hle1 hle2 h2 w;have hlen:((xs.take b).drop c).length=b - c:=by simp;omega
   have hne:(xs.take b).drop c≠[]->xs≠[]:=by rintro h rfl;simp at h
   refine ⟨.slice (if cap=c then ad else ad.map (·.add (c * m))) (b - c) (cap - c),?_,?_,?_,fun _ _=>trivial⟩
   ·simp [Instr.sliceAt,hu,Instr.slice,hb',zW hm]
   ·rw [<- hlen];refine .sl (c:=cb) (o:=o+c * m) (fun j=>f (c * m+j)) (fun y hy=>h1 y (zAw (zA1 hy))) (by rw [hlen];omega) (fun hn=>?_) (fun j x hx=>h4 _ x (vi h1 hx)) (fun j x hx=>?_) (fun j x hx=>h6 _ x (vi h1 hx))
    ·have:0<b - c:=by rw [<- hlen];exact zBd.2 hn
     rw [if_neg (by omega),h3 (hne hn)]
     simp [Addr.add_lit]
    ·rw [zBJ];exact h5 _ x (vi h1 hx)
   ·exact zAM (zN fun y hy=>zg (zAw (zA1 hy))) ht
 ·rename_i e;simp only [zAG] at h;obtain ⟨b,hb,c,hc,m,hm,h⟩:=h;split at h<;>simp only [zAA,reduceCtorEq] at h;rename_i hle;obtain ⟨rfl,rfl⟩:=hle;subst h;cases hx;have hb':=ym (P:=P) (isSlice:=true) hlo hhi hb hc (zAO _) (zAO _) (zAO _) w;exact ⟨.slice none 0 0,by simp [Instr.sliceAt,hu,Instr.slice,hb',zW hm],.snil,zAW _,fun _ _=>trivial⟩
 ·rename_i e bb off len cap;simp only [zAG] at h;obtain ⟨b,hb,c,hc,m,hm,h⟩:=h;cases hx with
  | sr hcap =>
   split at h
   ·rename_i hle;simp only [zAA] at h;subst h;have hb':=zaP (P:=P) (isSlice:=true) hlo hhi hb hc hle.1 hle.2.1 w;refine ⟨.slice (some ⟨g.blk bb,off+c * m,none⟩) (b - c) (cap - c),?_,.sr (by omega),ht,fun _ _=>trivial⟩
    have:¬ cap=c:=by omega
    simp [Instr.sliceAt,hu,Instr.slice,hb',zW hm,this,Addr.add_lit]
   ·split at h<;>simp only [zAA,reduceCtorEq] at h;rename_i hle;obtain ⟨rfl,hle⟩:=hle;subst h;have hb':=zaP (P:=P) (isSlice:=true) hlo hhi hb hc (zAO _) hle w;refine ⟨_,by simp only [Instr.sliceAt,hu,Instr.slice,hb',zW hm,Sem.run_bind,Result.andThen_ok,Sem.run_pure];rfl,?_,zAW _,fun _ _=>trivial⟩
    rw [zBk];exact .sl (c:=0) (o:=0) (fun _=>.nilFunc) (fun y hy=>by simp at hy) (zAW _) (fun hn=>absurd rfl hn) (fun j x hx=>by simp [zo] at hx) (fun j x hx=>by simp [zo] at hx) (fun j x hx=>by simp [zo] at hx)
 ·cases h
theorem zkU {t:TypeId} {sz:Nat} {xs:List V} {ow:Own} {v:V} {lo:Option V} {cx:Value} {clo:Option Value} {kh km:IntKind} {hh m:Int} {n:Nat} (h:kU P t (.sl sz xs ow) lo (some (.int kh hh))=some v) (hx:RelV g (.sl sz xs ow) cx) (hlo:zeL g lo clo) (hm:hh<=m) (hcl:m<=xs.length)
  (ht:(V.sl sz xs ow).top<=n) (w:World):zdx P g n w (Instr.sliceAt t cx clo (some (.int kh hh)) (some (.int km m))) v:=by
 simp only [kU,Option.bind_eq_bind,zAG] at h;obtain ⟨ds,hd,h⟩:=h;have hu:=run_underlying hd w;cases ds<;>simp only [reduceCtorEq] at h;simp only [zAG] at h;obtain ⟨b,hb,c,hc,m',hm',h⟩:=h;split at h<;>simp only [zAA,reduceCtorEq] at h;rename_i hle;obtain ⟨hle1,hle2,rfl⟩:=hle;subst h;simp only [z8] at hb;split at hb<;>simp only [zAA,reduceCtorEq] at hb;rename_i h0;subst hb;cases hx with
 | sl f h1 h2 h3 h4 h5 h6 =>
  rename_i ad cap cb o;have hb':=ziM (P:=P) (isSlice:=true) (len:=xs.length) (cap:=cap) (k:=kh) (k':=km) hlo hc h0 hle1 hm (by omega) w
  have hlen:((xs.take hh.toNat).drop c).length=hh.toNat - c:=by simp;omega
  have hne:(xs.take hh.toNat).drop c≠[]->xs≠[]:=by rintro h rfl;simp at h
  refine ⟨.slice (if m.toNat=c then ad else ad.map (·.add (c * m'))) (hh.toNat - c) (m.toNat - c),?_,?_,?_,fun _ _=>trivial⟩
  ·simp [Instr.sliceAt,hu,Instr.slice,hb',zW hm']
  ·rw [<- hlen];refine .sl (c:=cb) (o:=o+c * m') (fun j=>f (c * m'+j)) (fun y hy=>h1 y (zAw (zA1 hy))) (by rw [hlen];omega) (fun hn=>?_) (fun j x hx=>h4 _ x (vi h1 hx)) (fun j x hx=>?_) (fun j x hx=>h6 _ x (vi h1 hx))
   ·have:0<hh.toNat - c:=by rw [<- hlen];exact zBd.2 hn
    rw [if_neg (by omega),h3 (hne hn)]
    simp [Addr.add_lit]
   ·rw [zBJ];exact h5 _ x (vi h1 hx)
  ·exact zAM (zN fun y hy=>zg (zAw (zA1 hy))) ht
end Go.Vm
namespace Go.Vm
open Go
variable {P:Program} {B:Base} {g:Gh} {s:St} {a:Act} {w:World}
def GlOk (_P:Program) (gl:Nat->Nat->Option V) (g:Gh):Prop:=(∀ k off v,gl k off=some v->∃ cv,g.M k off=some cv/\RelV g v cv/\v.top=0) /\
 ∀ k U j,gl k 0=some (.ifc U (.obj j))->g.obj.lo (g.obj j).block/\∀ k' U' j',gl k' 0=some (.ifc U' (.obj j'))->g.obj j=g.obj j'->j=j'
theorem GlOk.le {gl:Nat->Nat->Option V} {n:Nat} {g g':Gh} (hg:Gh.Le n g g') (h:GlOk P gl g):GlOk P gl g':=by
 refine ⟨fun k off v hv=>?_,fun k U j hv=>?_⟩
 ·obtain ⟨cv,h1,h2,h3⟩:=h.1 k off v hv;exact ⟨cv,hg.M _ _ _ h1,h2.le hg (by omega),h3⟩
 ·rw [hg.obj];exact h.2 k U j hv
theorem wu (v:V):∀ sz xs e,clr v≠.sl sz xs (.yes e):=by
 intro sz xs e;cases v<;>simp [clr]
theorem yn (h:Rel B g s a w) {b:Nat} {cs:List V} {t:TypeId} (hb:s.H.get b=some (.cells cs t)) :
  ∃ arr,w.heap[g.blk b]?=some (.cells arr t (0,0))/\RelCs g cs arr.toList/\tops cs<=s.H.blks.length/\(∀ (j:Nat) (x:V) (v:Value),cs[j]?=some x->arr[j]?=some v->OwnV g s.H.blks.length w (.cell b j) x v/\zdv g b j x v):=by
 simp only [Hp.get,zd] at hb;obtain ⟨arr,h1,h2,h3⟩:=h.wok.ok b _ hb;have ht:=h.wok.tops b _ hb;refine ⟨arr,h1,⟨by simpa using h2,fun j x hx=>?_,fun j x v hx hv=>(h3 j x v hx (by simpa using hv)).2.1⟩,ht,fun j x v hx hv=>(h3 j x v hx hv).2.2⟩
 have hj:j<arr.size:=by rw [<- h2];exact (zAB.1 hx).1
 exact (h3 j x arr[j] hx (zAy hj)).1
theorem zl4 {w:World} {e:TypeId} {sz c len cap:Nat} {vs:List Value} (h:w.ownsRow 0 e sz (.slice (some ⟨c,0,none⟩) len cap) len vs) {j:Nat} {v:Value} (hj:vs[j]?=some v):w.cell? ⟨c,j,none⟩=some v:=by
 obtain ⟨_,h|⟨c',cap',cur,hv,_,hb,_,_,_,hx⟩⟩:=h
 ·cases h.1
 ·cases hv;refine (cell_of_row w c j cur e (0,0) hb).trans ?_;rw [<- hx,zA4] at hj;split at hj
  ·simpa using hj
  ·cases hj
theorem zbg (h:Rel B g s a w) {b ver sz:Nat} {cs:List V} {e:TypeId} (hb:s.H.get b=some (.ul ver sz cs e)) :
  ∃ c len cap vs,UlOk g s.H.blks.length w b ver sz cs e c len cap vs/\RelCs g cs vs/\tops cs<=s.H.blks.length:=by
 simp only [Hp.get,zd] at hb;obtain ⟨c,len,cap,vs,hu⟩:=h.wok.ok b _ hb;have ht:=h.wok.tops b _ hb;refine ⟨c,len,cap,vs,hu,⟨hu.len,fun j x hx=>?_,fun j x v hx hv=>(hu.cells j x v hx hv).2⟩,ht⟩;have hj:j<vs.length:=by rw [<- hu.len];exact (zAB.1 hx).1
 exact (hu.cells j x vs[j] hx (zAS hj)).1
theorem zhb (h:Rel B g s a w) {gl:Nat->Nat->Option V} (hgl:GlOk P gl g) {t:TypeId} {p v:V} {cp:Value} (hp:RelV g p cp) (hpt:p.top<=s.H.blks.length) (hv:zn P s.H gl t p=some v) :
  ∃ cv,(Instr.loadAt t cp).run P w=.ok cv w/\RelV g v cv/\v.top<=s.H.blks.length:=by
 simp only [zn] at hv;split at hv
 ·rename_i b off;simp only [Option.bind_eq_bind,zAG] at hv;obtain ⟨x,hx,hv⟩:=hv;split at hv<;>try (cases hv;done)
  rename_i cs ty;obtain ⟨arr,h1,h2,h3,_⟩:=yn h hx;cases hp;obtain ⟨cv,c1,c2,c3⟩:=zfQ (P:=P) (w:=w) h2 (c:=g.blk b) (o:=0) (fun j v hj=>by rw [zA0,cell_of_row w _ j arr ty (0,0) h1];simpa using hj) hv
  rw [zA0] at c1;exact ⟨cv,by simpa [Instr.loadAt,Instr.sureAddr] using c1,c2,zAM c3 h3⟩
 ·rename_i cs;cases hp with
  | vp f h1 h2 h3 =>
   rename_i c o
   have hcs:RelCs g cs ((List.range cs.length).map f):=⟨by simp,h1,fun j x v hx hv=>by
    have hj:=(zAB.1 hx).1;simp [hj] at hv;subst hv
    exact h3 j x hx⟩
   obtain ⟨cv,c1,c2,c3⟩:=zfQ (P:=P) (w:=w) hcs (c:=c) (o:=o) (fun j v hj=>by
    have hj':j<cs.length:=by have:=(zAB.1 hj).1;simpa using this
    have hx:cs[j]?=some cs[j]:=zAS hj';have e:f j=v:=by simpa [hj'] using hj
    rw [<- e]
    exact h.wok.mem _ _ _ (h2 j _ hx)) hv
   rw [zBf] at c1;exact ⟨cv,by simpa [Instr.loadAt,Instr.sureAddr] using c1,c2,zAM c3 (by simpa [V.top] using hpt)⟩
 ·rename_i b u k;simp only [Option.bind_eq_bind,zAG] at hv;obtain ⟨x,hx,hv⟩:=hv;split at hv<;>try (cases hv;done)
  rename_i ver sz cs e;split at hv
  ·rename_i hver;have:=zAJ hver;subst this;obtain ⟨c,len,cap,vs,hu,h2,h3⟩:=zbg h hx;cases hp with
   | ulp k hh =>
    rw [hu.hdr] at hh;cases hh;obtain ⟨cv,c1,c2,c3⟩:=zfQ (P:=P) (w:=w) h2 (c:=c) (o:=0) (fun j v hj=>by rw [zA0];exact zl4 hu.row hj) hv
    exact ⟨cv,by simpa [Instr.loadAt,Instr.sureAddr] using c1,c2,zAM c3 h3⟩
  ·cases hv
 ·rename_i k off;simp only [Option.bind_eq_bind,zAG] at hv;obtain ⟨b,hb,hv⟩:=hv;split at hv
  ·cases hv
  ·rename_i hb';obtain ⟨cv,c1,c2,c3⟩:=hgl.1 k off v hv;cases hp;refine ⟨cv,?_,c2,by omega⟩
   have hbf:b=false:=by simpa using hb'
   subst hbf;simp [Instr.loadAt,Instr.sureAddr,loadVar,zbd hb,h.wok.mem _ _ _ c1]
 ·cases hv
theorem zkV (l:List Nat) (i:Nat):(bytes l)[i]?=(l[i]?).map UInt8.ofNat:=by
 by_cases hi:i<l.length
 ·have h1:i<(bytes l).size:=by rw [qQ];exact hi
  rw [getElem?_pos (bytes l) i h1,zAS hi];simp only [zAa,zAA];show (bytes l).data[i]=_;simp [bytes]
 ·rw [getElem?_neg (bytes l) i (by rw [qQ];exact hi),zAk (by omega)]
  rfl
theorem zfS {t:TypeId} {l:List Nat} {k:IntKind} {i:Int} {b:Nat} (ht:P.underlying t=some .string) (hl:∀ c:Nat,c∈l->c<256) (h0:¬ i<0) (hb:l[i.toNat]?=some b) (w:World) :
  (Instr.index t (.string (bytes l)) (.int k i)).run P w=.ok (.int .u8 b) w:=by
 have hb':b<256:=hl b (zl hb);have hi:0<=i:=by omega
 unfold Instr.index;simp [asIntOf,run_underlying ht,hi,zkV,hb,UInt8.toNat_ofNat',zBV hb']
theorem zeN {t e:TypeId} {cs:List V} {arr:Array Value} {len n:Nat} {k:IntKind} {i:Int} {v:V} (ht:P.underlying t=some (.array len e)) (hn:zy P e=some n) (hr:RelCs g cs arr.toList) (h0:0<=i) (hi:i<len)
  (hv:qq P e cs (i.toNat * n)=some v) (w:World):∃ cv,(Instr.index t (.agg arr) (.int k i)).run P w=.ok cv w/\RelV g v cv/\v.top<=tops cs:=by
 obtain ⟨cv,c1,c2,c3,_⟩:=zah (P:=P) hr hv w;refine ⟨cv,?_,c2,c3⟩;unfold Instr.index;simp [asIntOf,run_underlying ht,h0,hi,zW hn,c1]
theorem bytesA_ints:∀ {xs:List V} {l:List Nat},bytesA xs=some l->∃ ns:List Int,xs=ns.map (V.int .u8)/\l=ns.map fun n=>n.toNat % 256
 | [],l,h=>by simp only [bytesA,zAA] at h;subst h;exact ⟨[],rfl,rfl⟩
 | x::xs,l,h=>by
  unfold bytesA at h;split at h
  ·rename_i e;cases e
  ·rename_i n r e;cases e;simp only [zAV] at h;obtain ⟨l',hl,rfl⟩:=h;obtain ⟨ns,rfl,rfl⟩:=bytesA_ints hl;exact ⟨n::ns,rfl,rfl⟩
  ·cases h
theorem foldl_bytes:∀ (ns:List Int) (l:List Nat),ns.foldl (fun r n=>r.push (UInt8.ofNat n.toNat)) (bytes l)=bytes (l++ns.map fun n=>n.toNat % 256)
 | [],l=>by simp
 | n::ns,l=>by
  have e:(bytes l).push (UInt8.ofNat n.toNat)=bytes (l++[n.toNat % 256]):=by
   apply ByteArray.ext;have:UInt8.ofNat (n.toNat % 256)=UInt8.ofNat n.toNat:=by
    apply UInt8.toNat_inj.1;simp [UInt8.toNat_ofNat']
   simp [bytes,ByteArray.push,this]
  simp only [List.foldl_cons,e,foldl_bytes ns,zAz,zAc,List.singleton_append]
theorem zdy {xs:List V} {ow:Own} {cx:Value} {l:List Nat} (h:bytesA xs=some l) (hx:RelV g (.sl 1 xs ow) cx) (hmem:∀ c o u,g.M c o=some u->w.cell? ⟨c,o,none⟩=some u) :
  (Conv.bytesToString cx).run P w=.ok (.string (bytes l)) w/\∀ b:Nat,b∈l->b<256:=by
 obtain ⟨ns,rfl,rfl⟩:=bytesA_ints h;refine ⟨?_,fun b hb=>?_⟩
 ·cases hx with
  | sl f h1 h2 h3 h4 h5 h6 =>
   rename_i ad cap c o;cases ad with
   | none =>
    have:ns=[]:=by
     cases ns with
     | nil=>rfl
     | cons n ns=>have:=h3 (by simp);cases this
    subst this;rfl
   | some ad =>
    have hfl:zo (ns.map (V.int .u8))=ns.map (V.int .u8):=by
     clear h h1 h2 h3 h4 h5 h6
     induction ns with
     | nil=>rfl
     | cons n ns ih=>simp only [zo,zAz,zBK,V.cells] at *;rw [ih];rfl
    have hl:(loadCells ad (ns.map (V.int .u8)).length).run P w=.ok (ns.map (Value.int .u8)).toArray w:=by
     have:=run_loadCells_list (P:=P) w ad (ns.map (Value.int .u8)) (fun j v hj=>by
      simp only [zAY,zAV] at hj;obtain ⟨n,hn,rfl⟩:=hj;have hx':(zo (ns.map (V.int .u8)))[j]?=some (.int .u8 n):=by rw [hfl];simp [hn]
      have hne:ns.map (V.int .u8)≠[]:=by rintro e;simp at e;subst e;simp at hn
      have e:=h3 hne;cases e;rw [Addr.add_lit];have h7:=h6 j _ hx';have h8:=hmem _ _ _ (h5 j _ hx');generalize f j=u at h7 h8;cases h7
      exact h8)
     simpa using this
    rw [run_bytesToString w ad _ cap ns hl];have:=foldl_bytes ns [];have e0:bytes []=ByteArray.empty:=rfl;rw [e0] at this;rw [this];rfl
 ·obtain ⟨n,_,rfl⟩:=zAo.1 hb;omega
theorem zl5 {src dst:TypeId} {x v:V} {cx:Value} {n:Nat} (h:jx P src dst x=some v) (hx:RelV g x cx) (hns:∀ s,x≠.str s\/P.underlying dst=some .string) (hmem:∀ c o u,g.M c o=some u->w.cell? ⟨c,o,none⟩=some u):zdx P g n w (convert src dst cx) v:=by
 simp only [jx,Option.bind_eq_bind,zAG] at h;obtain ⟨ds,hs,dd,hd,h⟩:=h;have hus:=run_underlying hs w;have hud:=run_underlying hd w;split at h
 ·simp only [zAA] at h;subst h;cases hx;exact ⟨.int _ _,by simp [convert,hus,hud,Conv.intToInt],.int _ _,zAW _,fun _ _=>trivial⟩
 ·rename_i k m;simp only [zAA] at h;subst h;cases hx;have e:Utf8.encode m=bytes ((Utf8.encode m).data.toList.map UInt8.toNat):=by
   apply ByteArray.ext;simp [bytes,Function.comp_def]
  refine ⟨.string (bytes ((Utf8.encode m).data.toList.map UInt8.toNat)),by rw [<- e];simp [convert,hus,hud,Conv.intToString],.str fun b hb=>?_,zAW _,fun _ _=>trivial⟩
  obtain ⟨c,_,rfl⟩:=zAo.1 hb;exact c.toNat_lt
 ·simp only [zAA] at h;subst h;cases hx with
  | str h1=>exact ⟨_,by simp [convert,hus,hud],.str h1,zAW _,fun _ _=>trivial⟩
 ·rename_i e;simp only [zAG] at h;obtain ⟨d8,h8,h⟩:=h;split at h<;>simp only [zAA,reduceCtorEq] at h;subst h;cases hx;refine ⟨.string (bytes []),?_,.str (by simp),zAW _,fun _ _=>trivial⟩
  rw [run_convert_bytes_string w src dst e _ _ _ hs h8 hd];rfl
 ·rename_i e xs ow;simp only [zAG] at h;obtain ⟨d8,h8,h⟩:=h;split at h<;>try (cases h;done)
  simp only [zAV] at h;obtain ⟨l,hl,rfl⟩:=h;obtain ⟨ad,cap,rfl,_,_⟩:=hx.sl_form;obtain ⟨c1,c2⟩:=zdy (P:=P) hl hx hmem;refine ⟨.string (bytes l),?_,.str c2,zAW _,fun _ _=>trivial⟩;rw [run_convert_bytes_string w src dst e _ _ _ hs h8 hd];exact c1
 ·rename_i l _ _;rcases hns _ with hn|hn
  ·exact absurd rfl hn
  ·rw [hd] at hn;cases hn
 ·cases h
theorem vj {t:TypeId} {v:V} (h:zU P t=some v) (w:World):∃ cv,(zeroValue t).run P w=.ok cv w/\RelV g v cv/\v.top=0/\(∀ k l,OwnV g k w l v cv)/\(P.info? t).bind (·.zero)=some cv:=by
 simp only [zU,zAG] at h;obtain ⟨i,hi,z,hz,hv⟩:=h;obtain ⟨h1,h2⟩:=zb5 g z v hv;refine ⟨z,?_,h1,h2,fun k l=>ze2 hv,by simp [hi,hz]⟩
 simp [zeroValue,typeInfo,hi,hz]
end Go.Vm
namespace Go.Vm
open Go
variable {P:Program} {B:Base} {g:Gh} {s:St} {a:Act} {w:World}
def zaQ (P:Program) (B:Base) (s:St) (a:Act) (w:World) (_g:Gh) (o:Oper) (v:V):Prop :=
 ∃ g' cv w',(execOp a.eval o).run P w=.ok (.value cv) w'/\OpOk B g' s a w' o.dst v cv
theorem wv (h:Rel B g s a w) {o:Oper} {m:Sem Value} {v:V} (hm:zdx P g s.H.blks.length w m v) (he:execOp a.eval o=(do pure (.value (<- m)))):zaQ P B s a w g o v:=by
 obtain ⟨cv,h1,h2,h3,h4⟩:=hm;exact ⟨g,cv,w,by rw [he];simp [h1],⟨h,h2,fun _ _=>h4 _ _,h3⟩⟩
theorem zbh (h:Rel B g s a w):∀ {xs:List Operand} {vs:List V},peeks s.env xs=some vs ->
  vs.length=xs.length/\(∀ (j:Nat) (x:V) (v:Value),vs[j]?=some x->(xs.map a.eval)[j]?=some v->RelV g x v)/\tops vs<=s.H.blks.length/\∀ x∈vs,∀ sz ys e,x≠.sl sz ys (.yes e)
 | [],vs,hp=>by simp only [peeks,zAA] at hp;subst hp;exact ⟨rfl,fun j x v hx=>by simp at hx,zAW _,fun x hx=>by simp at hx⟩
 | x::xs,vs,hp=>by
  simp only [peeks,zI] at hp;split at hp
  ·cases hp
  ·rename_i v hv;split at hp<;>simp only [zAA,reduceCtorEq] at hp;rename_i ys hys;subst hp;obtain ⟨h1,h2,h3⟩:=zm h hv;obtain ⟨i1,i2,i3,i4⟩:=zbh h hys;refine ⟨by simp [i1],fun j y u hy hu=>?_,by simp only [tops];exact zBO.2 ⟨h2,i3⟩,fun y hy=>?_⟩
   ·cases j with
    | zero=>simp at hy hu;subst hy;subst hu;exact h1
    | succ j=>simp at hy;exact i2 j y u hy (by simpa using hu)
   ·rcases zAK.1 hy with rfl|hy
    ·intro sz ys e he;subst he;cases x with
     | tmp t =>
      simp only [peek] at hv;split at hv<;>simp only [zAA,reduceCtorEq] at hv;exact wu _ _ _ _ hv
     | const c =>
      simp only [peek] at hv;unfold ofVal at hv;split at hv<;>try (simp at hv;done)
      all_goals (simp only [zAG] at hv;obtain ⟨l,_,hv⟩:=hv;split at hv<;>simp at hv)
     | global k=>simp [peek] at hv
     | func f=>simp [peek] at hv
    ·exact i4 y hy
structure RelEs (g:Gh) (es:List (V×V)) (en:List MapEntry):Prop where
 len:es.length=en.length
 rel:∀ (j:Nat) (x:V×V) (e:MapEntry),es[j]?=some x->en[j]?=some e->RelV g x.1 e.key/\RelV g x.2 e.val
theorem RelEs.tail {x:V×V} {es:List (V×V)} {e:MapEntry} {en:List MapEntry} (h:RelEs g (x::es) (e::en)):RelEs g es en/\RelV g x.1 e.key/\RelV g x.2 e.val :=
 ⟨⟨by have:=h.len;simpa using this,fun j y f hy hf=>h.rel (j+1) y f (by simpa using hy) (by simpa using hf)⟩,h.rel 0 x e (by simp) (by simp)⟩
theorem vk {kd:TypeDesc} {k x:V} {ck cx:Value} {b:Bool} (hk:wH kd k=true) (h:zg6 k x=some b) (h1:RelV g k ck) (h2:RelV g x cx):Instr.sameNow kd ck cx=some b:=by
 unfold zg6 at h;split at h
 ·split at h<;>simp only [zAA,reduceCtorEq] at h;rename_i e;subst h;subst e;cases h1;cases h2;cases kd<;>simp [wH] at hk;simp [Instr.sameNow]
 ·simp only [zAA] at h;subst h;cases h1 with
  | str b1=>cases h2 with
   | str b2 =>
    cases kd<;>simp [wH] at hk;simp only [Instr.sameNow,beq_toListBytes,kw,eqL_iff _ _ b1 b2]
 ·simp only [zAA] at h;subst h;cases h1;cases h2;cases kd<;>simp [wH] at hk;simp [Instr.sameNow]
 ·cases h
theorem zhc {kd:TypeDesc} {k:V} {ck:Value} (hk:wH kd k=true) (h1:RelV g k ck):∀ {es:List (V×V)} {en:List MapEntry} (i:Nat) {r:Option V},RelEs g es en->zcE k es=some r ->
  ∃ r',Instr.findNow kd ck en i=some r'/\match r,r' with
   | none,none=>True
   | some v,some (_,cv)=>RelV g v cv/\∃ x∈es,x.2=v
   | _,_=>False
 | [],[],i,r,_,h=>by simp only [zcE,zAA] at h;subst h;exact ⟨none,rfl,trivial⟩
 | [],_::_,i,r,hr,h=>by have:=hr.len;simp at this
 | _::_,[],i,r,hr,h=>by have:=hr.len;simp at this
 | (x,v)::es,e::en,i,r,hr,h=>by
  obtain ⟨ht,hx,hv⟩:=hr.tail;simp only [zcE] at h;split at h
  ·rename_i hk';simp only [zAA] at h;subst h;refine ⟨some (i,e.val),?_,hv,_,zAL ..,rfl⟩;simp [Instr.findNow,vk hk hk' h1 hx]
  ·rename_i hk';obtain ⟨r',h3,h4⟩:=zhc hk h1 (i+1) ht h;refine ⟨r',by simp [Instr.findNow,vk hk hk' h1 hx,h3],?_⟩
   cases r<;>cases r'
   ·trivial
   ·exact h4
   ·exact h4
   ·obtain ⟨h5,y,hy,hy2⟩:=h4;exact ⟨h5,y,zAE _ hy,hy2⟩
  ·cases h
theorem zfT (n:Nat) {kt:TypeId} {kd:TypeDesc} (hkt:P.underlying kt=some kd) {k:V} {ck:Value} (hk:wH kd k=true) (h1:RelV g k ck) (e:Bool) (w:World):(Instr.checkKey e (n+1) kt ck).run P w=.ok () w:=by
 have hu:=run_underlying hkt w;cases kd<;>cases k<;>simp [wH] at hk
 all_goals (cases h1;simp [Instr.checkKey,hu])
theorem zcG {kt:TypeId} {kd:TypeDesc} (hkt:P.underlying kt=some kd) {k:V} {ck:Value} (hk:wH kd k=true) (h1:RelV g k ck) (e:Bool) (w:World):(Instr.checkKey e 10000 kt ck).run P w=.ok () w :=
 zfT 9999 hkt hk h1 e w
theorem xx (h:Rel B g s a w) {b:Nat} {es:List (V×V)} (hb:s.H.get b=some (.map es)) :
  ∃ en ck,w.heap[g.blk b]?=some (.map en ck)/\RelEs g es en.toList/\tops (es.map (·.1))<=s.H.blks.length/\tops (es.map (·.2))<=s.H.blks.length:=by
 simp only [Hp.get,zd] at hb;obtain ⟨en,ck,h1,h2,h3⟩:=h.wok.ok b _ hb;have ht:=zBO.1 (show max (tops (es.map (·.1))) (tops (es.map (·.2)))<=_ from h.wok.tops b _ hb);exact ⟨en,ck,h1,⟨by simpa using h2,fun j x e hx he=>h3 j x e hx (by simpa using he)⟩,ht.1,ht.2⟩
theorem zkW (h:Rel B g s a w) {t kt e:TypeId} {kd:TypeDesc} {m k v:V} {cm ck:Value} {es:List (V×V)} {b ok:Bool} (ht:P.underlying t=some (.map kt e)) (hkt:P.underlying kt=some kd) (hk:wH kd k=true)
  (hm:RelV g m cm) (hkr:RelV g k ck) (hes:yl s.H m=some es) (hf:zb4 P e k es=some (v,b)) :
  zdx P g s.H.blks.length w (Instr.lookup t cm ck ok) (if ok then .tup [clr v,.bool b] else clr v):=by
 have main:∃ en:List MapEntry,RelEs g es en/\tops (es.map (·.2))<=s.H.blks.length/\∀ (K:Array MapEntry->Sem Value),(do
   let es <- match cm with
    | .map none=>pure #[]
    | .map (some r)=>do
     let .map es _ <- getObj r|stuck "Lookup: map expected"
     pure es
    | _=>stuck "Lookup: map expected"
   K es:Sem Value).run P w=(K en.toArray).run P w:=by
  unfold yl at hes;split at hes
  ·simp only [zAA] at hes;subst hes;cases hm;exact ⟨[],⟨rfl,fun j x e hx=>by simp at hx⟩,zAW _,fun K=>by simp⟩
  ·rename_i bb;split at hes<;>simp only [zAA,reduceCtorEq] at hes;rename_i es' hb;subst hes;cases hm;obtain ⟨en,clock,h1,h2,_,h3⟩:=xx h hb;exact ⟨en.toList,h2,h3,fun K=>by simp [getObj,Sem.run,h1]⟩
  ·cases hes
 obtain ⟨en,hen,htops,hrun⟩:=main
 have hgo:∃ cv,∀ (K:Value×Bool->Sem Value),(do
   Instr.checkKey en.toArray.isEmpty 10000 kt ck
   let x <- match <- Instr.findKey kt ck en.toArray.toList with
    | some (_,v)=>pure (v,true)
    | none=>pure (<- zeroValue e,false)
   K x:Sem Value).run P w=(K (cv,b)).run P w/\RelV g v cv/\v.top<=s.H.blks.length:=by
  unfold zb4 at hf;cases hfa:zcE k es with
  | none=>rw [hfa] at hf;cases hf
  | some r =>
   obtain ⟨r',h1,h2⟩:=zhc hk hkr 0 hen hfa;have hk1:=fun b=>zcG (P:=P) hkt hk hkr b w;cases r with
   | some v' =>
    rw [hfa] at hf;simp only [zAA,zAD] at hf;obtain ⟨rfl,rfl⟩:=hf;cases r' with
    | none=>exact h2.elim
    | some ic =>
     obtain ⟨i,cv⟩:=ic;obtain ⟨h3,y,hy,hy2⟩:=h2;refine ⟨cv,fun K=>⟨?_,h3,?_⟩⟩
     ·simp [hk1,Instr.findKey,run_underlying hkt,h1]
     ·rw [<- hy2];exact zAM (zg (zBG (f:=(·.2)) hy)) htops
   | none =>
    rw [hfa] at hf;simp only [zAV,zAD] at hf;obtain ⟨z,hz,rfl,rfl⟩:=hf;cases r' with
    | some ic=>obtain ⟨i,cv⟩:=ic;exact h2.elim
    | none =>
     obtain ⟨cz,z1,z2,z3,_⟩:=vj (g:=g) hz w;refine ⟨cz,fun K=>⟨?_,z2,by omega⟩⟩
     simp [hk1,Instr.findKey,run_underlying hkt,h1,z1]
 obtain ⟨cv,hgo⟩:=hgo;have hrel:=(hgo (fun _=>pure .nilFunc)).2;refine ⟨if ok then .tuple #[cv,.bool b] else cv,?_,?_,?_,fun k l=>zjO ?_⟩
 ·unfold Instr.lookup;simp only [Sem.run_bind,run_underlying ht,Result.andThen_ok]
  have e1:=hrun (fun es=>do
   Instr.checkKey es.isEmpty 10000 kt ck
   let (v,ok') <- match <- Instr.findKey kt ck es.toList with
    | some (_,v)=>pure (v,true)
    | none=>pure (<- zeroValue e,false)
   pure (if ok then .tuple #[v,.bool ok'] else v))
  have e2:=(hgo (fun x=>pure (if ok then .tuple #[x.1,.bool x.2] else x.1))).1
  simp only [Sem.run_bind] at e1;refine Eq.trans e1 ?_;refine Eq.trans ?_ e2;simp only [Sem.run_bind]
 ·cases ok with
  | true =>
   refine .tup rfl fun j x u hx hu=>?_;rcases j with _|_|j
   ·simp at hx hu;subst hx;subst hu;exact hrel.1.clr
   ·simp at hx hu;subst hx;subst hu;exact .bool b
   ·simp at hx
  | false=>exact hrel.1.clr
 ·cases ok with
  | true=>simp only [if_true,V.top,tops,top_clr];have:=hrel.2;omega
  | false=>simp only [zAH,if_false,top_clr];exact hrel.2
 ·cases ok with
  | true=>intro sz xs e he;simp at he
  | false=>intro sz xs e he;exact wu v sz xs e (by simpa using he)
end Go.Vm
namespace Go.Vm
open Go
variable {P:Program} {B:Base} {g:Gh} {s:St} {a:Act} {w:World}
theorem vm {w w':World} {c:Nat} (hh:w'.heap[c]?=w.heap[c]?) (o:Nat):w'.cell? ⟨c,o,none⟩=w.cell? ⟨c,o,none⟩:=by
 simp [World.cell?,hh]
theorem kx {c o:Nat} {v:Value} (h:w.cell? ⟨c,o,none⟩=some v):c<w.heap.size:=by
 rcases zAZ c w.heap.size with h1|h1
 ·exact h1
 ·simp [World.cell?,Array.getElem?_eq_none h1] at h
def Gh.row (g:Gh) (N:Nat) (vs:List Value) (l:Option Loc):Gh :=
 {g with M:=fun c o=>if c=N then vs[o]? else g.M c o,own:=fun c=>if c=N then l else g.own c }
theorem Rel.settle (h:Rel B g s a w) (vs:List Value) (l:Option Loc) {w':World} (hsz:w.heap.size<w'.heap.size) (hold:∀ c,c<w.heap.size->w'.heap[c]?=w.heap[c]?)
  (hcell:∀ o v,vs[o]?=some v->w'.cell? ⟨w.heap.size,o,none⟩=some v) (hos:w'.os=w.os) (ht:w'.tape=w.tape) (hout:w'.output=w.output) :
  Rel B (g.row w.heap.size vs l) s a w':=by
 have hM:∀ c o v,g.M c o=some v->c<w.heap.size:=fun c o v hv=>kx (h.wok.mem c o v hv);refine h.master (b0:=none) (l0:=none) ?_ (zAO _) (fun _ _ _=>rfl) (fun b x hb hx=>?_) (fun b h1 h2=>?_) (fun b b' h1 h2=>?_) (fun c o v hv=>?_) (fun c l' hc=>?_) (fun b j e=>by cases e) rfl rfl
  (fun t x hx=>⟨x,hx,.inl ⟨rfl,fun e=>by cases e⟩⟩) h.edges h.lks h.lkl (fun _ e=>by cases e)
 ·refine ⟨⟨fun c o v hv=>?_,fun _ _=>rfl,rfl,fun _ _ _ _ e=>e⟩,fun c hc _ _=>hold c hc,fun c hc _=>?_,fun c hc _ o=>?_,Nat.le_of_lt hsz,fun _ _ _=>rfl,fun l' hl'=>(by cases hl'),fun b hb=>(by cases hb),fun _ _ _ _=>rfl,hos,ht,hout⟩
  ·have:=hM c o v hv;simp only [Gh.row];rw [if_neg (by omega)]
   exact hv
  ·simp only [Gh.row];rw [if_neg (by omega)]
  ·simp only [Gh.row];rw [if_neg (by omega)]
 ·rcases hb with hb|hb
  ·cases hb
  ·have:=(zAB.1 hx).1;omega
 ·omega
 ·omega
 ·simp only [Gh.row] at hv;split at hv
  ·rename_i e;subst e;exact hcell o v hv
  ·rw [vm (hold c (hM c o v hv))];exact h.wok.mem c o v hv
 ·simp only [Gh.row] at hc;split at hc
  ·rename_i e;omega
  ·exact Nat.lt_trans (h.wok.ownlt c l' hc) hsz
theorem RelV.settled {n sz cap:Nat} {xs:List V} {vs:List Value} {ow:Own} {N:Nat} {l:Option Loc} (hx:∀ y:V,y∈xs->y.cells.length=sz) (hcap:xs.length<=cap) (hcs:RelCs g (zo xs) vs) (ht:tops (zo xs)<=n)
  (hle:Gh.Le n g (g.row N vs l)):RelV (g.row N vs l) (.sl sz xs ow) (.slice (some ⟨N,0,none⟩) xs.length cap):=by
 refine .sl (c:=N) (o:=0) (fun j=>vs.getD j .nilFunc) hx hcap (fun _=>rfl) hcs.one (fun j x hj=>?_) (fun j x hj=>?_)
 ·obtain ⟨v,hv,_⟩:=hcs.get hj;simp [Gh.row,hv,List.getD]
 ·obtain ⟨v,hv,hr⟩:=hcs.get hj;have:=hr.le hle (zAM (zg (zl hj)) ht);simpa [List.getD,hv] using this
end Go.Vm
namespace Go.Vm
open Go
variable {P:Program} {B:Base} {g:Gh} {s:St} {a:Act} {w:World}
theorem opO (h:Rel B g s a w) {x:Option Operand} {v:Option V} (hv:peekO s.env x=some v):zeL g v (x.map a.eval):=by
 cases x with
 | none=>simp only [peekO,zAA] at hv;subst hv;trivial
 | some x =>
  simp only [peekO] at hv;split at hv<;>simp only [zAA,reduceCtorEq] at hv;rename_i u hu;subst hv;exact (zm h hu).1
theorem zhd (h:Rel B g s a w) {x:Operand} {u v:V} (hu:peek s.env x=some u)
  (hv:derefA u=some v) :
  ∃ cv,RelV g v cv/\v.top<=s.H.blks.length/\(∀ m l,OwnV g m w l v cv)/\cv=a.eval x/\((∃ p,cv=.pointer (some p))\/(∃ f fa fc,cv=.func (.func f) fa fc)\/∃ t u,cv=.iface t u):=by
 obtain ⟨h1,h2,h3⟩:=zm h hu;generalize a.eval x=cv at h1 h3;unfold derefA at hv;split at hv<;>simp only [zAA,reduceCtorEq] at hv
 all_goals
  subst hv;refine ⟨cv,h1,h2,h3,rfl,?_⟩;cases h1
  first
   |exact .inl ⟨_,rfl⟩
   |exact .inr (.inl ⟨_,_,_,rfl⟩)
   |exact .inr (.inr ⟨_,_,rfl⟩)
theorem RelCs.set {cs:List V} {vs:List Value} (h:RelCs g cs vs) {x:V} {v:Value} (h1:x.one=true) (hr:RelV g x v) (i:Nat):RelCs g (cs.set i x) (vs.set i v):=by
 refine ⟨by simp [h.len],fun j y hy=>?_,fun j y u hy hu=>?_⟩
 ·rw [zAl] at hy;split at hy
  ·split at hy<;>simp only [zAA,reduceCtorEq] at hy;subst hy;exact h1
  ·exact h.one j y hy
 ·rw [zAl] at hy hu;split at hy
  ·rename_i e;split at hy<;>simp only [zAA,reduceCtorEq] at hy;rename_i hi;rw [if_pos e,if_pos (by rw [<- h.len];exact hi)] at hu
   simp only [zAA] at hu;subst hy;subst hu;exact hr
  ·rename_i e;rw [if_neg e] at hu;exact h.rel j y u hy hu
theorem RelCs.tail {x:V} {xs:List V} {u:Value} {us:List Value} (h:RelCs g (x::xs) (u::us)):x.one=true/\RelV g x u/\RelCs g xs us :=
 ⟨h.one 0 x rfl,h.rel 0 x u rfl rfl,⟨by have:=h.len;simpa using this,fun j y hy=>h.one (j+1) y (by simpa using hy),fun j y v hy hv=>h.rel (j+1) y v (by simpa using hy) (by simpa using hv)⟩⟩
theorem RelCs.store:∀ {xs:List V} {us:List Value} {cs:List V} {vs:List Value} (off:Nat),RelCs g cs vs->RelCs g xs us->RelCs g (storeCells cs off xs) (storeCells vs off us)
 | [],[],_,_,_,h,_=>h
 | [],_::_,_,_,_,_,hx=>by have:=hx.len;simp at this
 | _::_,[],_,_,_,_,hx=>by have:=hx.len;simp at this
 | x::xs,u::us,cs,vs,off,h,hx=>by
  obtain ⟨h1,h2,h3⟩:=hx.tail;exact RelCs.store (off+1) (h.set h1 h2 off) h3
theorem ky {v:V} {cv:Value} (hr:RelV g v cv) (hc:okC v=true):RelCs g v.cells cv.cells.toList:=by
 by_cases ha:∃ cs,v=.agg cs
 ·obtain ⟨cs,rfl⟩:=ha;obtain ⟨arr,rfl,h⟩:=ku hr;exact h
 ·have h1:v.one=true:=by
   cases v<;>first
    |rfl
    |(simp [okC] at hc;done)
    |exact absurd ⟨_,rfl⟩ ha
  have e1:v.cells=[v]:=by
   cases v<;>first
    |rfl
    |exact absurd ⟨_,rfl⟩ ha
  have e2:cv.cells.toList=[cv]:=by
   have:=hr.oneCell h1;cases cv<;>first
    |rfl
    |(simp [Value.oneCell'] at this)
  rw [e1,e2];refine ⟨rfl,fun j x hx=>?_,fun j x u hx hu=>?_⟩
  ·cases j with
   | zero=>simp at hx;subst hx;exact h1
   | succ j=>simp at hx
  ·cases j with
   | zero=>simp at hx hu;subst hx;subst hu;exact hr
   | succ j=>simp at hx
theorem zaR (off:Nat):∀ (l:List Value) (k:Nat) (arr:Array Value),((l.zipIdx k).foldl (fun cs (p:Value×Nat)=>cs.setIfInBounds (off+p.2) p.1) arr).toList=storeCells arr.toList (off+k) l
 | [],_,_=>rfl
 | x::l,k,arr=>by
  simp only [List.zipIdx_cons,List.foldl_cons];rw [zaR off l (k+1) _];simp [storeCells,zBJ]
theorem qI {α:Type}:∀ (vs:List α) (cs:List α) (off:Nat),(storeCells cs off vs).length=cs.length
 | [],_,_=>rfl
 | v::vs,cs,off=>by simp only [storeCells];rw [qI vs];simp
theorem zdz {cs:List V} {i:Nat} {x:V} {n:Nat} (h:tops cs<=n) (hx:x.top<=n):tops (cs.set i x)<=n :=
 zN fun y hy=>by
  rcases List.mem_or_eq_of_mem_set hy with hy|rfl
  ·exact zAM (zg hy) h
  ·exact hx
theorem kW {n:Nat}:∀ {vs cs:List V} {off:Nat},tops cs<=n->tops vs<=n->tops (storeCells cs off vs)<=n
 | [],_,_,h,_=>h
 | v::vs,cs,off,h,hv=>by
  simp only [tops] at hv;have:=zBO.1 hv;show tops (storeCells (cs.set off v) (off+1) vs)<=n;exact kW (cs:=cs.set off v) (zdz h this.1) this.2
theorem vn (v:V):tops v.cells<=v.top:=zN fun _ hx=>zag hx
theorem zfU (h:Rel B g s a w) {pA pC:Nat->Option (Nat×Nat)} (hp:∀ i x,pA i=some x->pC i=some x):∀ {parts:List (Nat×Operand)} {cs cs':List V} {arr:Array Value},RelCs g cs arr.toList->tops cs<=s.H.blks.length ->
  xp cs pA s.env parts=some cs'->∃ arr',Instr.fill pC arr (parts.map fun (i,x)=>(i,a.eval x))=some arr'/\RelCs g cs' arr'.toList/\tops cs'<=s.H.blks.length
 | [],cs,cs',arr,hr,ht,hf=>by simp only [xp,zAA] at hf;subst hf;exact ⟨arr,rfl,hr,ht⟩
 | (i,x)::parts,cs,cs',arr,hr,ht,hf=>by
  simp only [xp,Option.bind_eq_bind,zAG] at hf;obtain ⟨v,hv,⟨off,n⟩,hpl,hf⟩:=hf;split at hf
  ·rename_i hc;simp only [zAC,Nat.beq_eq,Nat.ble_eq] at hc;obtain ⟨⟨hc1,hc2⟩,hc3⟩:=hc;obtain ⟨h1,h2,h3⟩:=zm h hv;have hcs:=ky h1 hc1;have hsz:(a.eval x).cells.size=n:=by rw [<- hc2,hcs.len];simp
   have hasz:arr.size=cs.length:=by have:=hr.len;simp at this;exact this.symm
   have hfold:((a.eval x).cells.zipIdx.foldl (fun cs (p:Value×Nat)=>cs.setIfInBounds (off+p.2) p.1) arr).toList=storeCells arr.toList off (a.eval x).cells.toList:=by
    rw [<- Array.foldl_toList,Array.toList_zipIdx];have:=zaR off (a.eval x).cells.toList 0 arr;simpa using this
   have hst:=hr.store off hcs;rw [<- hfold] at hst;obtain ⟨arr',f1,f2,f3⟩:=zfU h hp hst (kW ht (zAM (vn v) h2)) hf;refine ⟨arr',?_,f2,f3⟩;simp only [zAz,Instr.fill,hp i _ hpl];have:¬ (((a.eval x).cells.size≠n || off+(a.eval x).cells.size > arr.size)=true):=by
    rw [hsz,hasz];simp;exact hc3
   simp only [this];exact f1
  ·cases hf
theorem zkX (h:Rel B g s a w) {t:TypeId} {parts:Array (Nat×Operand)} {v:V} (hb:kV P t parts s.env=some v) :
  zdx P g s.H.blks.length w (Instr.build t (parts.map fun (i,x)=>(i,a.eval x))) v:=by
 unfold kV at hb;split at hb
 ·cases hb
 ·rename_i z hz;split at hb
  ·cases hb
  ·rename_i hok;obtain ⟨cz,z1,z2,z3,_,hzz⟩:=vj (g:=g) hz w;have hcs:=ky z2 (by simpa using hok)
   have htz:tops z.cells<=s.H.blks.length:=zAM (vn z) (by omega)
   simp only [zAG] at hzz;obtain ⟨it,hit,hiz⟩:=hzz;have hparts:(parts.map fun (i,x)=>(i,a.eval x)).toList=parts.toList.map fun (i,x)=>(i,a.eval x):=by simp
   split at hb
   ·rename_i fs hd;split at hb
    ·rename_i ps hps;simp only [zAV] at hb;obtain ⟨cs',hf,rfl⟩:=hb;obtain ⟨arr',f1,f2,f3⟩:=zfU h (pC:=fun i=>ps.toArray[i]?) (fun i x hx=>by rw [zd] at hx;simpa using hx) hcs htz hf
     refine ⟨.agg arr',run_build w t _ arr' ?_,f2.agg,f3,fun _ _=>trivial⟩;unfold zfM at hps;rw [hparts];simp only [Program.built,hit,hd,hiz,hps];exact f1
    ·cases hb
   ·rename_i n e hd;split at hb
    ·rename_i ie hie;simp only [zAV] at hb;obtain ⟨cs',hf,rfl⟩:=hb;obtain ⟨arr',f1,f2,f3⟩:=zfU h (pC:=fun i=>some (i * ie.size,ie.size)) (fun i x hx=>hx) hcs htz hf;refine ⟨.agg arr',run_build w t _ arr' ?_,f2.agg,f3,fun _ _=>trivial⟩;rw [hparts];simp only [Program.built,hit,hd,hiz,hie];exact f1
    ·cases hb
   ·cases hb
theorem qX {α:Type}:∀ (new old pre post:List α),old.length=new.length->storeCells (pre++old++post) pre.length new=pre++new++post
 | [],old,pre,post,h=>by
  have:old=[]:=List.eq_nil_of_length_eq_zero h;subst this;rfl
 | v::new,[],pre,post,h=>by simp at h
 | v::new,x::old,pre,post,h=>by
  simp only [storeCells];have e:(pre++(x::old)++post).set pre.length v=(pre++[v])++old++post:=by
   simp
  rw [e];have:=qX new old (pre++[v]) post (by simpa using h)
  simp only [zAi,zAj,List.length_nil,zA0] at this;rw [this];simp
theorem zhe {n:Nat} {v:V} (hv:v.cells.length=n):∀ {xs:List V} {i:Nat},(∀ y:V,y∈xs->y.cells.length=n)->i<xs.length->zo (xs.set i v)=storeCells (zo xs) (i * n) v.cells
 | [],i,_,hi=>by simp at hi
 | x::xs,0,hs,_=>by
  have:=qX v.cells x.cells [] (zo xs) (by rw [hs x (zAL ..),hv])
  simp only [zA7,List.length_nil] at this;simp only [zo,zAQ,zBK,Nat.zero_mul] at *;exact this.symm
 | x::xs,i+1,hs,hi=>by
  have ih:=zhe hv (xs:=xs) (i:=i) (fun y hy=>hs y (zAE _ hy)) (by simpa using hi)
  have hx:=hs x (zAL ..);simp only [zo,zAN,zBK] at *;rw [ih];have shift:∀ (l:List V) (r:List V) (k:Nat),x.cells++storeCells l k r=storeCells (x.cells++l) (n+k) r:=by
   intro l r
   induction r generalizing l with
   | nil=>intro k;rfl
   | cons y r ihr =>
    intro k;simp only [storeCells];rw [ihr (l.set k y) (k+1)];have e:(x.cells++l).set (n+k) y=x.cells++l.set k y:=by
     rw [zA5 _ _ (by omega),hx,zBw]
    rw [e];rfl
  rw [shift]
  congr 1
  rw [zBM];omega
theorem jy {z:V} {n:Nat} (hz:z.cells.length=n):∀ (len j:Nat),j<len * n->(zo (List.replicate len z))[j]?=z.cells[j % n]?
 | 0,j,h=>by simp at h
 | k+1,j,h=>by
  have hn:0<n:=by
   rcases zBx n with h0|h0
   ·subst h0;simp at h
   ·exact h0
  simp only [zBe,zo,zBK];rcases zAZ j n with h1|h1
  ·rw [zAR (by omega),zBV h1]
  ·rw [zAP (by omega),hz]
   have:=jy hz k (j - n) (by rw [zBM] at h;omega)
   simp only [zo] at this;rw [this,Nat.mod_eq_sub_mod h1]
theorem zjP (h:Rel B g s a w) {n len:Nat}:∀ {parts:List (Nat×Operand)} {xs xs':List V} {arr:Array Value},xs.length=len->(∀ y:V,y∈xs->y.cells.length=n)->RelCs g (zo xs) arr.toList->tops xs<=s.H.blks.length ->
  za9 n len s.env xs parts=some xs'->∃ arr',Instr.fill (fun i=>some (i * n,n)) arr (parts.map fun (i,x)=>(i,a.eval x))=some arr'/\RelCs g (zo xs') arr'.toList/\xs'.length=len/\(∀ y:V,y∈xs'->y.cells.length=n)/\tops xs'<=s.H.blks.length
 | [],xs,xs',arr,hl,hs,hr,ht,hf=>by simp only [za9,zAA] at hf;subst hf;exact ⟨arr,rfl,hr,hl,hs,ht⟩
 | (i,x)::parts,xs,xs',arr,hl,hs,hr,ht,hf=>by
  simp only [za9,Option.bind_eq_bind,zAG,zI,fSet_eq] at hf;obtain ⟨v,hv,hf⟩:=hf;split at hf
  ·rename_i hc;simp only [zAC,Nat.beq_eq,zBq] at hc;obtain ⟨⟨hc1,hc2⟩,hc3⟩:=hc;obtain ⟨h1,h2,h3⟩:=zm h hv;have hcs:=ky h1 hc1;have hsz:(a.eval x).cells.size=n:=by rw [<- hc2,hcs.len];simp
   have hasz:arr.size=len * n:=by
    have:=hr.len;rw [zE hs,hl] at this;simpa using this.symm
   have hfold:((a.eval x).cells.zipIdx.foldl (fun cs (p:Value×Nat)=>cs.setIfInBounds (i * n+p.2) p.1) arr).toList=storeCells arr.toList (i * n) (a.eval x).cells.toList:=by
    rw [<- Array.foldl_toList,Array.toList_zipIdx];have:=zaR (i * n) (a.eval x).cells.toList 0 arr;simpa using this
   have hst:=hr.store (i * n) hcs;rw [<- hfold,<- zhe hc2 hs (by rw [hl];exact hc3)] at hst
   obtain ⟨arr',f1,f2⟩:=zjP h (xs:=xs.set i v) (by simpa using hl) (fun y hy=>by
    rcases List.mem_or_eq_of_mem_set hy with hy|rfl
    ·exact hs y hy
    ·exact hc2) hst (zdz ht h2) hf
   refine ⟨arr',?_,f2⟩;simp only [zAz,Instr.fill];have hle:i * n+n<=len * n:=by
    have:=zBh n (Nat.succ_le_of_lt hc3);rw [Nat.succ_mul] at this;exact this
   have:¬ (((a.eval x).cells.size≠n || i * n+(a.eval x).cells.size > arr.size)=true):=by
    rw [hsz,hasz];simp;exact hle
   simp only [this];exact f1
  ·cases hf
theorem va {xs:List V}:tops (zo xs)<=tops xs:=zN fun _ hx=>zdu hx
theorem zeO (h:Rel B g s a w) {t e:TypeId} {len n:Nat} {parts:Array (Nat×Operand)} {z:V} {xs:List V} (hd:P.underlying t=some (.slice e)) (hn:zy P e=some n) (hz:zU P e=some z)
  (hc:(Nat.beq n 0 || Nat.blt 16777216 (len * n) || !Nat.beq z.cells.length n || !okC z)=false) (hx:za9 n len s.env (List.replicate len z) parts.toList=some xs) {o:Oper} (ho:o.op=.buildSlice t len parts) :
  zaQ P B s a w g o (.sl n xs (.yes e)):=by
 simp only [zBb,Bool.not_eq_false'] at hc;obtain ⟨⟨⟨c1,c2⟩,c3⟩,c4⟩:=hc;have c1':n≠0:=by intro e;subst e;simp at c1
 have c2':¬ len * n > 16777216:=by
  intro hlt;have:Nat.blt 16777216 (len * n)=true:=by rw [zBq];exact hlt
  rw [this] at c2;cases c2
 have c3':z.cells.length=n:=zAJ c3;obtain ⟨cz,z1,z2,z3,_,_⟩:=vj (g:=g) hz w;have hcz:=ky z2 c4;have hczs:cz.cells.size=n:=by rw [<- c3',hcz.len];simp
 have harr:RelCs g (zo (List.replicate len z)) ((Array.range (len * n)).map (fun j=>(cz.cells)[j % cz.cells.size]!)).toList:=by
  have hfl:(zo (List.replicate len z)).length=len * n:=by rw [zE (sz:=n) fun y hy=>by rw [(List.mem_replicate.1 hy).2];exact c3'];simp
  refine ⟨by rw [hfl];simp,fun j x hx=>?_,fun j x v hx hv=>?_⟩
  ·have hj:j<len * n:=by rw [<- hfl];exact (zAB.1 hx).1
   rw [jy c3' len j hj] at hx;exact hcz.one _ x hx
  ·have hj:j<len * n:=by rw [<- hfl];exact (zAB.1 hx).1
   rw [jy c3' len j hj] at hx;have hm:j % n<cz.cells.size:=by rw [hczs];exact Nat.mod_lt _ (by omega)
   simp only [Array.toList_map,Array.toList_range,zAY,zBW,hj,zAa,zAA,hczs] at hv;rw [getElem!_pos cz.cells (j % n) hm] at hv;refine hcz.rel _ x v hx ?_;rw [zBC,zAy hm,hv]
 obtain ⟨arr',f1,f2,f3,f4,f5⟩:=zjP h (xs:=List.replicate len z) (len:=len) (n:=n) (by simp) (fun y hy=>by rw [(List.mem_replicate.1 hy).2];exact c3') harr
  (zN fun y hy=>by rw [(List.mem_replicate.1 hy).2];omega) hx
 have hparts:(parts.map fun (i,x)=>(i,a.eval x)).toList=parts.toList.map fun (i,x)=>(i,a.eval x):=by simp
 have hsize:arr'.size=len * n:=by
  have:=f2.len;rw [zE f4,f3] at this;simpa using this.symm
 have hrun:(Instr.buildSlice t len (parts.map fun (i,x)=>(i,a.eval x))).run P w=.ok (.slice (some ⟨w.heap.size,0,none⟩) len len) (w.alloc (.cells arr' e)):=by
  unfold Instr.buildSlice;rcases zBx len with h0|h0
  ·subst h0;simp only [Nat.zero_mul] at f1 hsize;have r0:Array.range 0=#[]:=rfl;have f1':Instr.fill (fun i=>some (i * n,n)) #[] (parts.toList.map fun (i,x)=>(i,a.eval x))=some arr':=by simpa [r0] using f1
   simp only [Sem.run_bind,run_underlying hd,zW hn,Result.andThen_ok,Nat.zero_mul,r0,hparts];simp [f1',newRow]
   try rfl
  ·have:¬ len * n=0:=by
    intro e0;rcases Nat.mul_eq_zero.1 e0 with e0|e0<;>omega
   simp [run_underlying hd,zW hn,c2',this,z1,f1,newRow]
   try rfl
 refine ⟨g.row w.heap.size arr'.toList (o.dst.map (Loc.slot B.d)),.slice (some ⟨w.heap.size,0,none⟩) len len,w.alloc (.cells arr' e),by simp only [execOp,ho,Sem.run_bind,hrun,Result.andThen_ok,Sem.run_pure],?_⟩
 have hrel:=h.settle arr'.toList (o.dst.map (Loc.slot B.d)) (w':=w.alloc (.cells arr' e)) (by simp) (fun c hc=>heap_alloc_old w _ hc) (fun o v hv=>by rw [World.cell?_alloc_new];simpa using hv) rfl rfl rfl
 have hlt:∀ b,b<s.H.blks.length->g.blk b<w.heap.size:=h.wok.lt;have hle:Gh.Le s.H.blks.length g (g.row w.heap.size arr'.toList (o.dst.map (Loc.slot B.d))):=by
  refine ⟨fun c o v hv=>?_,fun _ _=>rfl,rfl,fun _ _ _ _ e=>e⟩;have:=kx (h.wok.mem c o v hv);simp only [Gh.row];rw [if_neg (by omega)];exact hv
 refine ⟨hrel,?_,fun t ht=>?_,f5⟩
 ·have:=RelV.settled (g:=g) (ow:=.yes e) (N:=w.heap.size) (l:=o.dst.map (Loc.slot B.d)) (cap:=len) f4 (by omega) f2 (zAM va f5) hle
  rw [f3] at this;exact this
 ·refine ⟨arr'.toList,zg7 ⟨by simp [hsize,f3],.inr ⟨w.heap.size,len,arr',by rw [f3],zAW _,heap_alloc_new w _,by omega,?_,hsize,?_⟩⟩,fun c hc=>?_⟩
  ·have:len<=len * n:=Nat.le_mul_of_pos_right _ (by omega)
   simp only [maxLen];omega
  ·rw [zBN (by simp [hsize,f3])]
  ·simp only [Value.ownBlock,zAA] at hc;subst hc;refine ⟨by simp [Gh.row,ht],fun o ho _=>?_,fun b hb e=>?_⟩
   ·simp only [Gh.row,if_true];simp only at ho;exact zAk (by simp [hsize];rw [f3] at ho;omega)
   ·have:=hlt b hb;have e':g.blk b=w.heap.size:=e;omega
theorem zhf {isAgg:Bool} {sz:Nat} (h1:isAgg=false->sz=1):∀ {n:Nat} {cs:List V},n * sz<=cs.length->(∀ x∈cs,x.one=true)->zo (xo isAgg sz n cs)=cs.take (n * sz)/\(∀ y∈xo isAgg sz n cs,y.cells.length=sz)/\(xo isAgg sz n cs).length=n
 | 0,cs,_,_=>by simp [xo,zo]
 | n+1,cs,hl,ho=>by
  have hl':n * sz<=(cs.drop sz).length:=by rw [zBM] at hl;simp;omega
  obtain ⟨i1,i2,i3⟩:=zhf h1 (n:=n) (cs:=cs.drop sz) hl' (fun x hx=>ho x (zA1 hx));have hsz:sz<=cs.length:=by rw [zBM] at hl;omega
  have e:cs.take ((n+1) * sz)=cs.take sz++(cs.drop sz).take (n * sz):=by
   rw [show (n+1) * sz=sz+n * sz by rw [zBM];omega,List.take_add]
  cases isAgg with
  | true =>
   simp only [xo,if_true,zo,zBK,V.cells] at *;refine ⟨by rw [i1,e],fun y hy=>?_,by simp [i3]⟩
   rcases zAK.1 hy with rfl|hy
   ·simp;omega
   ·exact i2 y hy
  | false =>
   have h1':=h1 rfl;subst h1';cases cs with
   | nil=>simp at hsz
   | cons x cs =>
    have hx:=ho x (zAL ..);have hxc:x.cells=[x]:=by cases x<;>first|rfl|(simp [V.one,oneV] at hx)
    simp only [xo,zAH,if_false,List.headD_cons,zo,zBK] at *;refine ⟨by rw [i1,e,hxc];simp,fun y hy=>?_,by rw [zAj,i3]⟩
    rcases zAK.1 hy with rfl|hy
    ·rw [hxc];rfl
    ·exact i2 y hy
structure Src (g:Gh) (n:Nat) (w:World) (sz:Nat) (ys:List V) (cy:Value):Prop where
 form:∃ ad cap,cy=.slice ad ys.length cap/\(ys≠[]->∃ a0 news,ad=some a0/\RelCs g (zo ys) news/\∀ j v,news[j]?=some v->w.cell? (a0.add j)=some v)
 sized:∀ y:V,y∈ys->y.cells.length=sz
 tops:tops ys<=n
theorem yo (h:Rel B g s a w) {e:TypeId} {sz:Nat} {y:V} {ys:List V} {cy:Value} (hsz:zy P e=some sz) (hy:jv P s.H e y=some ys) (hr:RelV g y cy) (ht:y.top<=s.H.blks.length):Src g s.H.blks.length w sz ys cy:=by
 unfold jv at hy;split at hy
 ·simp only [zAA] at hy;subst hy;cases hr;exact ⟨⟨none,0,rfl,fun hn=>absurd rfl hn⟩,fun y hy=>by simp at hy,zAW _⟩
 ·rename_i sz' xs ow;simp only [Option.bind_eq_bind,zAG] at hy;obtain ⟨n,hn,hy⟩:=hy;rw [hsz] at hn;cases hn;split at hy<;>simp only [zAA,reduceCtorEq] at hy;rename_i e';subst e';subst hy;cases hr with
  | sl f h1 h2 h3 h4 h5 h6 =>
   rename_i ad cap c o;refine ⟨⟨ad,cap,rfl,fun hn=>⟨⟨c,o,none⟩,(List.range (zo xs).length).map f,h3 hn,⟨by simp,h4,fun j x v hx hv=>?_⟩,fun j v hv=>?_⟩⟩,h1,ht⟩
   ·have hj:=(zAB.1 hx).1;simp [hj] at hv;subst hv;exact h6 j x hx
   ·have hj:j<(zo xs).length:=by have:=(zAB.1 hv).1;simpa using this
    have e':f j=v:=by simpa [hj] using hv
    rw [Addr.add_lit,<- e'];exact h.wok.mem _ _ _ (h5 j _ (zAS hj))
 ·rename_i b off len cap0;simp only [Option.bind_eq_bind,zAG] at hy;obtain ⟨x,hx,hy⟩:=hy;split at hy<;>try (cases hy;done)
  rename_i cs ty;simp only [zAG] at hy;obtain ⟨n,hn,ag,hag,hy⟩:=hy;rw [hsz] at hn;cases hn;split at hy<;>simp only [zAA,reduceCtorEq] at hy;rename_i hc;simp only [zAC,zAe] at hc;obtain ⟨hle,hag1⟩:=hc;have hle':off+len * sz<=cs.length:=zAf hle;obtain ⟨arr,a1,a2,a3,_⟩:=yn h hx;have hdl:((cs.drop off).map clr).length=cs.length - off:=by simp
  obtain ⟨f1,f2,f3⟩:=zhf (isAgg:=ag) (sz:=sz) (n:=len) (cs:=(cs.drop off).map clr) (fun e=>hag1.elim (fun h1=>by rw [e] at h1;cases h1) zAJ) (by rw [hdl];omega) (fun x hx=>by
   simp only [zAo] at hx;obtain ⟨y,hy,rfl⟩:=hx;rw [zfP];obtain ⟨j,hj⟩:=List.getElem?_of_mem (zA1 hy)
   exact a2.one j y hj)
  subst hy;cases hr with
  | sr hlc =>
   refine ⟨⟨some ⟨g.blk b,off,none⟩,cap0,by rw [f3],fun _=>⟨_,(arr.toList.drop off).take (len * sz),rfl,?_,fun j v hv=>?_⟩⟩,f2,?_⟩
   ·rw [f1];refine ⟨?_,fun j x hx=>?_,fun j x v hx hv=>?_⟩
    ·have:=a2.len;simp at this ⊢;omega
    ·simp only [zA4] at hx;split at hx<;>try (cases hx;done)
     simp only [zAY,zBQ,zAV] at hx;obtain ⟨y,hy,rfl⟩:=hx;rw [zfP];exact a2.one _ _ hy
    ·simp only [zA4] at hx hv;split at hx<;>try (cases hx;done)
     rename_i hj;rw [if_pos hj] at hv;simp only [zAY,zBQ,zAV] at hx hv;obtain ⟨y,hy,rfl⟩:=hx;exact (a2.rel _ _ _ hy hv).clr
   ·simp only [zA4] at hv;split at hv<;>try (cases hv;done)
    simp only [zBQ] at hv;rw [Addr.add_lit,cell_of_row w _ _ arr _ _ a1];simpa using hv
   ·refine zN fun y hy=>?_;have hfl:∀ z∈zo (xo ag sz len ((cs.drop off).map clr)),z.top<=s.H.blks.length:=fun z hz=>by
     rw [f1] at hz;have:=zAw hz;simp only [zAo] at this;obtain ⟨u,hu,rfl⟩:=this;rw [top_clr];exact zAM (zg (zA1 hu)) a3
    cases y with
    | agg us=>exact zN fun z hz=>hfl z (List.mem_flatMap.2 ⟨_,hy,hz⟩)
    | _=>exact hfl _ (List.mem_flatMap.2 ⟨_,hy,zAp.2 rfl⟩)
 ·cases hy
theorem zl6 (h:Rel B g s a w) {src dst:TypeId} {b off len cap:Nat} {u v:V} {x:Operand} {o:Oper} (hu:ziL P s.H src (.sr b off len cap)=some u) (hr:jx P src dst u=some v) (hx:RelV g (.sr b off len cap) (a.eval x)) (ht:(V.sr b off len cap).top<=s.H.blks.length) (ho:o.op=.convert src dst x) :
  zaQ P B s a w g o v:=by
 simp only [jx,Option.bind_eq_bind,zAG] at hr;obtain ⟨ds,hs,dd,hd,hr⟩:=hr;unfold ziL at hu;split at hu
 ·rename_i e _ _ _ _ hs2 heq;rw [hs] at hs2;cases hs2;cases heq;split at hu<;>simp only [zAA,reduceCtorEq] at hu;rename_i xs hxs;subst hu;cases dd<;>simp only [reduceCtorEq] at hr;simp only [zAG] at hr;obtain ⟨d8,h8,hr⟩:=hr;split at hr<;>try (cases hr;done)
  simp only [zAV] at hr;obtain ⟨l,hl,rfl⟩:=hr;obtain ⟨n,hn⟩:∃ n,zy P e=some n:=by
   have h1:=hxs;simp only [jv,Option.bind_eq_bind,zAG] at h1;obtain ⟨_,_,h1⟩:=h1;split at h1<;>try (cases h1;done)
   simp only [zAG] at h1;obtain ⟨n,hn,_⟩:=h1;exact ⟨n,hn⟩
  have hsrc:=yo h hn hxs hx ht;obtain ⟨ad,cap',hcy,hform⟩:=hsrc.form;obtain ⟨ns,hns,_⟩:=bytesA_ints hl;have hel:∀ y∈zo xs,∃ k:Int,y=.int .u8 k:=fun y hy=>by
   subst hns;obtain ⟨z,hz,hy⟩:=List.mem_flatMap.1 hy;obtain ⟨k,_,rfl⟩:=zAo.1 hz;simp only [V.cells,zAp] at hy;exact ⟨_,hy⟩
  obtain ⟨f,hf⟩:∃ f:Nat->Value,f=fun _=>.nilFunc:=⟨_,rfl⟩;have hrel:RelV { g with M:=fun c o=>w.cell? ⟨c,o,none⟩ } (.sl 1 xs .no) (a.eval x):=by
   generalize a.eval x=cx at hx hcy;cases hx with
   | sr hcap =>
    cases hcy;have hone:∀ (j:Nat) (y:V),(zo xs)[j]?=some y->y.one=true:=fun j y hy=>by obtain ⟨k,rfl⟩:=hel y (zl hy);rfl
    have hc1:∀ y:V,y∈xs->y.cells.length=1:=fun y hy=>by
     subst hns;obtain ⟨k,_,rfl⟩:=zAo.1 hy;rfl
    by_cases hne:xs=[]
    ·subst hne;exact .sl (c:=0) (o:=0) (fun _=>.nilFunc) (fun y hy=>by simp at hy) (zAW _) (fun hn=>absurd rfl hn) (fun j y hy=>by simp [zo] at hy) (fun j y hy=>by simp [zo] at hy) (fun j y hy=>by simp [zo] at hy)
    ·obtain ⟨a0,news,h0,hcs,hcell⟩:=hform hne;cases h0;refine .sl (c:=g.blk b) (o:=off) (fun j=>news.getD j .nilFunc) hc1 hcap (fun _=>rfl) hone (fun j y hy=>?_) (fun j y hy=>?_)
     ·obtain ⟨v,hv,_⟩:=hcs.get hy;have:=hcell j v hv;rw [Addr.add_lit] at this;simpa [List.getD,hv] using this
     ·obtain ⟨v,hv,hrv⟩:=hcs.get hy;obtain ⟨k,rfl⟩:=hel y (zl hy);cases hrv;simp only [List.getD,hv,zAs];exact .int _ _
  obtain ⟨c1,c2⟩:=zdy (P:=P) (w:=w) hl hrel (fun c o u h=>h);rw [hcy] at c1;refine ⟨g,.string (bytes l),w,?_,⟨h,.str c2,fun _ _=>trivial,zAW _⟩⟩;simp only [execOp,ho,hcy,Sem.run_bind,run_convert_bytes_string w src dst e _ _ _ hs h8 hd,c1,Result.andThen_ok,Sem.run_pure]
 ·simp only [zAA] at hu;subst hu;cases ds<;>cases dd<;>simp only [reduceCtorEq] at hr
theorem zhg (h:Rel B g s a w) {src dst:TypeId} {l:List Nat} {v:V} {x:Operand} {o:Oper} (hr:jx P src dst (.str l)=some v) (hx:RelV g (.str l) (a.eval x)) (hnd:P.underlying dst≠some .string) (ho:o.op=.convert src dst x) :
  zaQ P B s a w g o v:=by
 simp only [jx,Option.bind_eq_bind,zAG] at hr;obtain ⟨ds,hs,dd,hd,hr⟩:=hr;generalize he:a.eval x=cx at hx;cases hx with
 | str hl =>
  split at hr<;>try (cases hr;done)
  ·rename_i e;cases e
  ·rename_i e;cases e
  ·exact absurd hd hnd
  ·rename_i e;cases e
  ·rename_i e;cases e
  ·rename_i e l' hl';cases hl';simp only [zAG] at hr;obtain ⟨d8,h8,hr⟩:=hr;split at hr<;>simp only [zAA,reduceCtorEq] at hr;subst hr;have hsz:(bytes l).size=l.length:=qQ l;have hcap:=grownCap_ge w (bytes l).size 0 e;generalize hC:grownCap w (bytes l).size 0 e=cap at hcap;have hrun:=run_bytes_of_string (P:=P) w src dst e (bytes l) hs hd h8;rw [hC] at hrun
   have hrow:∀ (j:Nat) (b:Nat),l[j]?=some b->(bytesRow (bytes l) cap)[j]?=some (.int .u8 b):=fun j b hb=>by
    have hj:=(zAB.1 hb).1;have hb2:=hl b (zl hb);unfold bytesRow;rw [Array.getElem?_append_left (by simp [bytes];exact hj)]
    simp [bytes,hb,UInt8.toNat_ofNat',zBV hb2]
   have hfl:zo (l.map fun (b:Nat)=>V.int .u8 b)=l.map fun (b:Nat)=>V.int .u8 b:=by
    clear hrow hl hsz hcap hC hrun he
    induction l with
    | nil=>rfl
    | cons n ns ih=>simp only [zo,zAz,zBK,V.cells] at *;rw [ih];rfl
   have hrel:=h.settle (l.map fun (b:Nat)=>Value.int .u8 b) none (w':=w.drew.alloc (.cells (bytesRow (bytes l) cap) e ((bytesRow (bytes l) cap).size,(bytesRow (bytes l) cap).size+1)))
    (by show _<(w.heap.push _).size;simp) (fun c hc=>heap_alloc_old w.drew _ hc) (fun o v hv=>by
     simp only [zAY,zAV] at hv;obtain ⟨b,hb,rfl⟩:=hv;rw [<- hrow o b hb]
     exact World.cell?_alloc_mark w.drew _ _ _ o) rfl rfl rfl
   have hle:Gh.Le s.H.blks.length g (g.row w.heap.size (l.map fun (b:Nat)=>Value.int .u8 b) none):=by
    refine ⟨fun c o v hv=>?_,fun _ _=>rfl,rfl,fun _ _ _ _ e=>e⟩;have:=kx (h.wok.mem c o v hv);simp only [Gh.row];rw [if_neg (by omega)];exact hv
   refine ⟨_,_,_,by simp only [execOp,ho,he,Sem.run_bind,hrun,Result.andThen_ok,Sem.run_pure];rfl,hrel,?_,fun _ _=>trivial,?_⟩
   ·have:=RelV.settled (g:=g) (n:=s.H.blks.length) (ow:=.no) (N:=w.heap.size) (l:=none) (sz:=1) (xs:=l.map fun (b:Nat)=>V.int .u8 b) (vs:=l.map fun (b:Nat)=>Value.int .u8 b) (cap:=cap)
     (fun y hy=>by obtain ⟨b,_,rfl⟩:=zAo.1 hy;rfl) (by simp;omega) ?_ ?_ hle
    ·rw [hsz];simpa using this
    ·rw [hfl];refine ⟨by simp,fun j x hx=>?_,fun j x v hx hv=>?_⟩
     ·simp only [zAY,zAV] at hx;obtain ⟨b,hb,rfl⟩:=hx;rfl
     ·simp only [zAY,zAV] at hx hv;obtain ⟨b,hb,rfl⟩:=hx;obtain ⟨b',hb',rfl⟩:=hv;rw [hb] at hb';cases hb';exact .int _ _
    ·rw [hfl];exact zN fun y hy=>by obtain ⟨b,_,rfl⟩:=zAo.1 hy;exact zAW _
   ·simp only [V.top];exact zN fun y hy=>by obtain ⟨b,_,rfl⟩:=zAo.1 hy;exact zAW _
theorem zfV (h:Rel B g s a w) {gl:Nat->Nat->Option V} (hgl:GlOk P gl g) {o:Oper} {v:V} (hr:zD P gl o s.env s.H=some v):zaQ P B s a w g o v:=by
 obtain ⟨dst,op,type,pos,after,guard⟩:=o;cases op<;>simp only [zD,Option.bind_eq_bind,zAG,reduceCtorEq] at hr
 case move x =>
  obtain ⟨h1,h2,h3⟩:=zm h hr;exact ⟨g,a.eval x,w,by simp [execOp],⟨h,h1,fun _ _=>h3 _ _,h2⟩⟩
 case pick c x y =>
  obtain ⟨vc,hc,hr⟩:=hr;split at hr<;>try (cases hr;done)
  rename_i t;obtain ⟨c1,_,_⟩:=zm h hc;generalize hce:a.eval c=cc at c1;cases c1;cases t with
  | true =>
   simp only at hr;obtain ⟨h1,h2,h3⟩:=zm h hr;exact ⟨g,a.eval x,w,by simp [execOp,hce,asBool],⟨h,h1,fun _ _=>h3 _ _,h2⟩⟩
  | false =>
   simp only at hr;obtain ⟨h1,h2,h3⟩:=zm h hr;exact ⟨g,a.eval y,w,by simp [execOp,hce,asBool],⟨h,h1,fun _ _=>h3 _ _,h2⟩⟩
 case build t parts=>exact wv h (zkX (P:=P) h hr) rfl
 case load t x =>
  obtain ⟨p,hp,u,hu,hr⟩:=hr;simp only [zAA] at hr;subst hr;obtain ⟨h1,h2,h3⟩:=zm h hp;obtain ⟨cv,c1,c2,c3⟩:=zhb h hgl h1 h2 hu;exact wv h ⟨cv,c1,c2.clr,by rw [top_clr];exact c3,fun _ _=>jf _ _ _ _ _ _⟩ rfl
 case nilCheck x =>
  obtain ⟨u,hu,hr⟩:=hr;obtain ⟨cv,h1,h2,h3,h4,h5⟩:=zhd h hu hr;refine ⟨g,cv,w,?_,⟨h,h1,fun _ _=>h3 _ _,h2⟩⟩;rcases h5 with ⟨p,h5⟩|⟨f,fa,fc,h5⟩|⟨t,u,h5⟩
  ·simp [execOp,<- h4,h5]
  ·simp [execOp,<- h4,h5]
  ·simp [execOp,<- h4,h5]
 case binOp op t x y yt =>
  obtain ⟨u,hu,v',hv',hr⟩:=hr;split at hr
  ·rename_i hg;obtain ⟨u1,u2,_⟩:=zm h hu;obtain ⟨v1,v2,_⟩:=zm h hv';have e1:=guard_ok hg u1 v1 w;obtain ⟨cv,c1,c2,c3,c4⟩:=zoi hr u1 v1 w;exact ⟨g,cv,w,by simp [execOp,e1,c1],⟨h,c2,fun _ _=>c4 _ _,by omega⟩⟩
  ·cases hr
 case unOp op t x =>
  obtain ⟨u,hu,hr⟩:=hr;exact wv h (zp2 hr (zm h hu).1 _ w) rfl
 case makeInterface t x =>
  obtain ⟨u,hu,hr⟩:=hr;split at hr<;>simp only [zAA,reduceCtorEq] at hr;rename_i hi;subst hr;obtain ⟨u1,u2,_⟩:=zm h hu;refine ⟨g,.iface t (a.eval x),w,?_,⟨h,.ifc u1,fun _ _=>trivial,u2⟩⟩;unfold zdr at hi;cases hd:P.underlying t with
  | none=>simp [hd] at hi
  | some d =>
   rw [hd] at hi;cases d<;>first|(simp at hi;done)|simp [execOp,Instr.makeInterface,run_underlying hd]
 case convert src dst x =>
  obtain ⟨u,hu,hr⟩:=hr;obtain ⟨u1,u2,_⟩:=zm h hu
  by_cases hns:∀ s,u≠.str s\/P.underlying dst=some .string
  ·exact wv h (zl5 hr u1 hns h.wok.mem) rfl
  ·obtain ⟨l,hl⟩:∃ l,u=.str l:=by
    apply Classical.byContradiction;intro hno;exact hns fun s=>.inl fun e=>hno ⟨s,e⟩
   subst hl;have hnd:P.underlying dst≠some .string:=fun e=>hns fun s=>.inr e;exact zhg h hr u1 hnd rfl
 case makeFunc fn first cap =>
  obtain ⟨as,has,cs,hcs,hr⟩:=hr;simp only [zAA] at hr;subst hr;obtain ⟨a1,a2,a3,_⟩:=zbh h has;obtain ⟨c1,c2,c3,_⟩:=zbh h hcs;refine ⟨g,.func fn (first.map a.eval) (cap.map a.eval),w,by simp [execOp,Instr.makeFunc],⟨h,.fn (by simpa using a1) (by simpa using c1) (fun j x v hx hv=>a2 j x v hx (by simpa using hv)) (fun j x v hx hv=>c2 j x v hx (by simpa using hv)),fun _ _=>trivial,?_⟩⟩
  simp only [V.top];exact zBO.2 ⟨a3,c3⟩
 case slice t x lo hi mx =>
  obtain ⟨lo',hlo,hi',hhi,u,hu,hr⟩:=hr;obtain ⟨u1,u2,_⟩:=zm h hu;cases mx with
  | none=>exact wv h (ze3 hr u1 (opO h hlo) (opO h hhi) u2 w) rfl
  | some m =>
   simp only [zAG] at hr;obtain ⟨mv,hmv,hr⟩:=hr;obtain ⟨m1,_,_⟩:=zm h hmv;split at hr<;>try (cases hr;done)
   rename_i km k sz xs o kh hh _ _ _;split at hr<;>try (cases hr;done)
   rename_i hle;have h1:=opO h hhi;cases hi with
   | none=>exact h1.elim
   | some hop =>
    have h1':RelV g (.int kh hh) (a.eval hop):=h1;have h2:=zkU (P:=P) (km:=km) hr u1 (opO h hlo) hle.1 hle.2 u2 w;have e1:a.eval hop=.int kh hh:=by generalize a.eval hop=ch at h1';cases h1';rfl
    have e2:a.eval m=.int km k:=by generalize a.eval m=cm at m1;cases m1;rfl
    rw [<- e1,<- e2] at h2;exact wv h h2 rfl
 case fieldAddr t x f =>
  obtain ⟨ds,hd,hr⟩:=hr;split at hr<;>try (cases hr;done)
  rename_i fs;simp only [zAG] at hr;obtain ⟨fd,hf,sz,hsz,hr⟩:=hr;split at hr
  ·cases hr
  ·rename_i h0;simp only [zAG] at hr;obtain ⟨u,hu,hr⟩:=hr;obtain ⟨u1,u2,_⟩:=zm h hu;have h0':Nat.beq sz 0=false:=by revert h0;cases Nat.beq sz 0<;>simp
   generalize he:a.eval x=cx at u1;split at hr<;>simp only [zAA,reduceCtorEq] at hr
   ·subst hr;cases u1;exact ⟨g,_,w,by simp only [execOp,he,Sem.run_bind,wg hd hf hsz h0',Result.andThen_ok,Sem.run_pure],⟨h,.ptr _ _,fun _ _=>trivial,u2⟩⟩
   ·subst hr;cases u1;exact ⟨g,_,w,by simp only [execOp,he,Sem.run_bind,wg hd hf hsz h0',Result.andThen_ok,Sem.run_pure],⟨h,.gptr _ _,fun _ _=>trivial,u2⟩⟩
   ·rename_i b9 u9 k9 _;subst hr;cases u1 with
    | ulp _ hh =>
     have e0:=RelV.ulp (k9+fd.offset) hh;rw [<- zBJ] at e0;exact ⟨g,_,w,by simp only [execOp,he,Sem.run_bind,wg hd hf hsz h0',Result.andThen_ok,Sem.run_pure],⟨h,e0,fun _ _=>trivial,u2⟩⟩
   ·subst hr;obtain ⟨c,o,rfl⟩:∃ c o,cx=.pointer (some ⟨c,o,none⟩):=by cases u1;exact ⟨_,_,rfl⟩
    exact ⟨g,_,w,by simp only [execOp,he,Sem.run_bind,wg hd hf hsz h0',Result.andThen_ok,Sem.run_pure],⟨h,u1.vp_drop _,fun _ _=>trivial,zAM (tops_drop _ _) u2⟩⟩
 case field t x f =>
  obtain ⟨ds,hd,hr⟩:=hr;split at hr<;>try (cases hr;done)
  rename_i fs;simp only [zAG] at hr;obtain ⟨fd,hf,u,hu,hr⟩:=hr;split at hr<;>try (cases hr;done)
  rename_i cs;simp only [zAV] at hr;obtain ⟨v',hr,rfl⟩:=hr;obtain ⟨u1,u2,_⟩:=zm h hu;obtain ⟨arr,he,hcs⟩:=ku u1;obtain ⟨cv,c1,c2,c3,_⟩:=zah (P:=P) hcs hr w;refine wv h ⟨cv,?_,c2.clr,by rw [top_clr];exact zAM c3 u2,fun _ _=>jf _ _ _ _ _ _⟩ rfl
  rw [he];unfold Instr.field;simp [run_underlying hd,hf,asAgg,c1]
 case indexAddr t x ix =>
  obtain ⟨iv,hi,hr⟩:=hr;split at hr<;>try (cases hr;done)
  rename_i k i;simp only [zAG] at hr;obtain ⟨u,hu,hr⟩:=hr;obtain ⟨u1,u2,_⟩:=zm h hu;have i1:=(zm h hi).1;generalize hei:a.eval ix=ci at i1;cases i1;generalize he:a.eval x=cx at u1;unfold zr at hr;split at hr
  ·rename_i len e hd;split at hr
   ·cases hr
   ·rename_i n hn;split at hr
    ·split at hr<;>simp only [zAA,reduceCtorEq] at hr;rename_i hb;subst hr;cases u1;exact ⟨g,_,w,by simp only [execOp,he,hei,Sem.run_bind,wO hd hn hb.1 hb.2,Result.andThen_ok,Sem.run_pure],⟨h,.ptr _ _,fun _ _=>trivial,u2⟩⟩
    ·split at hr<;>simp only [zAA,reduceCtorEq] at hr;rename_i hb;subst hr;cases u1;exact ⟨g,_,w,by simp only [execOp,he,hei,Sem.run_bind,wO hd hn hb.1 hb.2,Result.andThen_ok,Sem.run_pure],⟨h,.gptr _ _,fun _ _=>trivial,u2⟩⟩
    ·split at hr<;>simp only [zAA,reduceCtorEq] at hr;rename_i hb;rename_i b9 u9 k9 _;subst hr;cases u1 with
     | ulp _ hh =>
      have e0:=RelV.ulp (k9+i.toNat * n) hh;rw [<- zBJ] at e0;exact ⟨g,_,w,by simp only [execOp,he,hei,Sem.run_bind,wO hd hn hb.1 hb.2,Result.andThen_ok,Sem.run_pure],⟨h,e0,fun _ _=>trivial,u2⟩⟩
    ·split at hr<;>simp only [zAA,reduceCtorEq] at hr;rename_i hb;subst hr;obtain ⟨c,o,rfl⟩:∃ c o,cx=.pointer (some ⟨c,o,none⟩):=by cases u1;exact ⟨_,_,rfl⟩
     exact ⟨g,_,w,by simp only [execOp,he,hei,Sem.run_bind,wO hd hn hb.1 hb.2,Result.andThen_ok,Sem.run_pure],⟨h,u1.vp_drop _,fun _ _=>trivial,zAM (tops_drop _ _) u2⟩⟩
    ·cases hr
  ·rename_i e hd;split at hr
   ·cases hr
   ·rename_i n hn;split at hr
    ·rename_i sz xs ow _;split at hr
     ·rename_i hsz;have hsz':n=sz:=zAJ hsz;subst hsz';split at hr
      ·cases hr
      ·rename_i hi0;split at hr<;>simp only [zAA,reduceCtorEq] at hr;rename_i y hy;rw [zd] at hy;subst hr;obtain ⟨ad,cap,rfl,hcap,had⟩:=u1.sl_form;obtain ⟨c,o,rfl⟩:=had (by rintro rfl;simp at hy)
       have hlt:=(zAB.1 hy).1
       exact ⟨g,_,w,by simp only [execOp,he,hei,Sem.run_bind,v6 hd hn (show 0<=i by omega) (show i<(xs.length:Int) by omega),Result.andThen_ok,Sem.run_pure],
        ⟨h,u1.elem hy,fun _ _=>trivial,zAM (vn y) (zAM (zg (zl hy)) u2)⟩⟩
     ·cases hr
    ·split at hr<;>simp only [zAA,reduceCtorEq] at hr;rename_i hb;subst hr;cases u1;exact ⟨g,_,w,by simp only [execOp,he,hei,Sem.run_bind,v6 hd hn hb.1 hb.2,Result.andThen_ok,Sem.run_pure],⟨h,.ptr _ _,fun _ _=>trivial,u2⟩⟩
    ·split at hr<;>simp only [zAA,reduceCtorEq] at hr;rename_i hb;subst hr;cases u1 with
     | ulr hh =>
      exact ⟨g,_,w,by simp only [execOp,he,hei,Sem.run_bind,v6 hd hn hb.1 hb.2,Result.andThen_ok,Sem.run_pure],⟨h,.ulp _ hh,fun _ _=>trivial,u2⟩⟩
    ·cases hr
  ·cases hr
 case index t x ix =>
  obtain ⟨iv,hi,hr⟩:=hr;split at hr<;>try (cases hr;done)
  rename_i k i;simp only [zAG] at hr;obtain ⟨u,hu,hr⟩:=hr;obtain ⟨u1,u2,_⟩:=zm h hu;have i1:=(zm h hi).1;generalize hei:a.eval ix=ci at i1;cases i1;generalize he:a.eval x=cx at u1;unfold xq at hr;split at hr
  ·rename_i len e hd;split at hr
   ·cases hr
   ·rename_i n hn;split at hr
    ·split at hr<;>simp only [zAV,reduceCtorEq] at hr;rename_i hb;obtain ⟨v',hr,rfl⟩:=hr;obtain ⟨arr,rfl,hcs⟩:=ku u1;obtain ⟨cv,c1,c2,c3⟩:=zeN (k:=k) hd hn hcs hb.1 hb.2 hr w;exact ⟨g,cv,w,by simp only [execOp,he,hei,Sem.run_bind,c1,Result.andThen_ok,Sem.run_pure],⟨h,c2.clr,fun _ _=>jf _ _ _ _ _ _,by rw [top_clr];exact zAM c3 u2⟩⟩
    ·cases hr
  ·rename_i hd;split at hr
   ·split at hr
    ·cases hr
    ·rename_i hi0;split at hr<;>simp only [zAA,reduceCtorEq] at hr;rename_i b hb;rw [zd] at hb;subst hr;cases u1 with
     | str hl =>
      exact ⟨g,_,w,by simp only [execOp,he,hei,Sem.run_bind,zfS hd hl hi0 hb,Result.andThen_ok,Sem.run_pure],⟨h,.int _ _,fun _ _=>trivial,zAW _⟩⟩
   ·cases hr
  ·cases hr
 case lookup t m k ok =>
  obtain ⟨ds,hd,hr⟩:=hr;split at hr<;>try (cases hr;done)
  rename_i kt e;simp only [zAG] at hr;obtain ⟨kd,hkd,kv,hk,hr⟩:=hr;split at hr
  ·cases hr
  ·rename_i hok;simp only [zAG,zAA] at hr;obtain ⟨mv,hm,es,hes,⟨v',b⟩,hf,rfl⟩:=hr;exact wv h (zkW h hd hkd (by simpa using hok) (zm h hm).1 (zm h hk).1 hes hf) rfl
 case typeAssert x xt t ok =>
  split at hr
  ·cases hr
  ·rename_i hi;simp only [zAG] at hr;obtain ⟨u,hu,hr⟩:=hr;obtain ⟨u1,u2,_⟩:=zm h hu;generalize he:a.eval x=cx at u1;obtain ⟨d,hd,hni⟩:∃ d,P.underlying t=some d/\∀ ms,d≠.interface ms:=by
    unfold zdr at hi;cases hd:P.underlying t with
    | none=>simp [hd] at hi
    | some d =>
     rw [hd] at hi;exact ⟨d,rfl,fun ms e=>by subst e;simp at hi⟩
   have hrun:∀ cv,(Instr.typeAssert cx xt t ok).run P w=.ok cv w->RelV g v cv->v.top<=s.H.blks.length->(∀ sz xs e,v≠.sl sz xs (.yes e))->zaQ P B s a w g { dst,op:=.typeAssert x xt t ok,type,pos,after,guard } v :=
    fun cv h1 h2 h3 h4=>⟨g,cv,w,by simp [execOp,he,h1],⟨h,h2,fun _ _=>zjO h4,h3⟩⟩
   have fails:∀ z,zU P t=some z->ok=true->v=.tup [z,.bool false]->(∀ cz,(zeroValue t).run P w=.ok cz w->(Instr.typeAssert cx xt t true).run P w=.ok (.tuple #[cz,.bool false]) w)->zaQ P B s a w g { dst,op:=.typeAssert x xt t ok,type,pos,after,guard } v:=by
    intro z hz hok hv hrz;subst hok;subst hv;obtain ⟨cz,z1,z2,z3,_⟩:=vj (g:=g) hz w;refine hrun _ (hrz cz z1) (.tup rfl fun j x u hx hu=>?_) (by simp only [V.top,tops];omega) (fun _ _ _ e=>by cases e)
    rcases j with _|_|j
    ·simp at hx hu;subst hx;subst hu;exact z2
    ·simp at hx hu;subst hx;subst hu;exact .bool false
    ·simp at hx
   split at hr
   ·split at hr<;>simp only [zAG,zAA,reduceCtorEq] at hr;rename_i hok;obtain ⟨z,hz,rfl⟩:=hr;cases u1;refine fails z hz hok rfl fun cz hcz=>?_;unfold Instr.typeAssert;cases d<;>first|exact absurd rfl (hni _)|simp [run_underlying hd,hcz]
   ·rename_i ut uv _;obtain ⟨cu,rfl⟩:∃ cu,cx=.iface ut cu:=by cases u1;exact ⟨_,rfl⟩
    have u3:RelV g uv cu:=by cases u1;assumption
    split at hr
    ·rename_i hut;simp only [zAA] at hr;have hut':ut=t:=zAJ hut;subst hut';subst hr;refine hrun (if ok then .tuple #[cu,.bool true] else cu) ?_ ?_ ?_ ?_
     ·unfold Instr.typeAssert;cases d<;>first|exact absurd rfl (hni _)|(simp [run_underlying hd])
     ·cases ok with
      | true =>
       refine .tup rfl fun j x u hx hu=>?_;rcases j with _|_|j
       ·simp at hx hu;subst hx;subst hu;exact u3.clr
       ·simp at hx hu;subst hx;subst hu;exact .bool true
       ·simp at hx
      | false=>exact u3.clr
     ·have u2':uv.top<=s.H.blks.length:=u2;cases ok with
      | true=>simp only [if_true,V.top,tops,top_clr];omega
      | false=>simp only [zAH,if_false,top_clr];exact u2'
     ·cases ok with
      | true=>intro sz xs e he;simp at he
      | false=>intro sz xs e he;exact wu uv sz xs e (by simpa using he)
    ·rename_i hut;split at hr<;>simp only [zAG,zAA,reduceCtorEq] at hr;rename_i hok;obtain ⟨z,hz,rfl⟩:=hr;have hne:ut≠t:=fun e=>hut (by subst e;exact zAu _)
     refine fails z hz hok rfl fun cz hcz=>?_;unfold Instr.typeAssert;cases d<;>first|exact absurd rfl (hni _)|simp [run_underlying hd,hne,hcz]
   ·cases hr
 case extract x i =>
  obtain ⟨u,hu,hr⟩:=hr;split at hr<;>try (cases hr;done)
  rename_i vs;split at hr<;>simp only [zAA,reduceCtorEq] at hr;rename_i v' hv';subst hr;rw [zd] at hv';obtain ⟨u1,u2,_⟩:=zm h hu;generalize he:a.eval x=cx at u1;cases u1 with
  | tup t1 t2 =>
   rename_i arr;have hlt:i<arr.size:=by rw [<- t1];exact (zAB.1 hv').1
   have hget:arr[i]?=some arr[i]:=zAy hlt;refine ⟨g,arr[i],w,by simp [execOp,he,Instr.extract,hget],⟨h,(t2 i v' _ hv' hget).clr,fun _ _=>jf _ _ _ _ _ _,?_⟩⟩
   rw [top_clr];exact zAM (zg (zl hv')) u2
 case buildSlice t len parts =>
  obtain ⟨ds,hd,hr⟩:=hr;split at hr<;>try (cases hr;done)
  rename_i e;simp only [zAG] at hr;obtain ⟨n,hn,z,hz,hr⟩:=hr;split at hr
  ·cases hr
  ·rename_i hc;simp only [zAG,zAA] at hr;obtain ⟨xs,hx,rfl⟩:=hr;exact zeO h hd hn hz (Bool.eq_false_iff.2 hc) hx rfl
end Go.Vm
namespace Go.Vm
open Go
variable {P:Program} {B:Base} {g:Gh} {s:St} {a:Act} {w:World}
def Gh.var (g:Gh) (n N:Nat):Gh:={ g with blk:=fun b=>if b=n then N else g.blk b }
theorem Gh.var_le (g:Gh) (n N:Nat):Gh.Le n g (g.var n N):=⟨fun _ _ _ h=>h,fun b hb=>by simp only [Gh.var];rw [if_neg (by omega)],rfl,fun _ _ _ _ h=>h⟩
theorem zbi {w w':World} {obj:Obj} (hw:w'.heap=w.heap.push obj) {c:Nat} (hc:c<w.heap.size):w'.heap[c]?=w.heap[c]?:=by
 rw [hw,Array.getElem?_push,if_neg (by omega)]
theorem zdA {w w':World} {obj:Obj} (hw:w'.heap=w.heap.push obj):w'.heap[w.heap.size]?=some obj:=by
 rw [hw];simp
theorem Same.push (d n:Nat) (g:Gh) {w w':World} {obj:Obj} (hw:w'.heap=w.heap.push obj) (hos:w'.os=w.os) (ht:w'.tape=w.tape) (hout:w'.output=w.output):Same d none none n g w (g.var n w.heap.size) w' :=
 ⟨g.var_le n _,fun c hc _ _=>zbi hw hc,fun _ _ _=>rfl,fun _ _ _ _=>rfl,by rw [hw];simp,fun _ _ _=>rfl,fun l hl=>(by cases hl),fun b hb=>(by cases hb),fun _ _ _ _=>rfl,hos,ht,hout⟩
theorem v7 {bs bs':List Blk} (h:∀ b,b<bs.length->bs'[b]?=bs[b]?) {b off:Nat} (hl:zP bs b off):zP bs' b off:=by
 obtain ⟨cs,t,sz,xs,h1,h2⟩:=hl;exact ⟨cs,t,sz,xs,by rw [h b (zAB.1 h1).1];exact h1,h2⟩
theorem Rel.push (h:Rel B g s a w) (blk:Blk) {obj:Obj} {w':World} (hw:w'.heap=w.heap.push obj) (hos:w'.os=w.os) (ht:w'.tape=w.tape) (hout:w'.output=w.output)
  (hok:BlkOk (g.var s.H.blks.length w.heap.size) (s.H.blks.length+1) w' s.H.blks.length blk) (htop:blk.top<=s.H.blks.length+1):Rel B (g.var s.H.blks.length w.heap.size) { s with H:=s.H.push blk } a w':=by
 have hl:(s.H.push blk).blks.length=s.H.blks.length+1:=by simp [Hp.push]
 have hget:∀ b,b<s.H.blks.length->(s.H.push blk).blks[b]?=s.H.blks[b]?:=fun b hb=>by simp only [Hp.push];rw [zAR hb]
 have hlast:(s.H.push blk).blks[s.H.blks.length]?=some blk:=by simp [Hp.push]
 have hv:(g.var s.H.blks.length w.heap.size).blk s.H.blks.length=w.heap.size:=by simp [Gh.var]
 have hsz:w'.heap.size=w.heap.size+1:=by rw [hw];simp
 refine h.master (s':={ s with H:=s.H.push blk }) (Same.push B.d s.H.blks.length g hw hos ht hout) (by rw [hl];omega) (fun b hb _=>hget b hb) (fun b x hb hx=>?_) (fun b h1 h2=>?_) (fun b b' h1 h2 h3 h4 _=>?_) (fun c o v hv=>?_) (fun c l hc=>?_)
  (fun b j e=>by cases e) rfl rfl (fun t x hx=>⟨x,hx,.inl ⟨rfl,fun e=>by cases e⟩⟩) ?_ (fun b off hlk=>v7 hget (h.lks b off hlk)) h.lkl (fun _ e=>by cases e)
 ·have hb':b=s.H.blks.length:=by
   rcases hb with hb|hb
   ·cases hb
   ·have:=(zAB.1 hx).1;rw [hl] at this;omega
  subst hb';rw [hlast] at hx;cases hx;rw [hl];exact ⟨hok,htop⟩
 ·have:b=s.H.blks.length:=by rw [hl] at h2;omega
  subst this;rw [hv];refine ⟨zAO _,by omega,?_,fun o=>?_⟩
  ·show g.own w.heap.size=none;cases ho:g.own w.heap.size with
   | none=>rfl
   | some l=>have:=h.wok.ownlt _ _ ho;omega
  ·show g.M w.heap.size o=none;cases hm:g.M w.heap.size o with
   | none=>rfl
   | some v=>have:=kx (h.wok.mem _ _ _ hm);omega
 ·rw [hl] at h2 h4;omega
 ·rw [vm (zbi hw (kx (h.wok.mem c o v hv)))];exact h.wok.mem c o v hv
 ·have:=h.wok.ownlt c l hc;omega
 ·intro b x hx;rcases zAZ b s.H.blks.length with h1|h1
  ·rw [show ({ s with H:=s.H.push blk }:St).H.blks[b]?=s.H.blks[b]? from hget b h1] at hx;exact h.edges b x hx
  ·have hb':b=s.H.blks.length:=by
    have:=(zAB.1 hx).1;have hl':({ s with H:=s.H.push blk }:St).H.blks.length=s.H.blks.length+1:=hl;omega
   subst hb';rw [show ({ s with H:=s.H.push blk }:St).H.blks[s.H.blks.length]?=some blk from hlast] at hx;cases hx;exact .inl htop
theorem Rel.pushCells (h:Rel B g s a w) {cs:List V} {arr:Array Value} {t:TypeId} (hcs:RelCs g cs arr.toList) (htop:tops cs<=s.H.blks.length)
  (hown:∀ (j:Nat) (x:V) (v:Value),cs[j]?=some x->arr[j]?=some v->OwnV g s.H.blks.length w (.cell s.H.blks.length j) x v/\∀ sz xs,x≠.sl sz xs .lock) :
  Rel B (g.var s.H.blks.length w.heap.size) { s with H:=s.H.push (.cells cs t) } a (w.alloc (.cells arr t)):=by
 have hw:(w.alloc (.cells arr t)).heap=w.heap.push (.cells arr t):=rfl;refine h.push (.cells cs t) hw rfl rfl rfl ⟨arr,?_,by simpa using hcs.len,fun j x v hx hv=>⟨hcs.one j x hx,?_,?_,?_⟩⟩ (zBt htop)
 ·rw [show (g.var s.H.blks.length w.heap.size).blk s.H.blks.length=w.heap.size by simp [Gh.var]]
  exact zdA hw
 ·exact (hcs.rel j x v hx (by simpa using hv)).le (g.var_le _ _) (zAM (zg (zl hx)) htop)
 ·refine OwnV.same (Same.push B.d s.H.blks.length g hw rfl rfl rfl) (fun e=>by cases e) (fun b h1 h2=>?_) (hown j x v hx hv).1
  have:b=s.H.blks.length:=by omega
  subst this;simp [Gh.var]
 ·have:=(hown j x v hx hv).2;cases x with
  | sl sz xs o=>cases o with
   | lock=>exact absurd rfl (this sz xs)
   | _=>trivial
  | _=>trivial
theorem xy {v:Value} {z:V} (h:ofVal v=some z):∀ x∈z.cells,∀ sz xs o,x≠.sl sz xs o:=by
 have key:∀ (v:Value) (x:V),ofVal v=some x->∀ sz xs o,x≠.sl sz xs o:=by
  intro v x h sz xs o e;subst e;unfold ofVal at h;split at h<;>try (simp at h;done)
  all_goals (simp only [zAG] at h;obtain ⟨l,_,h⟩:=h;split at h<;>simp at h)
 have keys:∀ (vs:List Value) (xs:List V),ofVals vs=some xs->∀ x∈xs,∀ sz ys o,x≠.sl sz ys o:=by
  intro vs
  induction vs with
  | nil=>intro xs h x hx;simp only [ofVals,zAA] at h;subst h;simp at hx
  | cons v vs ih =>
   intro xs h x hx;simp only [ofVals] at h;split at h<;>simp only [zAA,reduceCtorEq] at h;rename_i y ys hy hys;subst h;rcases zAK.1 hx with rfl|hx
   ·exact key v _ hy
   ·exact ih ys hys x hx
 intro x hx
 by_cases ha:∃ cs,z=.agg cs
 ·obtain ⟨cs,rfl⟩:=ha;unfold ofVal at h;split at h<;>try (simp at h;done)
  simp only [zAG] at h;obtain ⟨l,hl,h⟩:=h;split at h<;>simp only [zAA,reduceCtorEq,V.agg.injEq] at h;subst h;exact keys _ _ hl x hx
 ·have:z.cells=[z]:=by cases z<;>first|rfl|exact absurd ⟨_,rfl⟩ ha
  rw [this] at hx;simp at hx;subst hx;exact key v _ h
theorem v8 {env env':List V} {x:Operand} {v:V} (h:take env x=some (v,env')):∀ sz xs,v≠.sl sz xs .lock:=by
 intro sz xs e;subst e;cases x with
 | tmp t =>
  simp only [take,fSet_eq] at h;split at h<;>simp only [zAA,zAD,reduceCtorEq] at h
  ·obtain ⟨h,_⟩:=h;simp at h
  ·obtain ⟨h,_⟩:=h;rename_i y _ _ _;cases y<;>simp [clr] at h
 | const c =>
  simp only [take,peek,zAV,zAD] at h;obtain ⟨u,hu,rfl,_⟩:=h;exact xy hu (.sl sz xs .lock) (by simp [V.cells]) sz xs .lock rfl
 | global k=>simp [take,peek] at h
 | func f=>simp [take,peek] at h
theorem zjQ {v:V} (h:okC v=true):(∃ cs,v=.agg cs/\v.laid=cs.map clr)\/(v.one=true/\v.laid=[v]/\v.cells=[v]):=by
 cases v<;>first
  |exact .inl ⟨_,rfl,rfl⟩
  |exact .inr ⟨rfl,rfl,rfl⟩
  |(simp [okC] at h)
theorem zfW {n b off:Nat} {v:V} {cv:Value} (hr:RelV g v cv) (hc:okC v=true) (ho:OwnV g n w (.cell b off) v cv) (hnl:∀ sz xs,v≠.sl sz xs .lock) (htop:v.top<=n) :
  RelCs g v.laid cv.cells.toList/\tops v.laid<=n/\∀ (j:Nat) (x:V) (u:Value),v.laid[j]?=some x->cv.cells[j]?=some u->OwnV g n w (.cell b (off+j)) x u/\∀ sz xs,x≠.sl sz xs .lock:=by
 have hcs:=ky hr hc;rcases zjQ hc with ⟨cs,rfl,hl⟩|⟨h1,hl,hl2⟩
 ·rw [hl];refine ⟨hcs.map_clr,by rw [qo];exact htop,fun j x u hx hu=>?_⟩
  simp only [zAY,zAV] at hx;obtain ⟨y,_,rfl⟩:=hx;exact ⟨jf _ _ _ _ _ _,fun sz xs e=>by cases y<;>simp [clr] at e⟩
 ·rw [hl];rw [hl2] at hcs;refine ⟨hcs,by simp only [tops];omega,fun j x u hx hu=>?_⟩
  cases j with
  | zero =>
   simp at hx;subst hx;have e:cv.cells=#[cv]:=by
    have:=hr.oneCell h1;cases cv<;>first
     |rfl
     |(simp [Value.oneCell'] at this)
   rw [e] at hu;simp at hu;subst hu;exact ⟨ho,hnl⟩
  | succ j=>simp at hx
end Go.Vm
namespace Go.Vm
open Go
variable {P:Program} {B:Base} {g:Gh} {s:St} {a:Act} {w:World}
theorem zC {α:Type}:∀ (vs cs:List α) (off j:Nat),off+vs.length<=cs.length->(storeCells cs off vs)[j]?=if off<=j/\j<off+vs.length then vs[j - off]? else cs[j]?
 | [],cs,off,j,_=>by
  have:¬ (off<=j/\j<off+0):=by omega
  simp [storeCells];intro h1 h2;omega
 | v::vs,cs,off,j,h=>by
  simp only [storeCells];rw [zC vs (cs.set off v) (off+1) j (by simp at h ⊢;omega)]
  simp only [zAj] at h ⊢
  by_cases h1:j=off
  ·subst h1;have:¬ (j+1<=j/\j<j+1+vs.length):=by omega
   have h2:j<=j/\j<j+(vs.length+1):=by omega
   simp only [if_neg this,if_pos h2,zBk];rw [zBR (by omega)]
   rfl
  ·by_cases h2:off+1<=j/\j<off+1+vs.length
   ·have h3:off<=j/\j<off+(vs.length+1):=by omega
    rw [if_pos h2,if_pos h3];have:j - off=(j - (off+1))+1:=by omega
    rw [this];rfl
   ·have h3:¬ (off<=j/\j<off+(vs.length+1)):=by omega
    rw [if_neg h2,if_neg h3,zA2 (by omega)]
theorem zfX {lk:List (Nat×Nat)} {b:Nat}:∀ {n off:Nat} {cs:List V},kQ lk b off n cs=true->∀ j x,j<n->cs[j]?=some x->locked x=true->(b,off+j)∈lk
 | 0,_,_,_,j,x,hj,_,_=>by omega
 | n+1,off,[],h,j,x,_,hx,_=>by simp at hx
 | n+1,off,c::cs,h,j,x,hj,hx,hlk=>by
  simp only [kQ,zAC,zAe,zAn] at h;cases j with
  | zero =>
   simp at hx;subst hx;rcases h.1 with h1|h1
   ·rw [hlk] at h1;cases h1
   ·obtain ⟨p,hp,h2⟩:=List.any_eq_true.1 h1;simp only [zAC,Nat.beq_eq] at h2;obtain ⟨h3,h4⟩:=h2;cases p;simp only at h3 h4;subst h3;subst h4;simpa using hp
  | succ j =>
   have:=zfX h.2 j x (by omega) (by simpa using hx) hlk
   rw [show off+(j+1)=off+1+j by omega]
   exact this
theorem Rel.write (h:Rel B g s a w) {b:Nat} {x0 x:Blk} {v:V} {l:List (Nat×Nat)} {w':World} {N:Nat} (hN:N=g.blk b) (hb:s.H.get b=some x0) (hheap:∀ c,c≠N->w'.heap[c]?=w.heap[c]?) (hsz:w'.heap.size=w.heap.size) (hos:w'.os=w.os) (ht:w'.tape=w.tape) (hout:w'.output=w.output)
  (hok:BlkOk g s.H.blks.length w' b x) (htop:x.top<=s.H.blks.length) (hedge:x.top<=b+1\/x.top<=v.top\/x.top<=x0.top\/x.top<=max x0.top v.top)
  (hlk:∀ off,zaA B b off->∃ cs t sz xs,x=.cells cs t/\cs[off]?=some (.sl sz xs .lock)) (hl:∀ p∈l,¬ zaA B p.1 p.2) :
  Rel B g { s with H:=(s.H.set b x).edge b v,lk:=l } a w':=by
 subst hN;simp only [Hp.get,zd] at hb;have hbl:b<s.H.blks.length:=(zAB.1 hb).1;have hblks:((s.H.set b x).edge b v).blks=s.H.blks.set b x:=by
  simp only [Hp.edge,Hp.set];split<;>rfl
 have hlen:((s.H.set b x).edge b v).blks.length=s.H.blks.length:=by rw [hblks];simp
 have hsame:Same B.d (some b) none s.H.blks.length g w g w' :=
  ⟨.refl _ _,fun c _ hc _=>hheap c (fun e=>hc b rfl e.symm),fun _ _ _=>rfl,fun _ _ _ _=>rfl,by omega,fun _ _ _=>rfl,fun l hl=>(by cases hl),fun b' hb'=>(by cases hb';exact hbl),fun _ _ _ _=>rfl,hos,ht,hout⟩
 refine h.master (s':={ s with H:=(s.H.set b x).edge b v,lk:=l }) hsame (by rw [hlen];exact zAO _) (fun b' hb' hne=>?_) (fun b' y hy1 hy=>?_) (fun b' h1 h2=>?_) (fun b1 b2 h1 h2=>?_) (fun c o u hu=>?_) (fun c l hc=>?_)
  (fun b j e=>by cases e) rfl rfl (fun t y hy=>⟨y,hy,.inl ⟨rfl,fun e=>by cases e⟩⟩) (fun b' y hy=>?_) (fun b' off hlk'=>?_) hl (fun _ e=>by cases e)
 ·rw [hblks,zA2 (fun e=>hne (by rw [e]))]
 ·have hb':b'=b:=by
   rcases hy1 with hy1|hy1
   ·cases hy1;rfl
   ·have:=(zAB.1 hy).1;rw [hlen] at this;omega
  subst hb';rw [hblks,zBR hbl] at hy;cases hy;rw [hlen];exact ⟨hok,htop⟩
 ·rw [hlen] at h2;omega
 ·rw [hlen] at h2;omega
 ·have hc:c≠g.blk b:=by rintro rfl;rw [h.wok.apart b hbl o] at hu;cases hu
  rw [vm (hheap c hc)];exact h.wok.mem c o u hu
 ·have:=h.wok.ownlt c l hc;omega
 ·rw [show ({ s with H:=(s.H.set b x).edge b v,lk:=l }:St).H.blks=s.H.blks.set b x from hblks] at hy;have hmem:∀ p∈s.H.edges,p∈((s.H.set b x).edge b v).edges:=by
   intro p hp;simp only [Hp.edge,Hp.set];split
   ·exact hp
   ·exact zAE _ hp
  by_cases e:b'=b
  ·subst e;rw [zBR hbl] at hy;cases hy;have hx0:=h.edges b' x0 hb;have hv:v.top<=b'+1\/(b',v.top)∈((s.H.set b' x).edge b' v).edges:=by
    simp only [Hp.edge,Hp.set];split
    ·rename_i h1;exact .inl h1
    ·exact .inr (zAL ..)
   have old:∀ k,k<=x0.top->k<=b'+1\/(∃ m,(b',m)∈((s.H.set b' x).edge b' v).edges/\k<=m)\/∃ y:Blk,B.bs[b']?=some y/\k<=y.top:=by
    intro k hk;rcases hx0 with h1|⟨m,h1,h2⟩|⟨y,h1,h2⟩
    ·exact .inl (zAM hk h1)
    ·exact .inr (.inl ⟨m,hmem _ h1,zAM hk h2⟩)
    ·exact .inr (.inr ⟨y,h1,zAM hk h2⟩)
   have new:∀ k,k<=v.top->k<=b'+1\/(∃ m,(b',m)∈((s.H.set b' x).edge b' v).edges/\k<=m)\/∃ y:Blk,B.bs[b']?=some y/\k<=y.top:=by
    intro k hk;rcases hv with h1|h1
    ·exact .inl (zAM hk h1)
    ·exact .inr (.inl ⟨_,h1,hk⟩)
   rcases hedge with h1|h1|h1|h1
   ·exact .inl h1
   ·exact new _ h1
   ·exact old _ h1
   ·rcases Nat.le_total x0.top v.top with h2|h2
    ·rw [Nat.max_eq_right h2] at h1;exact new _ h1
    ·rw [Nat.max_eq_left h2] at h1;exact old _ h1
  ·rw [zA2 (fun e'=>e e'.symm)] at hy;rcases h.edges b' y hy with h1|⟨m,h1,h2⟩|h1
   ·exact .inl h1
   ·exact .inr (.inl ⟨m,hmem _ h1,h2⟩)
   ·exact .inr (.inr h1)
 ·rw [show ({ s with H:=(s.H.set b x).edge b v,lk:=l }:St).H.blks=s.H.blks.set b x from hblks]
  by_cases e:b'=b
  ·subst e;obtain ⟨cs,t,sz,xs,h1,h2⟩:=hlk off hlk';exact ⟨cs,t,sz,xs,by rw [zBR hbl,h1],h2⟩
  ·obtain ⟨cs,t,sz,xs,h1,h2⟩:=h.lks b' off hlk';exact ⟨cs,t,sz,xs,by rw [zA2 (fun e'=>e e'.symm)];exact h1,h2⟩
theorem v9 {vs cs:List V} {off:Nat}:tops (storeCells cs off vs)<=max (tops cs) (tops vs):=kW (zBT _ _) (zBm _ _)
theorem store_ok (h:Rel B g s a w) {t:TypeId} {p x:Operand} {b off n:Nat} {v:V} {env':List V} {cs:List V} {ty:TypeId} (hp:peek s.env p=some (.ptr b off)) (ht:take s.env x=some (v,env')) (hn:zy P t=some n)
  (hb:s.H.get b=some (.cells cs ty)) (hok:okC v=true) (hl:v.laid.length=n) (hle:off+n<=cs.length) (hmay:kQ s.lk b off n (cs.drop off)=true) :
  ∃ g' w',(Instr.storeAt t (a.eval p) (a.eval x)).run P w=.ok () w'/\Rel B g' { s with env:=env',H:=(s.H.set b (.cells (storeCells cs off v.laid) ty)).edge b v } a w':=by
 obtain ⟨p1,p2,_⟩:=zm h hp;generalize hpe:a.eval p=cp at p1;cases p1;obtain ⟨g',h1,v1,v2,v3,hal⟩:=take_ok h ht (.cell b off);have hb':({ s with env:=env' }:St).H.get b=some (.cells cs ty):=hb;obtain ⟨arr,a1,a2,a3,a4⟩:=yn h1 hb';obtain ⟨l1,l2,l3⟩:=zfW v1 hok v2 (v8 ht) v3;have hasz:cs.length=arr.size:=by have:=a2.len;simpa using this
 have hcsz:(a.eval x).cells.size=n:=by rw [<- hl,l1.len];simp
 have hblk:g'.blk b=g.blk b:=by rw [hal.blk]
 have hbl:b<s.H.blks.length:=by simp only [Hp.get,zd] at hb;exact (zAB.1 hb).1
 have harr:arr.toList.take off++(a.eval x).cells.toList++arr.toList.drop (off+(a.eval x).cells.toList.length)=storeCells arr.toList off (a.eval x).cells.toList:=by
  have hsplit:arr.toList=arr.toList.take off++(arr.toList.drop off).take n++arr.toList.drop (off+n):=by
   rw [zAc,<- List.drop_drop,zA8,zA8]
  have hlen:(arr.toList.take off).length=off:=by simp;omega
  have:=qX (a.eval x).cells.toList ((arr.toList.drop off).take n) (arr.toList.take off) (arr.toList.drop (off+n)) (by simp;omega)
  rw [hlen,<- hsplit] at this;rw [this];simp [hcsz]
 have hrun:(Instr.storeAt t (.pointer (some ⟨g.blk b,off,none⟩)) (a.eval x)).run P w=.ok () (w.setRow (g.blk b) (storeCells arr.toList off (a.eval x).cells.toList).toArray):=by
  have hst:=run_storeCells_at P (g.blk b) off ty (a.eval x).cells.toList 0 arr w (by rw [<- hblk];exact a1) (by simp;omega) (fun u hu=>by
   obtain ⟨j,hj⟩:=List.getElem?_of_mem hu;have hj':j<v.laid.length:=by rw [l1.len];exact (zAB.1 hj).1
   have hx:=zAS hj'
   exact (l1.rel j _ u hx hj).oneCell (l1.one j _ hx))
  simp only [zBf] at hst;rw [harr] at hst;unfold Instr.storeAt storeVar;simp [Instr.sureAddr,zW hn,hcsz,hst]
 refine ⟨g',_,hrun,?_⟩;have hheap':(w.setRow (g.blk b) (storeCells arr.toList off (a.eval x).cells.toList).toArray).heap[g'.blk b]?=some (.cells (storeCells arr.toList off (a.eval x).cells.toList).toArray ty (0,0)):=by
  rw [hblk];exact setRow_heap w _ _ _ ty _ (by rw [<- hblk];exact a1)
 have hsame:Same B.d (some b) none s.H.blks.length g' w g' (w.setRow (g.blk b) (storeCells arr.toList off (a.eval x).cells.toList).toArray) :=
  ⟨.refl _ _,fun c _ hc _=>setRow_other w _ c _ (fun e=>hc b rfl (by rw [hblk,e])),fun _ _ _=>rfl,fun _ _ _ _=>rfl,by simp [World.setRow],fun _ _ _=>rfl,fun l hl=>(by cases hl),fun b' hb'=>(by cases hb';exact hbl),fun _ _ _ _=>rfl,rfl,rfl,rfl⟩
 have key:=Rel.write (l:=s.lk) (v:=v) h1 (b:=b) (x0:=.cells cs ty) (x:=.cells (storeCells cs off v.laid) ty) (N:=g.blk b) hblk.symm hb' (fun c hc=>setRow_other w _ c _ hc) (by simp [World.setRow]) rfl rfl rfl
  ⟨_,hheap',by simp [qI,hasz],fun j y u hy hu=>?_⟩ (kW a3 l2) (.inr (.inr (.inr (zAM v9 (zBO.2 ⟨zBT _ _,?_⟩))))) (fun o hlo=>?_) h.lkl
 ·exact key
 ·have hst:=a2.store off l1;have hr:=hst.rel j y u hy (by simpa using hu)
  refine ⟨hst.one j y hy,hr,?_,?_⟩
  ·rw [zC _ _ _ _ (by omega)] at hy
   have hu':(storeCells arr.toList off (a.eval x).cells.toList)[j]?=some u:=by simpa using hu
   rw [zC _ _ _ _ (by rw [zAv,zAv,hcsz,<- hasz];exact hle)] at hu'
   by_cases hj:off<=j/\j<off+v.laid.length
   ·rw [if_pos hj] at hy;rw [if_pos (by simp [hcsz];omega)] at hu'
    have:=(l3 (j - off) y u hy (by simpa using hu')).1
    rw [show off+(j - off)=j by omega] at this
    exact OwnV.same hsame (fun e=>by cases e) (fun b1 h2 h3=>absurd (show b1<s.H.blks.length from h3) (Nat.not_lt.2 h2)) this
   ·rw [if_neg hj] at hy;rw [if_neg (by simp [hcsz];omega)] at hu'
    exact OwnV.same hsame (fun e=>by cases e) (fun b1 h2 h3=>absurd (show b1<s.H.blks.length from h3) (Nat.not_lt.2 h2)) (a4 j y u hy (by simpa using hu')).1
  ·rw [zC _ _ _ _ (by omega)] at hy
   have hu':(storeCells arr.toList off (a.eval x).cells.toList)[j]?=some u:=by simpa using hu
   rw [zC _ _ _ _ (by rw [zAv,zAv,hcsz,<- hasz];exact hle)] at hu'
   by_cases hj:off<=j/\j<off+v.laid.length
   ·rw [if_pos hj] at hy;rw [if_pos (by simp [hcsz];omega)] at hu'
    have:=(l3 (j - off) y u hy (by simpa using hu')).2
    cases y with
    | sl sz xs o=>cases o with
     | lock=>exact absurd rfl (this sz xs)
     | _=>trivial
    | _=>trivial
   ·rw [if_neg hj] at hy;rw [if_neg (by simp [hcsz];omega)] at hu'
    exact (a4 j y u hy (by simpa using hu')).2
 ·have:tops v.laid<=v.top:=by
   rcases zjQ hok with ⟨cs',rfl,e⟩|⟨_,e,_⟩
   ·rw [e,qo];exact zAO _
   ·rw [e];simp [tops]
  exact zAM this (zBm _ _)
 ·obtain ⟨cs2,t2,sz,xs,c1,c2⟩:=h.lks b o hlo;have hb2:s.H.blks[b]?=some (.cells cs ty):=by simpa [Hp.get,zd] using hb
  rw [hb2] at c1;cases c1;refine ⟨_,_,sz,xs,rfl,?_⟩;rw [zC _ _ _ _ (by omega)]
  by_cases hj:off<=o/\o<off+v.laid.length
  ·have:=zfX hmay (o - off) (.sl sz xs .lock) (by omega) (by rw [zBQ,show off+(o - off)=o by omega];exact c2) rfl
   rw [show off+(o - off)=o by omega] at this
   exact absurd hlo (h.lkl _ this)
  ·rw [if_neg hj];exact c2
end Go.Vm
