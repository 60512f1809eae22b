/- The abstract machine Vm: Go data by value, a small heap for variables and maps, an interpreter over the model's own Code. No theorem here; Vm: what an abstract state says of a world; Vm: operands, slots; and what follows from it. Conditions: none but those that each theorem names. -/
import GoSem.Step
import Derived.Calls
import Derived.Laws.AppendOwn
import Derived.Laws.OwnMore
import Derived.Laws.MakeOwn
import Derived.Laws.NewBlocks
import Derived.Laws.Rows
import Derived.Deep.Draws
import Derived.Tactics
import Derived.Laws.Cells
import Derived.Laws.Entries
import Derived.Laws.CopyRow
import Derived.Laws.StructEq
import Derived.Laws.Cover3
import Derived.WalkKit
import Derived.Laws.BytesString
import Derived.Laws.RangeString
import Derived.Laws.IdiomStrings
namespace Go
theorem zAA:∀ {α:Type _} (val val_1:α),(some val=some val_1)=(val=val_1):=@Option.some.injEq
theorem zAB:∀ {α:Type _} {β:Type _} (a:α) (f:α->Option β),Option.bind (some a) f=f a:=@Option.bind_some
theorem zAC:∀ {α:Type _} {β:Type _} (a:α) (f:α->β),Option.map f (some a)=some (f a):=@Option.map_some
theorem zAD:(false=true)=False:=@Bool.false_eq_true
theorem zAE:∀ {α:Type _} (y:α) {a:α} {l:List α},a∈l->a∈y::l:=@List.mem_cons_of_mem
theorem zAF:∀ (a b:Bool),((a&&b)=true)=(a=true/\b=true):=@Bool.and_eq_true
theorem zAG:∀ {α:Type _} {i:Nat} {a:α} {l:List α},l[i]?=some a↔∃ h,l[i]=a:=@List.getElem?_eq_some_iff
theorem zAH:∀ {α:Type _} {β:Type _} (fst:α) (snd:β) (fst_1:α) (snd_1:β),((fst,snd)=(fst_1,snd_1))=(fst=fst_1/\snd=snd_1):=@Prod.mk.injEq
theorem zAI:∀ {α:Type _} {x:α} {xs:List α} {a:α},List.set (x::xs) 0 a=a::xs:=@List.set_cons_zero
theorem zAJ:∀ {α:Type _} {x:α} {xs:List α} {i:Nat} {a:α},List.set (x::xs) (i+1) a=x::List.set xs i a:=@List.set_cons_succ
theorem zAK:∀ {α:Type _} (l:List α),l<+:l:=@List.prefix_refl
theorem zAL:∀ {α:Type _} {a:α} {l:List α},a∈a::l:=@List.mem_cons_self
theorem zAM:∀ {α:Type _} {b:α} {α_1:Type _} {x:Option α_1} {f:α_1->Option α},Option.bind x f=some b↔∃ a,x=some a/\f a=some b:=@Option.bind_eq_some_iff
theorem zAN:∀ {α:Type _} {as:List α} {i:Nat} {a:α},List.length (List.set as i a)=List.length as:=@List.length_set
theorem zAO:∀ {α:Type _} {b:α} {l:List α} {a:α},a∈b::l↔a=b\/a∈l:=@List.mem_cons
theorem zAP:∀ {n m k:Nat},n<=m->m<=k->n<=k:=@Nat.le_trans
theorem zAQ:∀ {n m:Nat},Nat.beq n m=true->n=m:=@Nat.eq_of_beq_eq_true
theorem zAR:∀ (n:Nat),n<=n:=@Nat.le_refl
theorem zAS:∀ {α:Type _} {a:α} {as:List α},List.length (a::as)=List.length as+1:=@List.length_cons
theorem zAT:∀ (n:Nat),0+n=n:=@Nat.zero_add
theorem zAU:∀ (n:Nat),0<=n:=@Nat.zero_le
theorem zAV:∀ {α:Type _} {l:List α} {i:Nat} (h:i<List.length l),l[i]?=some l[i]:=@List.getElem?_eq_getElem
theorem zAW:∀ {α:Type _} (as:List α),[]++as=as:=@List.nil_append
theorem zAX:∀ {α:Type _} {β:Type _} {f:α->β} {a:α} {l:List α},List.map f (a::l)=f a::List.map f l:=@List.map_cons
theorem zAY:∀ {α:Type _} {a:α} {as bs:List α},a::as++bs=a::(as++bs):=@List.cons_append
theorem zAZ:∀ (a b:Bool),((a||b)=true)=(a=true\/b=true):=@Bool.or_eq_true
theorem zAa:∀ (p:Prop),(True/\p)=p:=@true_and
theorem zAb:∀ {α:Type _} (as bs cs:List α),as++bs++cs=as++(bs++cs):=@List.append_assoc
theorem zAc:∀ (b:Bool),(b&&b)=b:=@Bool.and_self
theorem zAd:∀ {α:Type _} {b:α} {α_1:Type _} {x:Option α_1} {f:α_1->α},Option.map f x=some b↔∃ a,x=some a/\f a=b:=@Option.map_eq_some_iff
theorem zAe:∀ {α:Type _} {l₁ l₂:List α} {i:Nat},i<List.length l₁->(l₁++l₂)[i]?=l₁[i]?:=@List.getElem?_append_left
theorem zAf:∀ {α:Type _} {l₁ l₂:List α} {i:Nat},List.length l₁<=i->(l₁++l₂)[i]?=l₂[i - List.length l₁]?:=@List.getElem?_append_right
theorem zAg:∀ (n m:Nat),n<m\/n ≥ m:=@Nat.lt_or_ge
theorem zAh:∀ {α:Type _} {l:List α} {i:Nat} {a:α},l[i]?=some a->a∈l:=@List.mem_of_getElem?
theorem zAi:∀ {α:Type _} {as bs:List α},List.length (as++bs)=List.length as+List.length bs:=@List.length_append
theorem zAj:∀ {α:Type _} {i:Nat} {b:α} {xs:Array α},xs[i]?=some b↔∃ h,xs[i]=b:=@Array.getElem?_eq_some_iff
theorem zAk:∀ {n m:Nat},Nat.ble n m=true->n<=m:=@Nat.le_of_ble_eq_true
theorem zAl:∀ {α:Type _} {β:Type _} {f:α->β} {l:List α} {i:Nat},(List.map f l)[i]?=Option.map f l[i]?:=@List.getElem?_map
theorem zAm:∀ {α:Type _} (head:α) (tail:List α) (head_1:α) (tail_1:List α),(head::tail=head_1::tail_1)=(head=head_1/\tail=tail_1):=@List.cons.injEq
theorem zAn:∀ {α:Type _} {a:α} {l:List α},(a::l)[0]?=some a:=@List.getElem?_cons_zero
theorem zAo:∀ {n m k:Nat},n<m->m<=k->n<k:=@Nat.lt_of_lt_of_le
theorem zAp:∀ {α:Type _} {β:Type _} {f:α->β},List.map f []=[]:=@List.map_nil
theorem zAq:∀ {α:Type _} (l₁ l₂:List α),l₁<+:l₁++l₂:=@List.prefix_append
theorem zAr:∀ (b:Bool),((!b)=true)=(b=false):=@Bool.not_eq_true'
theorem zAs:(!true)=false:=@Bool.not_true
theorem zAt:∀ {α:Type _} {a:α} {s t:List α},a∈s++t↔a∈s\/a∈t:=@List.mem_append
theorem zAu:∀ {α:Type _} {l:List α} {i:Nat},List.length l<=i->l[i]?=none:=@List.getElem?_eq_none
theorem zAv:∀ (n:Nat),n+0=n:=@Nat.add_zero
theorem zAw:(!false)=true:=@Bool.not_false
theorem zAx:∀ {α:Type _} {l:List α} {i j:Nat} {a:α},(List.set l i a)[j]?=if i=j then if i<List.length l then some a else none else l[j]?:=@List.getElem?_set
theorem zAy:(true=false)=False:=@Bool.true_eq_false
theorem zAz:∀ {α:Type _} {a:α} {as:List α} (bs:List α),a∈as->a∈as++bs:=@List.mem_append_left
theorem zA0:∀ {α:Type _} (as:List α),as++[]=as:=@List.append_nil
theorem zA1:∀ {α:Type _} {val val_1:α},some val=some val_1->val=val_1:=@Option.some.inj
theorem zA2:∀ {α:Type _} {β:Type _} {as:List α} (f:α->β),List.length (List.map f as)=List.length as:=@List.length_map
theorem zA3:∀ {α:Type _} {i:Nat} {a:α} {l:List α},a∈List.take i l->a∈l:=@List.mem_of_mem_take
theorem zA4:∀ {α:Type _} {β:Type _} {b:β} {f:α->β} {l:List α},b∈List.map f l↔∃ a,a∈l/\f a=b:=@List.mem_map
theorem zA5:∀ {α:Type _} {xs:Array α} {i:Nat} (h:i<Array.size xs),xs[i]?=some xs[i]:=@Array.getElem?_eq_getElem
theorem zA6:∀ {α:Type _} {b:α} (as:List α) {bs:List α},b∈bs->b∈as++bs:=@List.mem_append_right
theorem zA7:∀ {α:Type _} {i:Nat} {l:List α},List.length (List.take i l)=min i (List.length l):=@List.length_take
theorem zA8:∀ {α:Type _} {a b:α},Option.getD (some a) b=a:=@Option.getD_some
theorem zA9:∀ {α:Type _} {l:List α} {i j:Nat},(List.take i l)[j]?=if j<i then l[j]? else none:=@List.getElem?_take
theorem zBA:∀ (p:Prop),(False/\p)=False:=@false_and
theorem zBB:∀ {α:Type _} {a:α} {i:Nat} {l:List α},a∈List.drop i l->a∈l:=@List.mem_of_mem_drop
theorem zBC:∀ {α:Type _} (i:Nat) (l:List α),List.take i l++List.drop i l=l:=@List.take_append_drop
theorem zBD:∀ {α:Type _} {xs:Array α},List.length (Array.toList xs)=Array.size xs:=@Array.length_toList
theorem zBE:∀ {α:Type _} {p:α->Bool} {l:List α},List.all l p=true↔∀ (x:α),x∈l->p x=true:=@List.all_eq_true
theorem zBF:∀ (p:Prop),(p/\True)=p:=@and_true
theorem zBG:∀ {α:Type _} {l:List α} {i j:Nat},i ≠ j->∀ {a:α},(List.set l i a)[j]?=l[j]?:=@List.getElem?_set_ne
theorem zBH:∀ {α:Type _} {s t:List α} (i:Nat) (x:α),List.length s<=i->List.set (s++t) i x=s++List.set t (i - List.length s) x:=@List.set_append_right
theorem zBI:∀ {α:Type _} {a:α} {i:Nat} {l:List α},(a::l)[i+1]?=l[i]?:=@List.getElem?_cons_succ
theorem zBJ:∀ {α:Type _} {β:Type _} {l:List α} {a:α} {f:α->β},a∈l->f a∈List.map f l:=@List.mem_map_of_mem
theorem zBK:∀ {α:Type _} {β:Type _} {x:α} {xs:List α} {f:α->List β},List.flatMap f (x::xs)=f x++List.flatMap f xs:=@List.flatMap_cons
theorem zBL:∀ (b:Bool),(false||b)=b:=@Bool.false_or
theorem zBM:∀ {α:Type _} {i:Nat} {l:List α},List.length l<=i->List.take i l=l:=@List.take_of_length_le
theorem zBN:∀ {α:Type _} {l:List α} {i:Nat} {a:α},i<List.length l->(List.set l i a)[i]?=some a:=@List.getElem?_set_self
theorem zBO:∀ {α:Type _} {p:α->Prop} {a:α} {l:List α},(∀ (x:α),x∈a::l->p x)↔p a/\∀ (x:α),x∈l->p x:=@List.forall_mem_cons
theorem zBP:∀ {a b c:Nat},max a b<=c↔a<=c/\b<=c:=@Nat.max_le
theorem zBQ:∀ (b:Bool),(true&&b)=b:=@Bool.true_and
theorem zBR:∀ {α:Type _} {l:List α},List.length l=0↔l=[]:=@List.length_eq_zero_iff
theorem zBS:∀ (a:Nat),Nat.beq a a=true:=@Nat.beq_refl
theorem zBT:∀ {α:Type _} {i:Nat} {l:List α} (h:i<List.length l),List.drop i l=l[i]::List.drop (i+1) l:=@List.drop_eq_getElem_cons
theorem zBU:∀ {α:Type _} {xs:List α} {i j:Nat},(List.drop i xs)[j]?=xs[i+j]?:=@List.getElem?_drop
theorem zBV:∀ (a b:Nat),a<=max a b:=@Nat.le_max_left
theorem zBW:∀ (n m k:Nat),(n+m) * k=n * k+m * k:=@Nat.add_mul
theorem zBX:∀ {x y:Bool},(x||y)=false↔x=false/\y=false:=@Bool.or_eq_false_iff
theorem zBY:∀ {a b:Nat},a<b->a % b=a:=@Nat.mod_eq_of_lt
theorem zBZ:∀ (b:Bool),(¬b=false)=(b=true):=@Bool.not_eq_false
theorem zBa:∀ {n m:Nat},n<m->n<=m:=@Nat.le_of_lt
theorem zBb:∀ {α:Type _} {xs:Array α} {i:Nat},(Array.toList xs)[i]?=xs[i]?:=@Array.getElem?_toList
theorem zBc:∀ {α:Type _} {l:List α},List.take (List.length l) l=l:=@List.take_length
theorem zBd:∀ (n:Nat),Int.toNat ↑n=n:=@Int.toNat_natCast
theorem zBe:∀ {a b:Bool},a=b↔(a=true↔b=true):=@Bool.eq_iff_iff
theorem zBf:∀ {α:Sort _} {p:α->Prop} (h:∃ x,p x),p (Classical.choose h):=@Classical.choose_spec
theorem zBg:∀ (a b:Nat),b<=max a b:=@Nat.le_max_right
theorem zBh:∀ {α:Type _} {a b:α},a∈[b]↔a=b:=@List.mem_singleton
theorem zBi:∀ (p:Prop),(False\/p)=p:=@false_or
theorem zBj:∀ (n m k:Nat),n+m+k=n+(m+k):=@Nat.add_assoc
theorem zBk:∀ {n m:Nat} (k:Nat),n<=m->n * k<=m * k:=@Nat.mul_le_mul_right
theorem zBl:∀ {α:Sort _} (a b:α),(bif false then a else b)=b:=@cond_false
theorem zBm:∀ {α:Sort _} (a b:α),(bif true then a else b)=a:=@cond_true
theorem zBn:∀ (n:Nat),n=0\/n > 0:=@Nat.eq_zero_or_pos
theorem zBo:∀ {α:Type _} {l:List α},List.drop 0 l=l:=@List.drop_zero
theorem zBp:∀ {n m:Nat},n<=m->Nat.ble n m=true:=@Nat.ble_eq_true_of_le
theorem zBq:∀ {x y:Nat},(Nat.blt x y=true)=(x<y):=@Nat.blt_eq
theorem zBr:∀ (p:Prop),(p\/False)=p:=@or_false
theorem zBs:(¬False)=True:=@not_false_eq_true
theorem zBt:∀ (b:Bool),(false&&b)=false:=@Bool.false_and
theorem zBu:∀ (n:Nat),n<Nat.succ n:=@Nat.lt_succ_self
end Go
namespace Go.Vm
open Go
inductive Own where
 |no|yes (e:TypeId)|lock
 deriving DecidableEq,Inhabited
inductive V where
 |bool (b:Bool)
 |int (k:IntKind) (n:Int)
 |str (s:List Nat)
 |nilp|ptr (b off:Nat)|gptr (g off:Nat)|obj (k:Nat)|vp (cs:List V)
 |snil|sl (sz:Nat) (xs:List V) (o:Own)|sr (b off len:Nat)
 |nilm|map (b:Nat)
 |nilf|fn (f:Fn) (first cap:List V)
 |nili|ifc (t:TypeId) (v:V)
 |ulr (b u len:Nat)|ulp (b u k:Nat)
 |agg (cs:List V)
 |tup (vs:List V)
 |junk
 deriving Inhabited
def okC:V->Bool
 | .tup _|.junk=>false
 | _=>true
def V.cells:V->List V
 | .agg cs=>cs
 | v=>[v]
def clr:V->V
 | .sl sz xs _=>.sl sz xs .no
 | v=>v
def V.laid:V->List V
 | .agg cs=>cs.map clr
 | v=>[v]
mutual
def V.top:V->Nat
 | .ptr b _|.sr b _ _|.map b=>b+1
 | .ulr b _ _|.ulp b _ _=>b+1
 | .vp cs|.sl _ cs _|.agg cs|.tup cs=>tops cs
 | .fn _ a c=>max (tops a) (tops c)
 | .ifc _ v=>v.top
 | _=>0
def tops:List V->Nat
 | []=>0
 | v::vs=>max v.top (tops vs)
end
def nth {α:Type}:List α->Nat->Option α
 | [],_=>none
 | x::_,0=>some x
 | _::xs,n+1=>nth xs n
def ww {β:Type} (n:Nat) (k:Nat->β):β :=
 match n with
 | 0=>k 0
 | m+1=>k (m+1)
def zot {β:Type} (n:Int) (k:Int->β):β :=
 match n with
 | .ofNat m=>ww m fun m=>k (.ofNat m)
 | .negSucc m=>ww m fun m=>k (.negSucc m)
def ziJ {β:Type}:List Nat->(List Nat->β)->β
 | [],k=>k []
 | x::xs,k=>ww x fun x=>ziJ xs fun ys=>k (x::ys)
def fL {α β:Type}:List α->(List α->β)->β
 | [],k=>k []
 | x::xs,k=>fL xs fun ys=>k (x::ys)
def fC {β:Type} (v:V) (k:V->β):β :=
 match v with
 | .bool true=>k (.bool true)
 | .bool false=>k (.bool false)
 | .int kd n=>zot n fun n=>k (.int kd n)
 | .str s=>ziJ s fun s=>k (.str s)
 | .ptr b o=>ww b fun b=>ww o fun o=>k (.ptr b o)
 | .sr b o n=>ww b fun b=>ww o fun o=>ww n fun n=>k (.sr b o n)
 | .map b=>ww b fun b=>k (.map b)
 | .ulr b u n=>ww b fun b=>ww u fun u=>ww n fun n=>k (.ulr b u n)
 | .ulp b u j=>ww b fun b=>ww u fun u=>ww j fun j=>k (.ulp b u j)
 | .sl sz xs o=>fL xs fun xs=>k (.sl sz xs o)
 | .vp cs=>fL cs fun cs=>k (.vp cs)
 | v=>k v
def fCs {β:Type}:List V->(List V->β)->β
 | [],k=>k []
 | x::xs,k=>fC x fun x=>fCs xs fun ys=>k (x::ys)
def fV {β:Type} (v:V) (k:V->β):β :=
 match v with
 | .agg cs=>fCs cs fun cs=>k (.agg cs)
 | .tup cs=>fCs cs fun cs=>k (.tup cs)
 | .fn f a c=>fCs a fun a=>fCs c fun c=>k (.fn f a c)
 | v=>fC v k
def zgA {α β:Type}:List α->Nat->α->(List α->β)->β
 | [],_,_,k=>k []
 | _::xs,0,v,k=>k (v::xs)
 | x::xs,n+1,v,k=>zgA xs n v fun ys=>k (x::ys)
inductive Blk where
 |cells (cs:List V) (t:TypeId)
 |map (es:List (V×V))
 |iter (s:List Nat) (pos:Nat)
 |ul (ver sz:Nat) (cs:List V) (e:TypeId)
 deriving Inhabited
structure Hp where
 blks:List Blk
 edges:List (Nat×Nat)
 deriving Inhabited
def Hp.push (H:Hp) (b:Blk):Hp:={ H with blks:=H.blks++[b] }
def Hp.get (H:Hp) (b:Nat):Option Blk:=nth H.blks b
def Hp.set (H:Hp) (b:Nat) (x:Blk):Hp:={ H with blks:=H.blks.set b x }
def Hp.edge (H:Hp) (b:Nat) (v:V):Hp:=if v.top<=b+1 then H else { H with edges:=(b,v.top)::H.edges }
inductive Out where
 |ret (v:V)
 |pan (v:V)
inductive Ex where
 |normal|exit (id:Nat)|goto (l:Nat)|ret|pan (v:V)
inductive OR where
 |val (v:V)
 |skip
 |pan (v:V)
def oneV:V->Bool
 | .agg _|.tup _|.junk=>false
 | _=>true
mutual
def ofVal:Value->Option V
 | .bool b=>some (.bool b)
 | .int k n=>some (.int k n)
 | .string s=>some (.str (s.data.toList.map UInt8.toNat))
 | .pointer none=>some .nilp
 | .slice none 0 0=>some .snil
 | .map none=>some .nilm
 | .nilFunc=>some .nilf
 | .func f ⟨[]⟩ ⟨[]⟩=>some (.fn f [] [])
 | .nilIface=>some .nili
 | .agg ⟨cs⟩=>(ofVals cs).bind fun l=>if l.all oneV then some (.agg l) else none
 | .tuple ⟨[]⟩=>some (.tup [])
 | _=>none
def ofVals:List Value->Option (List V)
 | []=>some []
 | v::vs=>match ofVal v,ofVals vs with
  | some x,some xs=>some (x::xs)
  | _,_=>none
end
section
variable (P:Program)
def qc (t:TypeId):Option Nat:=(P.info? t).map (·.size)
def jG (t:TypeId):Option Bool:=(P.underlying t).map fun|.struct _|.array _ _=>true|_=>false
def qi (t:TypeId):Option V:=(P.info? t).bind fun i=>i.zero.bind ofVal
def jU (t:TypeId) (cs:List V) (off:Nat):Option V:=do
 if <- jG P t then
  let n <- qc P t
  if off+n<=cs.length then some (.agg ((cs.drop off).take n)) else none
 else nth cs off
def zbq (isAgg:Bool) (sz:Nat):Nat->List V->List V
 | 0,_=>[]
 | n+1,cs=>(if isAgg then .agg (cs.take sz) else cs.headD .junk)::zbq isAgg sz n (cs.drop sz)
def vr (H:Hp) (elem:TypeId):V->Option (List V)
 | .snil=>some []
 | .sl sz xs _=>do
  let n <- qc P elem
  if n=sz then some xs else none
 | .sr b off len=>do
  let .cells cs _ <- H.get b|none
  let n <- qc P elem
  let ag <- jG P elem
  if Nat.ble (off+len * n) cs.length && (ag || Nat.beq n 1) then some (zbq ag n len ((cs.drop off).map clr)) else none
 | _=>none
def bytesA:List V->Option (List Nat)
 | []=>some []
 | .int .u8 n::r=>(bytesA r).map ((n.toNat % 256)::·)
 | _=>none
def eqL:List Nat->List Nat->Bool
 | [],[]=>true
 | a::x,b::y=>Nat.beq a b && eqL x y
 | _,_=>false
def ltL:List Nat->List Nat->Bool
 | _,[]=>false
 | [],_::_=>true
 | a::x,b::y=>Nat.blt a b || (Nat.beq a b && ltL x y)
def zhZ (eq:TypeId->V->V->Option Bool):List Field->List V->List V->Option Bool
 | [],_,_=>some true
 | f::fs,xs,ys =>
  if f.name= "_" then none else do
   let a <- jU P f.type xs f.offset
   let b <- jU P f.type ys f.offset
   if <- eq f.type a b then zhZ eq fs xs ys else some false
def zfr (eq:TypeId->V->V->Option Bool) (e:TypeId) (n:Nat) (xs ys:List V):Nat->Nat->Option Bool
 | _,0=>some true
 | i,k+1=>do
  let a <- jU P e xs (i * n)
  let b <- jU P e ys (i * n)
  if <- eq e a b then zfr eq e n xs ys (i+1) k else some false
def eqS (ds:TypeDesc) (x y:V):Option Bool :=
 match ds with
 | .bool=>match x,y with
  | .bool a,.bool b=>some (a == b)
  | _,_=>none
 | .int _=>match x,y with
  | .int k a,.int k' b=>if k=k' then some (a == b) else none
  | _,_=>none
 | .string=>match x,y with
  | .str a,.str b=>some (eqL a b)
  | _,_=>none
 | .pointer _=>match x,y with
  | .nilp,.nilp=>some true
  | .nilp,.ptr _ _=>some false
  | .ptr _ _,.nilp=>some false
  | .nilp,.obj _=>some false
  | .obj _,.nilp=>some false
  | _,_=>none
 | .interface _=>match x,y with
  | .nili,.nili=>some true
  | .nili,.ifc _ _=>some false
  | .ifc _ _,.nili=>some false
  | .ifc tx _,.ifc ty _=>if tx=ty then none else some false
  | _,_=>none
 | .slice _=>match x,y with
  | .snil,.snil=>some true
  | .snil,.sl _ (_::_) _=>some false
  | .sl _ (_::_) _,.snil=>some false
  | .snil,.sr _ _ _=>some false
  | .sr _ _ _,.snil=>some false
  | _,_=>none
 | .map _ _=>match x,y with
  | .nilm,.nilm=>some true
  | .nilm,.map _=>some false
  | .map _,.nilm=>some false
  | _,_=>none
 | .func _ _ _=>match x,y with
  | .nilf,.nilf=>some true
  | .nilf,.fn _ _ _=>some false
  | .fn _ _ _,.nilf=>some false
  | _,_=>none
 | _=>none
def eqA:Nat->TypeId->V->V->Option Bool
 | 0,_,_,_=>none
 | d+1,t,x,y=>match P.underlying t with
  | none=>none
  | some ds=>match x,y with
   | .agg xs,.agg ys=>match ds with
    | .struct fs=>if P.stoodInHeld t then none else zhZ P (eqA d) fs.toList xs ys
    | .array len e=>match qc P e with
     | some n=>zfr P (eqA d) e n xs ys 0 len
     | none=>none
    | _=>none
   | x,y=>eqS ds x y
def isConst:Operand->Bool
 | .const _=>true
 | _=>false
def kU (t:TypeId) (x y:Operand) (u v:V):Bool :=
 match u,v with
 | .nili,.nili=>isConst x || isConst y
 | .agg _,.agg _=>!P.eqGuardType P.depth t
 | .junk,_=>false
 | _,.junk=>false
 | _,_=>true
def jN (op:BinOp) (t:TypeId) (x y:Operand) (u v:V):Bool :=
 match op with
 | .eql=>kU P t x y u v
 | .neq=>kU P t x y u v
 | _=>true
def zfs (op:BinOp) (k:IntKind) (x y:Int):Option V :=
 if y<0 then none else
 let n:=min y.toNat k.bits
 match op with
 | .shl=>some (.int k (k.wrap (x * 2 ^ n)))
 | .shr=>some (.int k (x.fdiv (2 ^ n)))
 | _=>none
def vv (op:BinOp) (k:IntKind) (x y:Int):Option V :=
 match op with
 | .add=>some (.int k (k.wrap (x+y)))
 | .sub=>some (.int k (k.wrap (x - y)))
 | .mul=>some (.int k (k.wrap (x * y)))
 | .quo=>if y=0 then none else some (.int k (k.wrap (x.tdiv y)))
 | .rem=>if y=0 then none else some (.int k (x.tmod y))
 | .and=>some (.int k (k.wrap ((BitVec.ofInt k.bits x &&& BitVec.ofInt k.bits y).toNat)))
 | .or=>some (.int k (k.wrap ((BitVec.ofInt k.bits x ||| BitVec.ofInt k.bits y).toNat)))
 | .xor=>some (.int k (k.wrap ((BitVec.ofInt k.bits x ^^^ BitVec.ofInt k.bits y).toNat)))
 | .andNot=>some (.int k (k.wrap ((BitVec.ofInt k.bits x &&& ~~~ (BitVec.ofInt k.bits y)).toNat)))
 | .eql=>some (.bool (x == y))
 | .neq=>some (.bool (x != y))
 | .lss=>some (.bool (x<y))
 | .leq=>some (.bool (x<=y))
 | .gtr=>some (.bool (x > y))
 | .geq=>some (.bool (x ≥ y))
 | _=>none
def zdq (op:BinOp) (x y:List Nat):Option V :=
 match op with
 | .add=>if x.length+y.length<=140737488355328 then some (.str (x++y)) else none
 | .eql=>some (.bool (eqL x y))
 | .neq=>some (.bool !(eqL x y))
 | .lss=>some (.bool (ltL x y))
 | .leq=>some (.bool (ltL x y || eqL x y))
 | .gtr=>some (.bool !(ltL x y || eqL x y))
 | .geq=>some (.bool !(ltL x y))
 | _=>none
def w8 (op:BinOp) (t:TypeId) (x y:V):Option V :=
 match op,x,y with
 | .shl,.int k a,.int _ b|.shr,.int k a,.int _ b=>zfs op k a b
 | _,.int k a,.int k' b=>if k=k' then vv op k a b else none
 | _,.str a,.str b=>zdq op a b
 | .eql,x,y=>(eqA P 100 t x y).map .bool
 | .neq,x,y=>(eqA P 100 t x y).map fun b=>.bool !b
 | _,_,_=>none
def unA (op:UnOp) (x:V):Option V :=
 match op,x with
 | .neg,.int k n=>some (.int k (k.wrap (0 - n)))
 | .xor,.int k n=>vv .xor k (if k.signed then -1 else k.max) n
 | .not,.bool b=>some (.bool !b)
 | _,_=>none
def yT (src dst:TypeId) (x:V):Option V:=do
 match <- P.underlying src,<- P.underlying dst,x with
 | _,.int k,.int _ n=>some (.int k (k.wrap n))
 | _,.string,.int _ n=>some (.str ((Utf8.encode n).data.toList.map UInt8.toNat))
 | _,.string,.str s=>some (.str s)
 | .slice e,.string,.snil=>do
  let .int .u8 <- P.underlying e|none
  some (.str [])
 | .slice e,.string,.sl 1 xs _=>do
  let .int .u8 <- P.underlying e|none
  (bytesA xs).map .str
 | .string,.slice e,.str s=>do
  let .int .u8 <- P.underlying e|none
  some (.sl 1 (s.map fun (b:Nat)=>.int .u8 b) .no)
 | _,_,_=>none
def j7 (v:Option V) (d:Nat):Option Nat :=
 match v with
 | none=>some d
 | some (.int _ n)=>if 0<=n then some n.toNat else none
 | _=>none
def xq (t:TypeId) (x:V) (lo hi:Option V):Option V:=do
 match <- P.underlying t,x with
 | .string,.str s=>do
  let h <- j7 hi s.length
  let l <- j7 lo 0
  if l<=h/\h<=s.length then some (.str ((s.take h).drop l)) else none
 | .slice e,.sl sz xs _=>do
  let h <- j7 hi xs.length
  let l <- j7 lo 0
  let n <- qc P e
  if l<=h/\h<=xs.length/\n=sz then some (.sl sz ((xs.take h).drop l) .no) else none
 | .slice e,.snil=>do
  let h <- j7 hi 0
  let l <- j7 lo 0
  let _ <- qc P e
  if l=0/\h=0 then some .snil else none
 | .slice e,.sr b off len=>do
  let h <- j7 hi len
  let l <- j7 lo 0
  let n <- qc P e
  if l=h/\h<=len then some (.sl n [] .no) else
  if l<h/\h<=len then some (.sr b (off+l * n) (h - l)) else none
 | _,_=>none
def zJ (H:Hp) (gl:Nat->Nat->Option V) (t:TypeId) (a:V):Option V:=do
 match a with
 | .ptr b off=>do
  let .cells cs _ <- H.get b|none
  jU P t cs off
 | .vp cs=>jU P t cs 0
 | .ulp b u k=>do
  let .ul ver _ cs _ <- H.get b|none
  if Nat.beq ver u then jU P t cs k else none
 | .gptr g off=>if <- jG P t then none else gl g off
 | _=>none
def zjY (a b:V):Option Bool :=
 match a,b with
 | .int k x,.int k' y=>if k=k' then some (x == y) else none
 | .str x,.str y=>some (eqL x y)
 | .bool x,.bool y=>some (x == y)
 | _,_=>none
def xP (ds:TypeDesc) (k:V):Bool :=
 match ds,k with
 | .int _,.int _ _=>true
 | .string,.str _=>true
 | .bool,.bool _=>true
 | _,_=>false
def zeH (k:V):List (V×V)->Option (Option V)
 | []=>some none
 | (a,v)::r=>match zjY k a with
  | some true=>some (some v)
  | some false=>zeH k r
  | none=>none
def zjZ (k x:V):List (V×V)->Option (List (V×V))
 | []=>some [(k,x)]
 | (a,v)::r=>match zjY k a with
  | some true=>some ((k,x)::r)
  | some false=>(zjZ k x r).map ((a,v)::·)
  | none=>none
def zbr (l:List Nat):Nat×Nat :=
 let at' (k:Nat):Nat:=l.getD k 0
 let cont (k:Nat):Bool:=Nat.blt k l.length && Nat.beq (at' k / 64) 2
 let b0:=at' 0
 if b0<0x80 then (b0,1)
 else if b0 / 32 == 6 && cont 1 then
  let c:=(b0 % 32) * 64+at' 1 % 64
  if c ≥ 0x80 then (c,2) else (Utf8.runeError,1)
 else if b0 / 16 == 14 && cont 1 && cont 2 then
  let c:=(b0 % 16) * 4096+(at' 1 % 64) * 64+at' 2 % 64
  if c ≥ 0x800 && Utf8.valid c then (c,3) else (Utf8.runeError,1)
 else if b0 / 8 == 30 && cont 1 && cont 2 && cont 3 then
  let c:=(b0 % 8) * 262144+(at' 1 % 64) * 4096+(at' 2 % 64) * 64+at' 3 % 64
  if c ≥ 0x10000 && Utf8.valid c then (c,4) else (Utf8.runeError,1)
 else (Utf8.runeError,1)
def qo (t:TypeId) (v:V) (name:String):Option (FuncId×V):=do
 let i <- P.info? t
 let m <- i.methods.find? (·.name == name)
 if !m.path.isEmpty then none else
 let (f,pr) <- m.func
 match <- P.underlying t,pr with
 | .pointer _,true=>some (f,v)
 | .pointer _,false=>none
 | _,true=>none
 | _,false=>some (f,v)
def storeCells {α:Type} (cs:List α) (off:Nat):List α->List α
 | []=>cs
 | v::vs=>storeCells (cs.set off v) (off+1) vs
def locked:V->Bool
 | .sl _ _ .lock=>true
 | _=>false
def zkX (name:String) (args:List V):Option V :=
 match name,args with
 | "internal/bytealg.IndexByteString",[.str s,.int .u8 c]=>if 0<=c/\c<256 then some (.int .i64 (match s.findIdx? (fun (b:Nat)=>Nat.beq b c.toNat) with|some i=>i|none=>-1)) else none
 | _,_=>none
end
def handsBack:List Oper->List Tmp
 | [a,b]=>match a.dst,b.dst,b.op with
  | some k,some r,.assign (.tmp x)=>match Nat.beq k 19 && Nat.beq x 19 && Nat.beq r 2 with
   | true=>[k]
   | false=>[]
  | _,_,_=>[]
 | _=>[]
def wx (ops:Array Oper):List Tmp :=
 (ops.toList.filterMap fun o=>match o.op with
  | .call { callee:=.builtin .append,args,.. }=>match (args[0]?:Option Operand) with
   | some (.tmp t)=>some t
   | _=>none
  | _=>none)++handsBack ops.toList
structure Cx where
 P:Program
 gl:Nat->Nat->Option V
 call:FuncId->List V->Hp->Option (Out×Hp)
 uq:TypeId->Bool
def peek (env:List V):Operand->Option V
 | .tmp t=>match nth env t with
  | some v=>some (clr v)
  | none=>none
 | .const v=>ofVal v
 | .global g=>some (.gptr g 0)
 | .func f=>some (.fn (.func f) [] [])
def peekO (env:List V):Option Operand->Option (Option V)
 | none=>some none
 | some x=>match peek env x with
  | some v=>some (some v)
  | none=>none
def take (env:List V):Operand->Option (V×List V)
 | .tmp t=>match nth env t with
  | some (.sl sz xs (.yes e))=>zgA env t (.sl sz xs .no) fun env=>some (.sl sz xs (.yes e),env)
  | some v=>some (clr v,env)
  | none=>none
 | x=>(peek env x).map (·,env)
def peeks (env:List V):List Operand->Option (List V)
 | []=>some []
 | x::xs=>match peek env x with
  | none=>none
  | some v=>fV v fun v=>match peeks env xs with
   | none=>none
   | some vs=>some (v::vs)
structure St where
 env:List V
 H:Hp
 lk:List (Nat×Nat)
 defers:List (V×List V)
def zcE {β:Type} (H:Hp) (b:Blk) (k:Nat->Hp->β):β :=
 match H with
 | ⟨bs,es⟩=>ww bs.length fun n=>fL (bs++[b]) fun bs=>k n ⟨bs,es⟩
def zev {β:Type} (H:Hp) (b:Nat) (x:Blk) (v:V) (k:Hp->β):β :=
 match H with
 | ⟨bs,es⟩=>zgA bs b x fun bs=>if v.top<=b+1 then k ⟨bs,es⟩ else ww v.top fun t=>k ⟨bs,(b,t)::es⟩
def orOf:Out×Hp->OR×Hp
 | (.ret v,H)=>(.val v,H)
 | (.pan v,H)=>(.pan v,H)
def Cx.callF (cx:Cx) (f:FuncId) (args:List V) (H:Hp):Option (OR×Hp) :=
 match cx.P.funcs[f]? with
 | none=>none
 | some fn=>match fn.body with
  | none=>match zkX fn.name args with
   | none=>none
   | some v=>some (.val v,H)
  | some _=>match cx.call f args H with
   | none=>none
   | some r=>some (orOf r)
def Cx.callV (cx:Cx) (fv:V) (args:List V) (H:Hp):Option (OR×Hp) :=
 match fv with
 | .fn (.func f) first cap=>fL ((first++args++cap).map clr) fun args=>cx.callF f args H
 | .fn (.method name) first _ =>
  match first++args with
  | .ifc t v::rest=>match qo cx.P t v name with
   | none=>none
   | some (f,r)=>fL ((r::rest).map clr) fun args=>cx.callF f args H
  | _=>none
 | _=>none
def kh (n bytes:Nat):Bool:=Nat.ble n 140737488355328 && Nat.ble (n * bytes) 140737488355328
def qL (P:Program) (H:Hp) (t:TypeId) (v y:V):Option V:=do
 let .slice e <- P.underlying t|none
 let n <- qc P e
 let i <- P.info? e
 let z <- i.zero
 if !Nat.beq z.cells.size n then none else
 let ys <- vr P H e y
 match v with
 | .snil=>match ys with
  | []=>some .snil
  | ys=>if kh ys.length i.bytes && !Nat.beq n 0 then some (.sl n ys (.yes e)) else none
 | .sl sz xs (.yes e')=>if Nat.beq e e' && Nat.beq n sz && !Nat.beq n 0 && kh (xs.length+ys.length) i.bytes then some (.sl n (xs++ys) (.yes e)) else none
 | _=>none
def kO (P:Program) (H:Hp) (t:TypeId) (v:V):Option Int :=
 match P.underlying t,v with
 | some .string,.str l=>some l.length
 | some (.slice _),.snil=>some 0
 | some (.slice _),.sl _ xs _=>some xs.length
 | some (.slice _),.sr _ _ n=>some n
 | some (.slice _),.ulr _ _ n=>some n
 | some (.map _ _),.nilm=>some 0
 | some (.map _ _),.map b=>match H.get b with
  | some (.map es)=>some es.length
  | _=>none
 | _,_=>none
def Cx.builtin (cx:Cx) (b:Builtin) (argTypes:Array TypeId) (args:Array Operand) (env:List V) (H:Hp):Option (OR×List V) :=
 match b,args.toList,argTypes.toList with
 | .len,[x],[t]=>do some (.val (.int .i64 (<- kO cx.P H t (<- peek env x))),env)
 | .append,[x,y],[t,u]=>do
  if !Nat.beq t u then none else
  let y <- peek env y
  let (v,env) <- take env x
  some (.val (<- qL cx.P H t v y),env)
 | .min,[x,y],_=>do
  match <- peek env x,<- peek env y with
  | .int k a,.int _ b=>some (.val (.int k (if b<a then b else a)),env)
  | _,_=>none
 | .max,[x,y],_=>do
  match <- peek env x,<- peek env y with
  | .int k a,.int _ b=>some (.val (.int k (if b > a then b else a)),env)
  | _,_=>none
 | _,_,_=>none
def w9 (cells:List V) (place:Nat->Option (Nat×Nat)) (env:List V):List (Nat×Operand)->Option (List V)
 | []=>some cells
 | (i,x)::r=>do
  let v <- peek env x
  let (off,n) <- place i
  if okC v && Nat.beq v.cells.length n && Nat.ble (off+n) cells.length then w9 (storeCells cells off v.cells) place env r else none
def zft (P:Program) (fs:Array Field):Option (List (Nat×Nat)):=fs.toList.mapM (fun f=>(P.info? f.type).map fun i=>(f.offset,i.size))
def jE (P:Program) (t:TypeId) (parts:Array (Nat×Operand)) (env:List V):Option V :=
 match qi P t with
 | none=>none
 | some z=>if !okC z then none else match P.underlying t with
  | some (.struct fs)=>match zft P fs with
   | some ps=>(w9 z.cells (nth ps) env parts.toList).map .agg
   | none=>none
  | some (.array _ e)=>match P.info? e with
   | some ie=>(w9 z.cells (fun i=>some (i * ie.size,ie.size)) env parts.toList).map .agg
   | none=>none
  | _=>none
def zbs (n len:Nat) (env:List V):List V->List (Nat×Operand)->Option (List V)
 | xs,[]=>some xs
 | xs,(i,x)::r=>do
  let v <- peek env x
  if okC v && Nat.beq v.cells.length n && Nat.blt i len then fV v fun v=>zgA xs i v fun xs=>zbs n len env xs r else none
def zkY (P:Program) (t:TypeId) (k:V):Bool :=
 match P.underlying t with
 | some (.map kt _)=>match P.underlying kt with
  | some kd=>xP kd k
  | none=>false
 | _=>false
def z8 (P:Program) (t:TypeId) (x:V) (i:Int):Option V :=
 match P.underlying t with
 | some (.array len e)=>match qc P e with
  | none=>none
  | some n=>match x with
   | .ptr b off=>if 0<=i/\i<len then some (.ptr b (off+i.toNat * n)) else none
   | .gptr g off=>if 0<=i/\i<len then some (.gptr g (off+i.toNat * n)) else none
   | .ulp b u k=>if 0<=i/\i<len then some (.ulp b u (k+i.toNat * n)) else none
   | .vp cs=>if 0<=i/\i<len then some (.vp (cs.drop (i.toNat * n))) else none
   | _=>none
 | some (.slice e)=>match qc P e with
  | none=>none
  | some n=>match x with
   | .sl sz xs _=>if Nat.beq n sz then (if i<0 then none else match nth xs i.toNat with
    | some x=>some (.vp x.cells)
    | none=>none) else none
   | .sr b off len=>if 0<=i/\i<len then some (.ptr b (off+i.toNat * n)) else none
   | .ulr b u len=>if 0<=i/\i<len then some (.ulp b u (i.toNat * n)) else none
   | _=>none
 | _=>none
def zcd (P:Program) (t:TypeId) (x:V) (i:Int):Option V :=
 match P.underlying t with
 | some (.array len e)=>match qc P e with
  | none=>none
  | some n=>match x with
   | .agg cs=>if 0<=i/\i<len then (jU P e cs (i.toNat * n)).map clr else none
   | _=>none
 | some .string=>match x with
  | .str l=>if i<0 then none else match nth l i.toNat with
   | some b=>some (.int .u8 b)
   | none=>none
  | _=>none
 | _=>none
def derefA:V->Option V
 | .ptr b o=>some (.ptr b o)
 | .gptr b o=>some (.gptr b o)
 | .ulp b u k=>some (.ulp b u k)
 | .vp cs=>some (.vp cs)
 | .obj k=>some (.obj k)
 | .fn (.func f) a c=>some (.fn (.func f) a c)
 | .ifc t v=>some (.ifc t v)
 | _=>none
def kV (P:Program) (t:TypeId):Bool :=
 match P.underlying t with
 | none=>true
 | some (.interface _)=>true
 | _=>false
def zdr (H:Hp):V->Option (List (V×V))
 | .nilm=>some []
 | .map b=>match H.get b with
  | some (.map es)=>some es
  | _=>none
 | _=>none
def zh0 (P:Program) (e:TypeId) (k:V) (es:List (V×V)):Option (V×Bool) :=
 match zeH k es with
 | some (some v)=>some (v,true)
 | some none=>(qi P e).map (·,false)
 | none=>none
def qj (P:Program) (gl:Nat->Nat->Option V) (o:Oper) (env:List V) (H:Hp):Option V:=do
 let ρ:=peek env
 match o.op with
 | .move x=>ρ x
 | .pick c a b=>do
  let .bool t <- ρ c|none
  match t with
  | true=>ρ a
  | false=>ρ b
 | .build t parts=>jE P t parts env
 | .buildSlice t len parts=>do
  let .slice e <- P.underlying t|none
  let n <- qc P e
  let z <- qi P e
  if Nat.beq n 0 || Nat.blt 16777216 (len * n) || !Nat.beq z.cells.length n || !okC z then none else
  let xs <- zbs n len env (List.replicate len z) parts.toList
  some (.sl n xs (.yes e))
 | .load t a=>do
  let v <- zJ P H gl t (<- ρ a)
  some (clr v)
 | .nilCheck x=>do
  derefA (<- ρ x)
 | .binOp op t x y _=>do
  let u <- ρ x
  let v <- ρ y
  if jN P op t x y u v then w8 P op t u v else none
 | .unOp op _ x=>do unA op (<- ρ x)
 | .convert a b x=>do yT P a b (<- ρ x)
 | .makeInterface t x=>do
  let v <- ρ x
  if kV P t then none else some (.ifc t v)
 | .makeFunc fn first cap=>do some (.fn fn (<- peeks env first.toList) (<- peeks env cap.toList))
 | .slice t x lo hi mx=>do
  if mx.isSome then none else
  let lo' <- peekO env lo
  let hi' <- peekO env hi
  xq P t (<- ρ x) lo' hi'
 | .fieldAddr t x f=>do
  let .struct fs <- P.underlying t|none
  let fd <- fs[f]?
  if Nat.beq (<- qc P fd.type) 0 then none else
  match <- ρ x with
  | .ptr b off=>some (.ptr b (off+fd.offset))
  | .gptr g off=>some (.gptr g (off+fd.offset))
  | .ulp b u k=>some (.ulp b u (k+fd.offset))
  | .vp cs=>some (.vp (cs.drop fd.offset))
  | _=>none
 | .field t x f=>do
  let .struct fs <- P.underlying t|none
  let fd <- fs[f]?
  let .agg cs <- ρ x|none
  (jU P fd.type cs fd.offset).map clr
 | .indexAddr t x ix=>do
  let .int _ i <- ρ ix|none
  z8 P t (<- ρ x) i
 | .index t x ix=>do
  let .int _ i <- ρ ix|none
  zcd P t (<- ρ x) i
 | .lookup t m k ok=>do
  let .map kt e <- P.underlying t|none
  let kd <- P.underlying kt
  let k <- ρ k
  if !xP kd k then none else
  let es <- zdr H (<- ρ m)
  let (v,f) <- zh0 P e k es
  some (if ok then .tup [clr v,.bool f] else clr v)
 | .typeAssert x _ t ok=>do
  if kV P t then none else
  match <- ρ x with
  | .nili=>if ok then do some (.tup [<- qi P t,.bool false]) else none
  | .ifc u v=>if Nat.beq u t then some (if ok then .tup [clr v,.bool true] else clr v) else if ok then do some (.tup [<- qi P t,.bool false]) else none
  | _=>none
 | .extract x i=>do
  let .tup vs <- ρ x|none
  match nth vs i with
  | some v=>some (clr v)
  | none=>none
 | _=>none
def vY (lk:List (Nat×Nat)) (b:Nat):Nat->Nat->List V->Bool
 | _,0,_=>true
 | _,_,[]=>false
 | off,n+1,c::cs=>(!locked c || lk.any fun p=>Nat.beq p.1 b && Nat.beq p.2 off) && vY lk b (off+1) n cs
def flatV:List V->List V
 | []=>[]
 | v::vs=>v.cells++flatV vs
def uqT (P:Program) (uq:TypeId->Bool) (t:TypeId):Bool :=
 match P.underlying t with
 | some (.slice e)=>uq e
 | _=>false
def vd (P:Program) (a b:TypeId) (x:Operand) (env:List V):Option (V×List V) :=
 match Nat.beq a b,P.underlying a with
 | true,some (.slice e)=>match P.underlying e,take env x with
  | some (.int .u8),some (.sl sz (y::ys) (.yes _),env)=>some (.sl sz (y::ys) .no,env)
  | _,_=>none
 | _,_=>none
def Cx.appendU (cx:Cx) (t:TypeId) (x y:Operand) (env:List V) (H:Hp) (lk:List (Nat×Nat)) (df:List (V×List V)):Option (OR×St):=do
 let .slice e <- cx.P.underlying t|none
 let n <- qc cx.P e
 let i <- cx.P.info? e
 let z <- i.zero
 let ys <- vr cx.P H e (<- peek env y)
 if !Nat.beq z.cells.size n || Nat.beq n 0 then none else
 match <- peek env x with
 | .snil=>match ys with
  | []=>some (.val .snil,⟨env,H,lk,df⟩)
  | _=>if kh ys.length i.bytes then fCs (flatV ys) fun cs=>ww ys.length fun len=>zcE H (.ul 0 n cs e) fun b H=>some (.val (.ulr b 0 len),⟨env,H,lk,df⟩) else none
 | .ulr b u len=>match H.get b with
  | some (.ul ver sz cs e') =>
   if Nat.beq e e' && Nat.beq n sz && Nat.beq ver u && kh (len+ys.length) i.bytes then
    fCs (cs++flatV ys) fun cs=>ww (ver+1) fun u=>ww (len+ys.length) fun len=>zev H b (.ul u sz cs e) (.tup ys) fun H=>some (.val (.ulr b u len),⟨env,H,lk,df⟩)
   else none
  | _=>none
 | _=>none
def Cx.sliceU (cx:Cx) (t:TypeId) (x:Operand) (lo hi:Option Operand) (env:List V) (H:Hp) (lk:List (Nat×Nat)) (df:List (V×List V)):Option (OR×St) :=
 match cx.P.underlying t,peek env x,peekO env lo,peekO env hi with
 | some (.slice e'),some (.ulr b u len),some none,some (some (.int _ h))=>match qc cx.P e',H.get b with
  | some _,some (.ul ver sz cs e) =>
   if Nat.beq ver u && decide (0<=h) && Nat.ble h.toNat len then
    fL (cs.take (h.toNat * sz)) fun cs=>ww (ver+1) fun u=>ww h.toNat fun len=>zev H b (.ul u sz cs e) .nilp fun H=>some (.val (.ulr b u len),⟨env,H,lk,df⟩)
   else none
  | _,_=>none
 | _,_,_,_=>none
def Cx.copyA (cx:Cx) (t:TypeId) (x y:Operand) (env:List V) (H:Hp) (lk:List (Nat×Nat)) (df:List (V×List V)):Option (OR×St):=do
 let .slice e <- cx.P.underlying t|none
 let n <- qc cx.P e
 let ys <- vr cx.P H e (<- peek env y)
 match <- peek env x with
 | .sr b off len=>match H.get b with
  | some (.cells cs ty) =>
   let m:=min len ys.length
   let new:=(flatV (ys.take m)).map clr
   if Nat.beq n 1 && Nat.beq new.length m && Nat.ble (off+m) cs.length && vY lk b off m (cs.drop off) then
    fCs (storeCells cs off new) fun cs=>zev H b (.cells cs ty) (.tup new) fun H=>some (.val (.int .i64 (m:Nat)),⟨env,H,lk,df⟩)
   else none
  | _=>none
 | _=>none
def Cx.op (cx:Cx) (takes:List Tmp) (o:Oper) (env:List V) (H:Hp) (lk:List (Nat×Nat)) (df:List (V×List V)):Option (OR×St) :=
  let P:=cx.P
  let taken:=match o.dst with
    | some d=>takes.any (Nat.beq d)
    | none=>false
  let read (_:Unit):Option (OR×St):=match qj P cx.gl o env H with
    | none=>none
    | some v=>some (.val v,⟨env,H,lk,df⟩)
  match o.op with
  | .move x=>match taken with
    | true=>match take env x with
      | none=>none
      | some (v,env)=>some (.val v,⟨env,H,lk,df⟩)
    | false=>read ()
  | .assign x=>match take env x with
    | none=>none
    | some (v,env)=>some (.val v,⟨env,H,lk,df⟩)
  | .load t a=>match taken with
    | false=>read ()
    | true=>match jG P t,peek env a with
      | some false,some (.ptr b off)=>match H.get b with
        | some (.cells cs ty)=>match nth cs off with
          | some (.sl sz xs (.yes e))=>zgA cs off (.sl sz xs .lock) fun cs=>zev H b (.cells cs ty) .nilp fun H=>some (.val (.sl sz xs (.yes e)),⟨env,H,(b,off)::lk,df⟩)
          | some .snil=>some (.val .snil,⟨env,H,lk,df⟩)
          | some (.ulr c u n)=>some (.val (.ulr c u n),⟨env,H,lk,df⟩)
          | _=>none
        | _=>none
      | _,_=>none
  | .alloc t=>match qi P t with
    | none=>none
    | some z=>if !okC z then none else fV z fun z=>zcE H (.cells z.cells t) fun n H=>some (.val (.ptr n 0),⟨env,H,lk,df⟩)
  | .box t x=>match take env x with
    | none=>none
    | some (v,env)=>if !okC v then none else fV v fun v=>fCs v.laid fun cs=>zcE H (.cells cs t) fun n H=>some (.val (.ptr n 0),⟨env,H,lk,df⟩)
  | .store t a x=>match peek env a with
    | some (.ptr b off)=>match take env x,qc P t,H.get b with
      | some (v,env),some n,some (.cells cs ty) =>
        fV v fun v=>fCs v.laid fun vs =>
          if okC v && Nat.beq vs.length n && Nat.ble (off+n) cs.length && vY lk b off n (cs.drop off) then
            fL (storeCells cs off vs) fun cs=>zev H b (.cells cs ty) v fun H=>some (.skip,⟨env,H,lk,df⟩)
          else none
      | _,_,_=>none
    | some (.ulp b u k)=>match take env x,qc P t,H.get b with
      | some (x,env),some n,some (.ul ver sz cs e) =>
        fV (clr x) fun x=>if Nat.beq ver u && okC x && Nat.beq x.cells.length n && Nat.ble (k+n) cs.length then
          fL (storeCells cs k x.cells) fun cs=>zev H b (.ul ver sz cs e) x fun H=>some (.skip,⟨env,H,lk,df⟩)
        else none
      | _,_,_=>none
    | _=>none
  | .makeMap _ r=>match r with
    | some _=>none
    | none=>zcE H (.map []) fun n H=>some (.val (.map n),⟨env,H,lk,df⟩)
  | .makeSlice t l c=>match P.underlying t,peek env l,peek env c with
    | some (.slice e),some (.int _ l),some (.int _ c)=>match qc P e,P.info? e,qi P e with
      | some n,some i,some z =>
        if Nat.beq n 0 || l<0 || c<l || !kh c.toNat i.bytes || !Nat.beq z.cells.length n || !okC z then none else
        if l=0 then some (.val (.sl n [] (.yes e)),⟨env,H,lk,df⟩) else
        if l=c then fCs (List.replicate l.toNat z.cells).flatten fun cs=>zcE H (.cells cs e) fun n H=>some (.val (.sr n 0 l.toNat),⟨env,H,lk,df⟩) else none
      | _,_,_=>none
    | _,_,_=>none
  | .mapUpdate t m k x|.insert t m k x=>match peek env m,peek env k,peek env x with
    | some (.map b),some k,some x=>if !zkY P t k then none else fV k fun k=>fV x fun x=>match H.get b with
      | some (.map es)=>match zjZ k x es with
        | some es=>fL es fun es=>zev H b (.map es) (.tup [k,x]) fun H=>some (.skip,⟨env,H,lk,df⟩)
        | none=>none
      | _=>none
    | _,_,_=>none
  | .range t x=>match P.underlying t,peek env x with
    | some .string,some (.str l)=>zcE H (.iter l 0) fun n H=>some (.val (.ptr n 0),⟨env,H,lk,df⟩)
    | _,_=>none
  | .next it true=>match peek env it with
    | some (.ptr b 0)=>match H.get b with
      | some (.iter l pos) =>
        if Nat.blt pos l.length then
          let (c,w):=zbr (l.drop pos)
          ww (pos+w) fun q=>zev H b (.iter l q) .nilp fun H=>some (.val (.tup [.bool true,.int .i64 pos,.int .i32 c]),⟨env,H,lk,df⟩)
        else some (.val (.tup [.bool false]),⟨env,H,lk,df⟩)
      | _=>none
    | _=>none
  | .convert a b x=>match vd P a b x env with
    | some (v,env)=>some (.val v,⟨env,H,lk,df⟩)
    | none=>read ()
  | .slice t x lo hi none=>match uqT P cx.uq t with
    | true=>cx.sliceU t x lo hi env H lk df
    | false=>read ()
  | .call c=>match c.callee with
    | .builtin b=>match b,c.args.toList,c.argTypes.toList with
     | .copy,[x,y],t::_=>cx.copyA t x y env H lk df
     | .append,[x,y],[t,u]=>match uqT P cx.uq t with
       | true=>if Nat.beq t u then cx.appendU t x y env H lk df else none
       | false=>match cx.builtin b c.argTypes c.args env H with
        | none=>none
        | some (r,env)=>some (r,⟨env,H,lk,df⟩)
     | _,_,_=>match cx.builtin b c.argTypes c.args env H with
      | none=>none
      | some (r,env)=>some (r,⟨env,H,lk,df⟩)
    | .value f=>match peek env f,peeks env c.args.toList with
      | some f,some args=>match cx.callV f args H with
        | none=>none
        | some (r,H)=>some (r,⟨env,H,lk,df⟩)
      | _,_=>none
    | .invoke r m=>match peek env r,peeks env c.args.toList with
      | some r,some args=>match cx.callV (.fn (.method m) [] []) (r::args) H with
        | none=>none
        | some (r,H)=>some (r,⟨env,H,lk,df⟩)
      | _,_=>none
  | .defer c=>match c.callee with
    | .value f=>match peek env f,peeks env c.args.toList with
      | some (.fn (.func f) first cap),some args=>some (.skip,⟨env,H,lk,(.fn (.func f) first cap,args)::df⟩)
      | _,_=>none
    | _=>none
  | .panic x=>match peek env x with
    | some (.ifc t v)=>some (.pan (.ifc t v),⟨env,H,lk,df⟩)
    | _=>none
  | _=>read ()
def zl (env:List V) (dst:Option Tmp) (v:V):List V :=
 match dst with
 | some d=>env.set d v
 | none=>env
def zds {β:Type} (env:List V) (dst:Option Tmp) (v:V) (k:List V->β):β :=
 match dst with
 | some d=>fV v fun v=>zgA env d v k
 | none=>k env
def zS (ops:Array Oper) (o:Oper) (env:List V):Option Bool :=
 match o.guard with
 | none=>some true
 | some (j,want)=>match (ops[j]?).bind (·.dst) with
  | none=>none
  | some d=>match nth env d with
   | some (.bool b)=>some (b == want)
   | some (.tup _)=>some false
   | _=>none
def Cx.ops (cx:Cx) (all:Array Oper) (takes:List Tmp):List Oper->St->Option (Ex×St)
 | [],s=>some (.normal,s)
 | o::os,⟨env,H,lk,df⟩ =>
  match zS all o env with
  | none=>none
  | some false=>zds env o.dst (.tup []) fun env=>cx.ops all takes os ⟨env,H,lk,df⟩
  | some true=>match cx.op takes o env H lk df with
   | none=>none
   | some (.val v,⟨env,H,lk,df⟩)=>zds env o.dst v fun env=>cx.ops all takes os ⟨env,H,lk,df⟩
   | some (.skip,⟨env,H,lk,df⟩)=>zds env o.dst (.tup []) fun env=>cx.ops all takes os ⟨env,H,lk,df⟩
   | some (.pan v,s)=>some (.pan v,s)
mutual
def V.same:V->V->Bool
 | .bool a,.bool b=>a == b
 | .int k n,.int k' n'=>if k=k' then n == n' else false
 | .str a,.str b=>eqL a b
 | .nilp,.nilp=>true
 | .ptr a b,.ptr c d=>Nat.beq a c && Nat.beq b d
 | .gptr a b,.gptr c d=>Nat.beq a c && Nat.beq b d
 | .obj a,.obj b=>Nat.beq a b
 | .vp a,.vp b=>sames a b
 | .snil,.snil=>true
 | .sl s a o,.sl s' b o'=>Nat.beq s s' && (if o=o' then sames a b else false)
 | .sr a b c,.sr a' b' c'=>Nat.beq a a' && Nat.beq b b' && Nat.beq c c'
 | .nilm,.nilm=>true
 | .map a,.map b=>Nat.beq a b
 | .nilf,.nilf=>true
 | .fn f a c,.fn f' a' c'=>(if f=f' then true else false) && sames a a' && sames c c'
 | .nili,.nili=>true
 | .ifc t v,.ifc t' v'=>Nat.beq t t' && V.same v v'
 | .agg a,.agg b=>sames a b
 | .tup a,.tup b=>sames a b
 | .junk,.junk=>true
 | .ulr a b n,.ulr c d m=>Nat.beq a c && Nat.beq b d && Nat.beq n m
 | .ulp a b e,.ulp c d f=>Nat.beq a c && Nat.beq b d && Nat.beq e f
 | _,_=>false
def sames:List V->List V->Bool
 | [],[]=>true
 | x::xs,y::ys=>V.same x y && sames xs ys
 | _,_=>false
end
def qF (P:Program) (uq:TypeId->Bool) (takes:List Tmp) (o:Oper):Bool :=
 match o.op with
 | .alloc _|.box ..|.store ..|.makeMap ..|.makeSlice ..|.mapUpdate ..|.insert ..|.range ..|.next ..|.defer _|.panic _=>true
 | .load ..=>match o.dst with
  | some d=>takes.any (Nat.beq d)
  | none=>false
 | .slice t _ _ _ none=>uqT P uq t
 | .call c=>match c.callee with
  | .builtin .copy=>true
  | .builtin .append=>match c.argTypes.toList with
   | t::_=>uqT P uq t
   | _=>false
  | .builtin _=>false
  | _=>true
 | _=>false
def wy (P:Program) (uq:TypeId->Bool) (o:Oper):Bool :=
 match o.op with
 | .slice t _ _ _ none=>uqT P uq t
 | .load ..|.lookup ..|.call _=>true
 | _=>false
def jY (takes:List Tmp) (o:Oper):Option Operand :=
 match o.op with
 | .move x=>if (match o.dst with|some d=>takes.any (Nat.beq d)|none=>false) then some x else none
 | .assign x|.box _ x|.store _ _ x=>some x
 | .convert a b x=>if Nat.beq a b then some x else none
 | .call c=>match c.callee with
  | .builtin .append=>c.args.toList.head?
  | _=>none
 | _=>none
def tmpMask:List Operand->Nat
 | []=>0
 | .tmp t::xs=>Nat.lor (Nat.pow 2 t) (tmpMask xs)
 | _::xs=>tmpMask xs
structure Rec where
 idx:Nat
 o:Oper
 m:Nat
 tm:Nat
 lm:Nat
 hp:Bool
 free:Bool
 env:List V
 v:V
structure Cfg where
 D:Nat
 H:Hp
 lk:List (Nat×Nat)
 df:List (V×List V)
def bit (m i:Nat):Bool:=Nat.beq (Nat.mod (Nat.shiftRight m i) 2) 1
def j8 (a b:Nat):Bool:=Nat.beq (Nat.land a b) a
def maskAt:List Rec->Nat->Option Nat
 | [],_=>none
 | r::rs,j=>if Nat.beq r.idx j then some r.m else maskAt rs j
def kx (rs:List Rec):List Edge->Option Nat
 | []=>some 0
 | e::es=>match Region.binds .any e with
  | false=>kx rs es
  | true=>match maskAt rs e.on with
   | none=>none
   | some m=>match kx rs es with
    | none=>none
    | some k=>some (Nat.lor k (Nat.lor m (Nat.pow 2 e.on)))
def Cx.runC (cx:Cx) (takes:List Tmp) (o:Oper) (env:List V) (c:Cfg) (D:Nat):Option (V×Cfg) :=
 match cx.op takes o env c.H c.lk c.df with
 | some (.val v,s)=>some (v,⟨D,s.H,s.lk,s.defers⟩)
 | some (.skip,s)=>some (.tup [],⟨D,s.H,s.lk,s.defers⟩)
 | _=>none
def Cx.valC (cx:Cx) (takes:List Tmp) (o:Oper) (env:List V) (v:V) (c:Cfg):Bool :=
 match cx.runC takes o env c 0 with
 | some (u,_)=>V.same u v
 | none=>false
def sameP:List (V×V)->List (V×V)->Bool
 | [],[]=>true
 | (a,b)::x,(c,d)::y=>V.same a c && V.same b d && sameP x y
 | _,_=>false
def sameBlk:Blk->Blk->Bool
 | .cells a t,.cells b u=>Nat.beq t u && sames a b
 | .map a,.map b=>sameP a b
 | .iter a i,.iter b j=>Nat.beq i j && eqL a b
 | .ul a b c d,.ul a' b' c' d'=>Nat.beq a a' && Nat.beq b b' && Nat.beq d d' && sames c c'
 | _,_=>false
def sameBs:List Blk->List Blk->Bool
 | [],[]=>true
 | a::x,b::y=>sameBlk a b && sameBs x y
 | _,_=>false
def sameNN:List (Nat×Nat)->List (Nat×Nat)->Bool
 | [],[]=>true
 | (a,b)::x,(c,d)::y=>Nat.beq a c && Nat.beq b d && sameNN x y
 | _,_=>false
def sameDf:List (V×List V)->List (V×List V)->Bool
 | [],[]=>true
 | (a,b)::x,(c,d)::y=>V.same a c && sames b d && sameDf x y
 | _,_=>false
def zbt (a b:Cfg):Bool:=sameNN a.lk b.lk && sameDf a.df b.df && sameNN a.H.edges b.H.edges && sameBs a.H.blks b.H.blks
def xr (D:Nat):List Cfg->Option Cfg
 | []=>none
 | c::cs=>if Nat.beq c.D D then some c else xr D cs
def chgM:List Rec->Nat
 | []=>0
 | r::rs=>match r.hp with
  | true=>Nat.lor (Nat.pow 2 r.idx) (chgM rs)
  | false=>chgM rs
def jS {α:Type} (f:α->Bool):List α->Bool
 | []=>true
 | q::qs=>match f q with
  | true=>jS f qs
  | false=>false
def q5 (D:Nat) (q:Rec):List Rec->Bool
 | []=>false
 | c::cs=>(c.hp && bit D c.idx && bit c.m q.idx) || q5 D q cs
def jB (r q:Rec):Bool :=
 match bit r.m q.idx with
 | true=>true
 | false=>Nat.beq (Nat.land q.tm r.lm) 0 && Nat.beq (Nat.land r.tm q.lm) 0
def Cx.runAll (cx:Cx) (takes:List Tmp) (o:Oper) (env:List V) (v:V) (m b:Nat):List Cfg->Option (List Cfg)
 | []=>some []
 | c::cs=>match j8 m c.D with
  | false=>cx.runAll takes o env v m b cs
  | true=>match cx.runC takes o env c (Nat.lor c.D b) with
   | none=>none
   | some (u,c2)=>match V.same u v with
    | false=>none
    | true=>match cx.runAll takes o env v m b cs with
     | none=>none
     | some l=>some (c2::l)
def Cx.newOk (cx:Cx) (takes:List Tmp) (rs:List Rec) (chg:Nat) (r:Rec) (all:List Cfg) (c:Cfg):Bool :=
 jS (fun q=>match j8 (Nat.land q.m chg) c.D with
  | false=>true
  | true=>match q.hp with
   | true=>match bit c.D q.idx with
    | true=>true
    | false=>match cx.runC takes q.o q.env c 0,xr (Nat.lor c.D (Nat.pow 2 q.idx)) all with
     | some (u,c2),some c3=>V.same u q.v && zbt c2 c3
     | _,_=>false
   | false=>q.free || bit r.m q.idx || q5 c.D q rs || cx.valC takes q.o q.env q.v c) rs
def zeI (all:Array Oper) (o:Oper):Nat :=
 match o.guard with
 | none=>0
 | some (j,_)=>match (all[j]?).bind (·.dst) with
  | none=>0
  | some d=>Nat.pow 2 d
def tmM (takes:List Tmp) (o:Oper):Nat :=
 match o.dst with
 | some d=>Nat.lor (Nat.pow 2 d) (tmpMask (match jY takes o with|some x=>[x]|none=>[]))
 | none=>tmpMask (match jY takes o with|some x=>[x]|none=>[])
def lkM (all:Array Oper) (o:Oper):Nat:=Nat.lor (tmpMask o.op.operands.toList) (zeI all o)
def Cx.cfgsK (cx:Cx) (takes:List Tmp) (rs:List Rec) (r:Rec) (c0 c1:Cfg) (cs:List Cfg) (k:List Cfg->Option (Ex×St)):Option (Ex×St) :=
 let chg:=chgM rs
 match r.hp with
 | false=>match r.free || jS (fun c=>match j8 (Nat.land r.m chg) c.D with
   | true=>cx.valC takes r.o r.env r.v c
   | false=>true) cs with
  | true=>k (c0::cs)
  | false=>none
 | true=>match cx.runAll takes r.o r.env r.v (Nat.land r.m chg) (Nat.pow 2 r.idx) cs with
  | none=>none
  | some l =>
   let all:=c1::l++c0::cs
   match jS (fun c=>cx.newOk takes rs chg r all c) (c1::l) with
   | true=>k all
   | false=>none
def Cx.opsD (cx:Cx) (all:Array Oper) (takes:List Tmp):Nat->List Rec->List Cfg->List Oper->St->Option (Ex×St)
 | _,_,_,[],s=>some (.normal,s)
 | i,rs,cs,o::os,⟨env,H,lk,df⟩ =>
  match kx rs o.after.toList with
  | none=>none
  | some m=>ww m fun m=>ww (tmM takes o) fun tm=>ww (Nat.lor tm (lkM all o)) fun lm =>
   let next (hp free:Bool) (v:V) (s1:St):Option (Ex×St) :=
    match s1 with
    | ⟨env1,H1,lk1,df1⟩=>fV v fun v=>zds env1 o.dst v fun env1 =>
     match jS (jB ⟨i,o,m,tm,lm,hp,free,env,v⟩) rs,cs with
     | true,c0::cs=>cx.cfgsK takes rs ⟨i,o,m,tm,lm,hp,free,env,v⟩ c0 ⟨Nat.lor c0.D (Nat.pow 2 i),H1,lk1,df1⟩ cs fun cs =>
      cx.opsD all takes (i+1) (⟨i,o,m,tm,lm,hp,free,env,v⟩::rs) cs os ⟨env1,H1,lk1,df1⟩
     | _,_=>none
   match zS all o env with
   | none=>none
   | some false=>next false true (.tup []) ⟨env,H,lk,df⟩
   | some true=>match cx.op takes o env H lk df with
    | none=>none
    | some (.val v,s1)=>next (qF cx.P cx.uq takes o) (!wy cx.P cx.uq o) v s1
    | some (.skip,s1)=>next (qF cx.P cx.uq takes o) false (.tup []) s1
    | some (.pan _,_)=>none
def Cx.draw (cx:Cx) (ops:Array Oper):St->Option (Ex×St)
 | ⟨env,H,_,df⟩=>cx.opsD ops (wx ops) 0 [] [⟨0,H,[],df⟩] ops.toList ⟨env,H,[],df⟩
def yq (step:St->Option (Ex×St)):Nat->St->Option (Ex×St)
 | 0,_=>none
 | n+1,s=>match step s with
  | none=>none
  | some (.normal,s)=>yq step n s
  | some (e,s)=>some (e,s)
def zcF (o:Oper):Bool:=match o.op with|.defer _=>false|_=>true
def calm:Code->Bool
 | .region _ ops _=>ops.toList.all zcF
 | .seq x y|.cond _ x y=>calm x && calm y
 | .block _ c|.loop c=>calm c
 | .scope _=>false
 | .rangeFunc _ _ _ _=>false
 | _=>true
def Blk.isC:Blk->Bool
 | .cells _ _|.ul _ _ _ _=>true
 | _=>false
def yU (f:FuncId) (back:Bool) (t:TypeId):TypeId:=1099511627776+2 * (f * 1048576+t)+(if back then 1 else 0)
def isAggV:V->Bool
 | .agg _=>true
 | _=>false
def ji (back:Bool) (xs:List V):List (List V):=if back then (List.range xs.length).map fun k=>[V.int .i64 ((xs.length - 1 - k:Nat):Int),(nth xs (xs.length - 1 - k)).getD .nilp] else xs.map fun x=>[x]
def Cx.itOf (cx:Cx) (f:V) (H:Hp):Option (Nat×TypeId×Option (Nat×List V)×Bool):=match f with
 | .fn (.func gf) [] [.ptr b 0]=>match H.get b with
  | some (.cells [lv] ty)=>match cx.P.underlying ty with
   | some (.slice e)=>match qc cx.P e,jG cx.P e with
    | some sz,some ag =>
     let back:=cx.uq (yU gf true ty)
     if !(back || cx.uq (yU gf false ty)) || Nat.beq sz 0 || !Nat.blt ty 1048576 then none else
     match lv with
     | .snil=>some (b,ty,none,back)
     | .sl sz' xs .no=>if Nat.beq sz sz' && xs.all (fun x=>isAggV x == ag) && Nat.ble xs.length 140737488355328 then some (b,ty,some (sz',xs),back) else none
     | _=>none
    | _,_=>none
   | _=>none
  | _=>none
 | _=>none
def lockBox (b:Nat) (ty:TypeId) (sz:Nat) (xs:List V) (bs:List Blk):List Blk:=bs.set b (.cells [.sl sz xs .lock] ty)
def freeBox (b:Nat) (H:Hp):Option Hp:=match nth H.blks b with
 | some (.cells [.sl sz xs .lock] ty)=>some ⟨H.blks.set b (.cells [.sl sz xs .no] ty),H.edges⟩
 | _=>none
def Blk.isCells:Blk->Bool
 | .cells _ _=>true
 | _=>false
def jm (n0:Nat) (bs:List Blk):Bool:=(bs.drop n0).all Blk.isCells
def vZ (asg:List V->List Blk->Option (Ex×St)) (bd:List V->List Blk->Option (Ex×St)) (ok:List Blk->Bool):List (List V)->Hp->Option (Ex×Hp)
 | [],H=>some (.normal,H)
 | x::xs,⟨bs,es⟩=>match asg x bs with
  | some (.normal,⟨e,⟨bs1,es1⟩,_,[]⟩)=>if !ok bs1 then none else fL (e.map clr) fun e=>match bd e bs1 with
   | some (.normal,⟨_,⟨bs2,es2⟩,_,[]⟩)=>if !ok bs2 then none else vZ asg bd ok xs ⟨bs2,es2++(es1++es)⟩
   | some (.ret,⟨_,⟨bs2,es2⟩,_,[]⟩)=>if !ok bs2 then none else some (.ret,⟨bs2,es2++(es1++es)⟩)
   | some (.exit i,⟨_,⟨bs2,es2⟩,_,[]⟩)=>if !ok bs2 then none else some (.exit i,⟨bs2,es2++(es1++es)⟩)
   | _=>none
  | _=>none
def xQ (env:List V) (ps:List Tmp) (xs:List V):List V:=(ps.zip xs).foldl (fun e p=>e.set p.1 (clr p.2)) env
def Cx.code (cx:Cx) (n:Nat):Code->St->Option (Ex×St)
 | .skip,s=>some (.normal,s)
 | .label _,s=>some (.normal,s)
 | .region _ ops false,⟨env,H,_,df⟩=>cx.ops ops (wx ops) ops.toList ⟨env,H,[],df⟩
 | .region _ ops true,s=>cx.draw ops s
 | .seq a b,s=>match cx.code n a s with
  | none=>none
  | some (.normal,s)=>cx.code n b s
  | some (e,s)=>some (e,s)
 | .cond c a b,s=>match peek s.env c with
  | some (.bool true)=>cx.code n a s
  | some (.bool false)=>cx.code n b s
  | _=>none
 | .block id c,s=>match cx.code n c s with
  | none=>none
  | some (.exit i,s)=>some (if Nat.beq i id then .normal else .exit i,s)
  | some (e,s)=>some (e,s)
 | .loop c,s=>yq (cx.code n c) n s
 | .exit id,s=>some (.exit id,s)
 | .ret,s=>some (.ret,s)
 | .scope c,s=>match cx.code n c s with
  | none=>none
  | some (.goto _,_)=>none
  | some (e,s)=>some (e,s)
 | .rangeFunc f ps as bd,⟨env,H,_,df⟩=>match peek env f with
  | none=>none
  | some fv=>match cx.itOf fv H with
   | none=>none
   | some (b,ty,lv,back) =>
    if !(calm as && calm bd && Nat.beq ps.size (if back then 2 else 1)) then none else
    fL (env.map clr) fun env0=>match lv with
    | none=>some (.normal,⟨env0,H,[],(.nilp,[])::df⟩)
    | some (sz,ys)=>match H with
     | ⟨bs,es⟩=>match vZ (fun x bs=>cx.code n as ⟨xQ env0 ps.toList x,⟨bs,[]⟩,[],[]⟩) (fun e bs=>cx.code n bd ⟨e,⟨bs,[]⟩,[],[]⟩) (jm bs.length) (ji back ys) ⟨lockBox b ty sz ys bs,es⟩ with
      | none=>none
      | some (ex,H)=>match freeBox b H with
       | none=>none
       | some H=>some (ex,⟨env0,H,[],(.nilp,[])::df⟩)
 | _,_=>none
def zM (P:Program) (H:Hp) (env:List V):List ResultVar->Option (List V)
 | []=>some []
 | .tmp t::r=>match nth env t,zM P H env r with
  | some v,some vs=>some (v::vs)
  | _,_=>none
 | .cell a t::r=>match nth env a with
  | some p=>match zJ P H (fun _ _=>none) t p,zM P H env r with
   | some v,some vs=>some (clr v::vs)
   | _,_=>none
  | none=>none
def tupOf:List V->V
 | [v]=>v
 | vs=>.tup (vs.map clr)
def zbu {β:Type} (n0:Nat) (es:List (Nat×Nat)) (top:Nat) (H:Hp) (k:Hp->β):β :=
 match H with
 | ⟨bs,new⟩ =>
  if Nat.ble top n0 && new.all (fun e=>Nat.ble n0 e.1 || Nat.ble e.2 n0) then
   fL (bs.take n0) fun bs=>fL (new.filter (fun e=>Nat.blt e.1 n0)) fun new=>k ⟨bs,new++es⟩
  else k ⟨bs,new++es⟩
def zod (o:Oper):Bool :=
 match o.op with
 | .call c=>match c.callee with
  | .builtin .recover=>true
  | _=>false
 | _=>false
def Cx.opsS (cx:Cx) (pnc:Option V) (all:Array Oper) (takes:List Tmp):List Oper->Bool->St->Option (Ex×Bool×St)
 | [],r,s=>some (.normal,r,s)
 | o::os,r,⟨env,H,lk,df⟩ =>
  match zS all o env with
  | none=>none
  | some false=>zds env o.dst (.tup []) fun env=>cx.opsS pnc all takes os r ⟨env,H,lk,df⟩
  | some true=>match zod o with
   | true=>match pnc,r with
    | some v,false=>zds env o.dst (clr v) fun env=>cx.opsS pnc all takes os true ⟨env,H,lk,df⟩
    | _,_=>zds env o.dst .nili fun env=>cx.opsS pnc all takes os r ⟨env,H,lk,df⟩
   | false=>match cx.op takes o env H lk df with
    | none=>none
    | some (.val v,⟨env,H,lk,df⟩)=>zds env o.dst v fun env=>cx.opsS pnc all takes os r ⟨env,H,lk,df⟩
    | some (.skip,⟨env,H,lk,df⟩)=>zds env o.dst (.tup []) fun env=>cx.opsS pnc all takes os r ⟨env,H,lk,df⟩
    | some (.pan v,s)=>some (.pan v,r,s)
def Cx.codeS (cx:Cx) (n:Nat) (pnc:Option V):Code->Bool->St->Option (Ex×Bool×St)
 | .seq a b,r,s=>match cx.codeS n pnc a r s with
  | none=>none
  | some (.normal,r,s)=>cx.codeS n pnc b r s
  | some x=>some x
 | .cond c a b,r,s=>match peek s.env c with
  | some (.bool true)=>cx.codeS n pnc a r s
  | some (.bool false)=>cx.codeS n pnc b r s
  | _=>none
 | .region _ ops false,r,⟨env,H,_,df⟩=>cx.opsS pnc ops (wx ops) ops.toList r ⟨env,H,[],df⟩
 | c,r,s=>match cx.code n c s with
  | none=>none
  | some (e,s)=>some (e,r,s)
def zdt (P:Program) (gl:Nat->Nat->Option V) (uq:TypeId->Bool) (call:FuncId->List V->Hp->Option (Out×Hp)) (n:Nat) (pnc:Option V) (f:FuncId) (args:List V) (H:Hp):Option (Bool×Hp) :=
 match H with
 | ⟨bs,es⟩ =>
  match P.funcs[f]? with
  | none=>none
  | some fn=>match fn.body with
   | none=>none
   | some body =>
    ww bs.length fun n0 =>
    fL (args++List.replicate (fn.ntmps - args.length) (.tup [])) fun env =>
    match Cx.codeS { P,gl,call,uq } n pnc body false ⟨env,⟨bs,[]⟩,[],[]⟩ with
    | some (.normal,r,⟨env,H,_,[]⟩)|some (.ret,r,⟨env,H,_,[]⟩)=>match zM P H env fn.results.toList with
     | none=>none
     | some _=>zbu n0 es 0 H fun H=>some (r,H)
    | _=>none
def dropMarks:List (V×List V)->List (V×List V)
 | (.nilp,[])::ds=>dropMarks ds
 | ds=>ds
def wc (call:Option V->FuncId->List V->Hp->Option (Bool×Hp)):Option V->List (V×List V)->Hp->Option (Option V×Hp)
 | pnc,[],H=>some (pnc,H)
 | pnc,(.fn (.func f) first cap,args)::ds,H=>fL ((first++args++cap).map clr) fun args=>match call pnc f args H with
  | none=>none
  | some (true,H)=>wc call none ds H
  | some (false,H)=>wc call pnc ds H
 | _,_,_=>none
def yV (call:Option V->FuncId->List V->Hp->Option (Bool×Hp)) (pnc:Option V) (ds:List (V×List V)) (H:Hp):Option (Option V×Hp):=wc call pnc (dropMarks ds) H
def endOf:Ex->Option (Option V)
 | .normal|.ret=>some none
 | .pan v=>some (some v)
 | _=>none
structure Gl where
 g:Nat->Nat->Option V
 hk:FuncId->List V->Option V:=fun _ _=>none
 uq:TypeId->Bool:=fun _=>false
 hk2:Nat->FuncId->List V->Hp->Option (Out×Hp):=fun _ _ _ _=>none
instance : CoeFun Gl (fun _=>Nat->Nat->Option V):=⟨Gl.g⟩
instance : Coe Gl (Nat->Nat->Option V):=⟨Gl.g⟩
def zx (P:Program) (gl:Gl):Nat->FuncId->List V->Hp->Option (Out×Hp)
 | 0,_,_,_=>none
 | n+1,f,args,⟨bs,es⟩ =>
  match gl.hk f args with
  | some v=>some (.ret v,⟨bs,es⟩)
  | none =>
  match gl.hk2 n f args ⟨bs,es⟩ with
  | some r=>some r
  | none =>
  match P.funcs[f]? with
  | none=>none
  | some fn=>match fn.body with
   | none=>none
   | some body =>
    ww bs.length fun n0 =>
    fL (args++List.replicate (fn.ntmps - args.length) (.tup [])) fun env =>
    match Cx.code { P,gl:=gl.g,call:=zx P gl n,uq:=gl.uq } n body ⟨env,⟨bs,[]⟩,[],[]⟩ with
    | none=>none
    | some (ex,⟨env,H,_,df⟩)=>match endOf ex with
     | none=>none
     | some pnc=>match yV (zdt P gl.g gl.uq (zx P gl n) n) pnc df H with
      | none=>none
      | some (some v,H)=>zbu n0 es v.top H fun H=>some (.pan v,H)
      | some (none,H)=>match zM P H env fn.results.toList with
       | none=>none
       | some vs=>fV (tupOf vs) fun v=>zbu n0 es v.top H fun H=>some (.ret v,H)
end Go.Vm
namespace Go.Vm
open Go
inductive Loc where
 |slot (d t:Nat)
 |cell (b off:Nat)
 |ret
 deriving DecidableEq
structure Ob where
 adr:Nat->Addr
 lo:Nat->Prop
instance : CoeFun Ob (fun _=>Nat->Addr):=⟨Ob.adr⟩
structure Gh where
 M:Nat->Nat->Option Value
 blk:Nat->Nat
 obj:Ob
 own:Nat->Option Loc
 lk:Nat->Nat->Value
 hdr:Nat->Nat->Option Value
abbrev V.one (v:V):Bool:=oneV v
theorem zq {α:Type}:∀ (l:List α) (n:Nat),nth l n=l[n]?
 | [],_=>by simp [nth]
 | _::_,0=>by simp [nth]
 | _::xs,n+1=>by simp [nth,zq xs n]
section force
variable {α β:Type}
theorem qP (n:Nat) (k:Nat->β):ww n k=k n:=by cases n<;>rfl
theorem zmV (n:Int) (k:Int->β):zot n k=k n:=by cases n<;>simp [zot,qP]
theorem fNats_eq:∀ (l:List Nat) (k:List Nat->β),ziJ l k=k l
 | [],_=>rfl
 | x::xs,k=>by simp [ziJ,qP,fNats_eq xs]
theorem fL_eq:∀ (l:List α) (k:List α->β),fL l k=k l
 | [],_=>rfl
 | x::xs,k=>by simp [fL,fL_eq xs]
theorem zoe (v:V) (k:V->β):fC v k=k v:=by
 unfold fC;split<;>simp [zmV,fNats_eq,qP,fL_eq]
theorem fCs_eq:∀ (l:List V) (k:List V->β),fCs l k=k l
 | [],_=>rfl
 | x::xs,k=>by simp [fCs,zoe,fCs_eq xs]
theorem zO (v:V) (k:V->β):fV v k=k v:=by
 unfold fV;split<;>simp [fCs_eq,zoe]
theorem fSet_eq:∀ (l:List α) (n:Nat) (v:α) (k:List α->β),zgA l n v k=k (l.set n v)
 | [],_,_,_=>rfl
 | _::_,0,_,_=>rfl
 | x::xs,n+1,v,k=>by simp [zgA,fSet_eq xs]
theorem qy (H:Hp) (b:Blk) (k:Nat->Hp->β):zcE H b k=k H.blks.length (H.push b):=by
 cases H;simp [zcE,qP,fL_eq,Hp.push]
theorem q7 (H:Hp) (b:Nat) (x:Blk) (v:V) (k:Hp->β):zev H b x v k=k ((H.set b x).edge b v):=by
 cases H;simp only [zev,fSet_eq,qP,Hp.set,Hp.edge];split<;>rfl
theorem q8 (env:List V) (dst:Option Tmp) (v:V) (k:List V->β):zds env dst v k=k (zl env dst v):=by
 cases dst<;>simp [zds,zl,zO,fSet_eq]
end force
def zV (xs:List V):List V:=xs.flatMap V.cells
def bytes (s:List Nat):ByteArray:=⟨(s.map UInt8.ofNat).toArray⟩
inductive RelV (g:Gh):V->Value->Prop where
 |bool (b:Bool):RelV g (.bool b) (.bool b)
 |int (k:IntKind) (n:Int):RelV g (.int k n) (.int k n)
 |str {s:List Nat}:(∀ b:Nat,b∈s->b<256)->RelV g (.str s) (.string (bytes s))
 |nilp:RelV g .nilp (.pointer none)
 |ptr (b off:Nat):RelV g (.ptr b off) (.pointer (some ⟨g.blk b,off,none⟩))
 |gptr (k off:Nat):RelV g (.gptr k off) (.pointer (some ⟨k,off,none⟩))
 |obj (k:Nat):RelV g (.obj k) (.pointer (some (g.obj k)))
 |vp {cs:List V} {c o:Nat} (f:Nat->Value):(∀ (j:Nat) (x:V),cs[j]?=some x->x.one=true)->(∀ (j:Nat) (x:V),cs[j]?=some x->g.M c (o+j)=some (f j))->(∀ (j:Nat) (x:V),cs[j]?=some x->RelV g x (f j)) ->
   RelV g (.vp cs) (.pointer (some ⟨c,o,none⟩))
 |snil:RelV g .snil (.slice none 0 0)
 |sl {sz:Nat} {xs:List V} {ow:Own} {a:Option Addr} {cap c o:Nat} (f:Nat->Value):(∀ x:V,x∈xs->x.cells.length=sz)->xs.length<=cap->(xs≠[]->a=some ⟨c,o,none⟩) ->
   (∀ (j:Nat) (x:V),(zV xs)[j]?=some x->x.one=true)->(∀ (j:Nat) (x:V),(zV xs)[j]?=some x->g.M c (o+j)=some (f j))->(∀ (j:Nat) (x:V),(zV xs)[j]?=some x->RelV g x (f j)) ->
   RelV g (.sl sz xs ow) (.slice a xs.length cap)
 |sr {b off len cap:Nat}:len<=cap->RelV g (.sr b off len) (.slice (some ⟨g.blk b,off,none⟩) len cap)
 |nilm:RelV g .nilm (.map none)
 |map (b:Nat):RelV g (.map b) (.map (some (g.blk b)))
 |nilf:RelV g .nilf .nilFunc
 |fn {f:Fn} {as cs:List V} {fa fc:Array Value}:as.length=fa.size->cs.length=fc.size->(∀ (j:Nat) (x:V) (v:Value),as[j]?=some x->fa[j]?=some v->RelV g x v) ->
   (∀ (j:Nat) (x:V) (v:Value),cs[j]?=some x->fc[j]?=some v->RelV g x v)->RelV g (.fn f as cs) (.func f fa fc)
 |nili:RelV g .nili .nilIface
 |ifc {t:TypeId} {v:V} {cv:Value}:RelV g v cv->RelV g (.ifc t v) (.iface t cv)
 |agg {cs:List V} {arr:Array Value}:cs.length=arr.size->(∀ (j:Nat) (x:V),cs[j]?=some x->x.one=true)->(∀ (j:Nat) (x:V) (v:Value),cs[j]?=some x->arr[j]?=some v->RelV g x v)->RelV g (.agg cs) (.agg arr)
 |tup {cs:List V} {arr:Array Value}:cs.length=arr.size->(∀ (j:Nat) (x:V) (v:Value),cs[j]?=some x->arr[j]?=some v->RelV g x v)->RelV g (.tup cs) (.tuple arr)
 |ulr {b u len cap c o:Nat}:g.hdr b u=some (.slice (some ⟨c,o,none⟩) len cap)->RelV g (.ulr b u len) (.slice (some ⟨c,o,none⟩) len cap)
 |ulp {b u len cap c o:Nat} (k:Nat):g.hdr b u=some (.slice (some ⟨c,o,none⟩) len cap)->RelV g (.ulp b u k) (.pointer (some ⟨c,o+k,none⟩))
 |junk (v:Value):RelV g .junk v
theorem zo {x:V}:∀ {cs:List V},x∈cs->x.top<=tops cs
 | c::cs,h=>by
  simp only [tops];rcases zAO.1 h with rfl|h
  ·exact zBV _ _
  ·exact zAP (zo h) (zBg _ _)
theorem qS {n:Nat}:∀ {cs:List V},(∀ x∈cs,x.top<=n)->tops cs<=n
 | [],_=>zAU _
 | c::cs,h=>by
  simp only [tops];exact zBP.2 ⟨h c (zAL ..),qS fun x hx=>h x (zAE _ hx)⟩
theorem zay {x y:V} (h:y∈x.cells):y.top<=x.top:=by
 cases x<;>simp only [V.cells,zBh] at h<;>try (subst h;exact zAR _)
 simp only [V.top];exact zo h
theorem zdu {xs:List V} {y:V} (h:y∈zV xs):y.top<=tops xs:=by
 obtain ⟨x,hx,hy⟩:=List.mem_flatMap.1 h;exact zAP (zay hy) (zo hx)
theorem top_clr (v:V):(clr v).top=v.top:=by
 cases v<;>rfl
theorem jK:∀ (cs:List V),tops (cs.map clr)=tops cs
 | []=>rfl
 | c::cs=>by simp [tops,top_clr,jK cs]
theorem zfu (v:V):(clr v).one=v.one:=by cases v<;>rfl
theorem RelV.clr {g:Gh} {v:V} {cv:Value} (h:RelV g v cv):RelV g (clr v) cv:=by
 cases h<;>first
  |constructor<;>assumption
  |(rename_i f h1 h2 h3 h4 h5 h6;exact .sl f h1 h2 h3 h4 h5 h6)
  |(rename_i f h1 h2 h3;exact .vp f h1 h2 h3)
structure Gh.Le (n:Nat) (g g':Gh):Prop where
 M:∀ c o v,g.M c o=some v->g'.M c o=some v
 blk:∀ b,b<n->g'.blk b=g.blk b
 obj:g'.obj=g.obj
 hdr:∀ b u v,b<n->g.hdr b u=some v->g'.hdr b u=some v
theorem Gh.Le.refl (n:Nat) (g:Gh):Gh.Le n g g:=⟨fun _ _ _ h=>h,fun _ _=>rfl,rfl,fun _ _ _ _ h=>h⟩
theorem Gh.Le.trans {n:Nat} {a b c:Gh} (h:Gh.Le n a b) (k:Gh.Le n b c):Gh.Le n a c :=
 ⟨fun _ _ _ e=>k.M _ _ _ (h.M _ _ _ e),fun i hi=>(k.blk i hi).trans (h.blk i hi),k.obj.trans h.obj,fun b u v hb e=>k.hdr b u v hb (h.hdr b u v hb e)⟩
theorem Gh.Le.mono {n m:Nat} {a b:Gh} (h:Gh.Le n a b) (hm:m<=n):Gh.Le m a b:=⟨h.M,fun i hi=>h.blk i (zAo hi hm),h.obj,fun b u v hb e=>h.hdr b u v (zAo hb hm) e⟩
theorem zH {α:Type} {l:List α} {j:Nat} {x:α} (h:l[j]?=some x):x∈l:=zAh h
theorem RelV.le {n:Nat} {g g':Gh} (hg:Gh.Le n g g') {v:V} {cv:Value} (h:RelV g v cv):v.top<=n->RelV g' v cv:=by
 induction h with
 | bool b=>intro _;exact .bool b
 | int k m=>intro _;exact .int k m
 | str h=>intro _;exact .str h
 | nilp=>intro _;exact .nilp
 | ptr b off=>intro ht;simp only [V.top] at ht;rw [<- hg.blk b (by omega)];exact .ptr b off
 | gptr k off=>intro _;exact .gptr k off
 | obj k=>intro _;rw [<- hg.obj];exact .obj k
 | vp f h1 h2 _ ih=>intro ht;exact .vp f h1 (fun j x hx=>hg.M _ _ _ (h2 j x hx)) fun j x hx=>ih j x hx (zAP (zo (zH hx)) ht)
 | snil=>intro _;exact .snil
 | sl f h1 h2 h3 h4 h5 _ ih=>intro ht;exact .sl f h1 h2 h3 h4 (fun j x hx=>hg.M _ _ _ (h5 j x hx)) fun j x hx=>ih j x hx (zAP (zdu (zH hx)) ht)
 | sr hl=>intro ht;simp only [V.top] at ht;rw [<- hg.blk _ (by omega)];exact .sr hl
 | nilm=>intro _;exact .nilm
 | map b=>intro ht;simp only [V.top] at ht;rw [<- hg.blk b (by omega)];exact .map b
 | nilf=>intro _;exact .nilf
 | fn h1 h2 _ _ iha ihc =>
  intro ht;simp only [V.top] at ht;have:=zBP.1 ht;exact .fn h1 h2 (fun j x v hx hv=>iha j x v hx hv (zAP (zo (zH hx)) this.1)) (fun j x v hx hv=>ihc j x v hx hv (zAP (zo (zH hx)) this.2))
 | nili=>intro _;exact .nili
 | ifc _ ih=>intro ht;exact .ifc (ih ht)
 | agg h1 h2 _ ih=>intro ht;exact .agg h1 h2 fun j x v hx hv=>ih j x v hx hv (zAP (zo (zH hx)) ht)
 | tup h1 _ ih=>intro ht;exact .tup h1 fun j x v hx hv=>ih j x v hx hv (zAP (zo (zH hx)) ht)
 | ulr h=>intro ht;simp only [V.top] at ht;exact .ulr (hg.hdr _ _ _ (by omega) h)
 | ulp k h=>intro ht;simp only [V.top] at ht;exact .ulp k (hg.hdr _ _ _ (by omega) h)
 | junk v=>intro _;exact .junk v
theorem RelV.oneCell {g:Gh} {v:V} {cv:Value} (h:RelV g v cv) (h1:v.one=true):cv.oneCell'=true:=by
 cases h<;>first|rfl|(simp [V.one,oneV] at h1)
def OwnAt (g:Gh) (n:Nat) (w:World) (l:Loc) (e sz len:Nat) (cv:Value):Prop :=
 ∃ xs,w.ownsRow 0 e sz cv len xs/\∀ c,cv.ownBlock=some c->g.own c=some l/\(∀ o,len * sz<=o->g.M c o=none)/\(∀ b,b<n->g.blk b≠c)
def OwnV (g:Gh) (n:Nat) (w:World) (l:Loc):V->Value->Prop
 | .sl sz xs (.yes e),cv=>OwnAt g n w l e sz xs.length cv
 | _,_=>True
def zeJ (g:Gh) (b off:Nat):V->Value->Prop
 | .sl _ _ .lock,cv=>cv=g.lk b off
 | _,_=>True
def Blk.top:Blk->Nat
 | .cells cs _=>tops cs
 | .map es=>max (tops (es.map (·.1))) (tops (es.map (·.2)))
 | .iter _ _=>0
 | .ul _ _ cs _=>tops cs
structure UlOk (g:Gh) (n:Nat) (w:World) (b ver sz:Nat) (cs:List V) (e:TypeId) (c len cap:Nat) (vs:List Value):Prop where
 hdr:g.hdr b ver=some (.slice (some ⟨c,0,none⟩) len cap)
 pos:0<sz
 row:w.ownsRow 0 e sz (.slice (some ⟨c,0,none⟩) len cap) len vs
 mine:c=g.blk b\/g.own c=some (.cell b 0)
 M:∀ o,g.M c o=none
 others:∀ b',b'<n->b'≠b->g.blk b'≠c
 len:cs.length=vs.length
 cells:∀ (j:Nat) (x:V) (v:Value),cs[j]?=some x->vs[j]?=some v->x.one=true/\RelV g x v
 fresh:∀ u,ver<u->g.hdr b u=none
def BlkOk (g:Gh) (n:Nat) (w:World) (b:Nat):Blk->Prop
 | .cells cs t=>∃ arr,w.heap[g.blk b]?=some (.cells arr t (0,0))/\cs.length=arr.size /\
   ∀ (j:Nat) (x:V) (v:Value),cs[j]?=some x->arr[j]?=some v->x.one=true/\RelV g x v/\OwnV g n w (.cell b j) x v/\zeJ g b j x v
 | .map es=>∃ en ck,w.heap[g.blk b]?=some (.map en ck)/\es.length=en.size/\∀ (j:Nat) (x:V×V) (me:MapEntry),es[j]?=some x->en[j]?=some me->RelV g x.1 me.key/\RelV g x.2 me.val
 | .iter s pos=>w.heap[g.blk b]?=some (.stringIter (bytes s) pos)/\∀ b:Nat,b∈s->b<256
 | .ul ver sz cs e=>∃ c len cap vs,UlOk g n w b ver sz cs e c len cap vs
structure Wok (g:Gh) (bs:List Blk) (w:World):Prop where
 mem:∀ c o v,g.M c o=some v->w.cell? ⟨c,o,none⟩=some v
 lt:∀ b,b<bs.length->g.blk b<w.heap.size
 inj:∀ b b',b<bs.length->b'<bs.length->g.blk b=g.blk b'->b=b'
 apart:∀ b,b<bs.length->∀ o,g.M (g.blk b) o=none
 ownlt:∀ c l,g.own c=some l->c<w.heap.size
 unowned:∀ b,b<bs.length->g.own (g.blk b)=none
 ok:∀ (b:Nat) (x:Blk),bs[b]?=some x->BlkOk g bs.length w b x
 tops:∀ (b:Nat) (x:Blk),bs[b]?=some x->x.top<=bs.length
 laid:∀ c,g.obj.lo c->(∃ cs t,w.heap[c]?=some (.cells cs t (0,0)))/\g.own c=none/\∀ b,b<bs.length->g.blk b≠c
def Prot (d n:Nat) (g:Gh) (w:World) (c:Nat):Prop :=
 c<w.heap.size/\(∀ b,b<n->g.blk b≠c)/\(g.own c=none\/∃ d' t,g.own c=some (.slot d' t)/\d<d')
def qN (bs:List Blk) (b off:Nat):Prop:=∃ cs t sz xs,bs[b]?=some (.cells cs t)/\cs[off]?=some (.sl sz xs .lock)
structure Fr (d:Nat) (bs:List Blk) (g:Gh) (w:World) (g':Gh) (w':World):Prop where
 le:Gh.Le bs.length g g'
 heap:∀ c,Prot d bs.length g w c->w'.heap[c]?=w.heap[c]?
 own:∀ c,Prot d bs.length g w c->g'.own c=g.own c
 M:∀ c,Prot d bs.length g w c->∀ o,g'.M c o=g.M c o
 size:w.heap.size<=w'.heap.size
 lk:∀ b off,qN bs b off->g'.lk b off=g.lk b off
 os:w'.os=w.os
 tape:w'.tape=w.tape
 output:w'.output=w.output
theorem Fr.refl (d:Nat) (bs:List Blk) (g:Gh) (w:World):Fr d bs g w g w :=
 ⟨.refl _ _,fun _ _=>rfl,fun _ _=>rfl,fun _ _ _=>rfl,zAR _,fun _ _ _=>rfl,rfl,rfl,rfl⟩
theorem Fr.trans {d:Nat} {bs0 bs:List Blk} {g0 g g':Gh} {w0 w w':World} (h1:Fr d bs0 g0 w0 g w) (hlen:bs0.length<=bs.length)
  (hnew:∀ b,bs0.length<=b->b<bs.length->w0.heap.size<=g.blk b) (hlk:∀ b off,qN bs0 b off->qN bs b off) (h2:Fr d bs g w g' w'):Fr d bs0 g0 w0 g' w':=by
 have hp:∀ c,Prot d bs0.length g0 w0 c->Prot d bs.length g w c:=fun c hc=>by
  refine ⟨zAo hc.1 h1.size,fun b hb e=>?_,by rw [h1.own c hc];exact hc.2.2⟩
  rcases zAg b bs0.length with hlt|hge
  ·exact hc.2.1 b hlt ((h1.le.blk b hlt).symm.trans e)
  ·have:=hnew b hge hb;have:=hc.1;omega
 exact ⟨h1.le.trans (h2.le.mono hlen),fun c hc=>(h2.heap c (hp c hc)).trans (h1.heap c hc),fun c hc=>(h2.own c (hp c hc)).trans (h1.own c hc),
  fun c hc o=>(h2.M c (hp c hc) o).trans (h1.M c hc o),zAP h1.size h2.size,fun b off hl=>(h2.lk b off (hlk b off hl)).trans (h1.lk b off hl),
  h2.os.trans h1.os,h2.tape.trans h1.tape,h2.output.trans h1.output⟩
def ziK (bs0:List Blk) (H:Hp):Prop :=
 ∀ (b:Nat) (x:Blk),H.blks[b]?=some x->x.top<=b+1\/(∃ m,(b,m)∈H.edges/\x.top<=m)\/∃ y:Blk,bs0[b]?=some y/\x.top<=y.top
structure Pend where
 t:Nat
 v:V
 cv:Value
 at_:Option (Nat×Nat)
structure Base where
 d:Nat
 bs:List Blk
 g:Gh
 w:World
 pend:List Pend
def zdv (B:Base) (b off:Nat):Prop:=qN B.bs b off\/∃ q∈B.pend,q.at_=some (b,off)
def FnRel (g:Gh) (n:Nat) (x:V×List V) (d:Deferred):Prop :=
 ∃ (f:FuncId) (as cs:List V) (fc:Array Value),x.1=.fn (.func f) as cs/\d.target=.fn (.func f) fc/\(as++x.2).length=d.args.size/\cs.length=fc.size/\(∀ (j:Nat) (y:V) (v:Value),(as++x.2)[j]?=some y->d.args[j]?=some v->RelV g y v) /\
  (∀ (j:Nat) (y:V) (v:Value),cs[j]?=some y->fc[j]?=some v->RelV g y v)/\tops (as++x.2)<=n/\tops cs<=n
def DefRel (g:Gh) (n:Nat) (x:V×List V) (d:Deferred):Prop:=FnRel g n x d\/(x=(.nilp,[])/\∃ D,d={ target:=.collected D,args:=#[] })
def zqs (g:Gh) (n:Nat) (w:World) (D:Nat):Prop:=w.heap[D]?=some (.deferred (some []))/\(∀ b,b<n->g.blk b≠D)/\g.own D=none
structure Rel (B:Base) (g:Gh) (s:St) (a:Act) (w:World):Prop where
 wok:Wok g s.H.blks w
 len:s.env.length=a.tmps.size
 env:∀ (t:Nat) (x:V) (v:Value),s.env[t]?=some x->a.tmps[t]?=some v->RelV g x v/\OwnV g s.H.blks.length w (.slot B.d t) x v
 envTop:∀ (t:Nat) (x:V),s.env[t]?=some x->x.top<=s.H.blks.length
 n0:B.bs.length<=s.H.blks.length
 edges:ziK B.bs s.H
 newer:∀ b,B.bs.length<=b->b<s.H.blks.length->B.w.heap.size<=g.blk b
 fr:Fr B.d B.bs B.g B.w g w
 lks:∀ b off,zdv B b off->qN s.H.blks b off
 lkl:∀ p∈s.lk,¬ zdv B p.1 p.2
 pend:∀ p∈B.pend,s.env.length<p.t/\RelV g p.v p.cv/\OwnV g s.H.blks.length w (.slot B.d p.t) p.v p.cv/\p.v.top<=s.H.blks.length/\∀ b off,p.at_=some (b,off)->g.lk b off=p.cv
 deflen:s.defers.length=a.defers.length
 defers:∀ (j:Nat) (x:V×List V) (d:Deferred),s.defers[j]?=some x->a.defers[j]?=some d->DefRel g s.H.blks.length x d
 marks:∀ d∈a.defers,∀ D,d.target=.collected D->B.w.heap.size<=D/\zqs g s.H.blks.length w D
 mdis:a.defers.Pairwise fun d d'=>∀ D,d.target=.collected D->d'.target≠.collected D
structure Same (d:Nat) (b0:Option Nat) (l0:Option Loc) (n:Nat) (g:Gh) (w:World) (g':Gh) (w':World):Prop where
 le:Gh.Le n g g'
 heap:∀ c,c<w.heap.size->(∀ b,b0=some b->g.blk b≠c)->(∀ l,l0=some l->g.own c≠some l)->w'.heap[c]?=w.heap[c]?
 own:∀ c,c<w.heap.size->(∀ l,l0=some l->g.own c≠some l)->g'.own c=g.own c
 M:∀ c,c<w.heap.size->(∀ l,l0=some l->g.own c≠some l)->∀ o,g'.M c o=g.M c o
 size:w.heap.size<=w'.heap.size
 lk:∀ b off,(∀ l,l0=some l->l≠.cell b off)->g'.lk b off=g.lk b off
 l0ok:∀ l,l0=some l->(∃ t,l=.slot d t)\/∃ b j,l=.cell b j/\b0=some b
 b0lt:∀ b,b0=some b->b<n
 hdr:∀ b u,b<n->b0≠some b->g'.hdr b u=g.hdr b u
 os:w'.os=w.os
 tape:w'.tape=w.tape
 output:w'.output=w.output
theorem vx {w w':World} {base e sz:Nat} {cv:Value} {n:Nat} {xs:List Value} (h:w.ownsRow base e sz cv n xs) (hh:∀ c,cv.ownBlock=some c->w'.heap[c]?=w.heap[c]?) :
  w'.ownsRow base e sz cv n xs:=by
 refine ⟨h.1,h.2.imp id ?_⟩;rintro ⟨c,cap,cur,rfl,hb,hc,r⟩;exact ⟨c,cap,cur,rfl,hb,by rw [hh c rfl];exact hc,r⟩
theorem OwnAt.lt {g:Gh} {n:Nat} {w:World} {l:Loc} {e sz len:Nat} {cv:Value} (h:OwnAt g n w l e sz len cv):∀ c,cv.ownBlock=some c->c<w.heap.size:=by
 obtain ⟨xs,ho,_⟩:=h;exact fun c hc=>(ho.lt c hc).2
theorem OwnAt.same {d:Nat} {b0:Option Nat} {l0:Option Loc} {n n':Nat} {g g':Gh} {w w':World} (hs:Same d b0 l0 n g w g' w') {l:Loc} (hl:l0≠some l)
  (hn:∀ b,n<=b->b<n'->w.heap.size<=g'.blk b) {e sz len:Nat} {cv:Value} (h:OwnAt g n w l e sz len cv):OwnAt g' n' w' l e sz len cv:=by
 have hlt:=h.lt;obtain ⟨xs,ho,hc⟩:=h;have hne:∀ c,cv.ownBlock=some c->∀ l',l0=some l'->g.own c≠some l':=fun c hcc l' hl' e=>by
  rw [(hc c hcc).1] at e;cases e;exact hl hl'
 refine ⟨xs,vx ho fun c hcc=>hs.heap c (hlt c hcc) (fun b hb=>(hc c hcc).2.2 b (hs.b0lt b hb)) (hne c hcc),fun c hcc=>⟨?_,?_,?_⟩⟩
 ·rw [hs.own c (hlt c hcc) (hne c hcc)];exact (hc c hcc).1
 ·intro o ho';rw [hs.M c (hlt c hcc) (hne c hcc)];exact (hc c hcc).2.1 o ho'
 ·intro b hb e;rcases zAg b n with h1|h1
  ·exact (hc c hcc).2.2 b h1 ((hs.le.blk b h1).symm.trans e)
  ·have:=hn b h1 hb;have:=hlt c hcc;omega
theorem OwnV.same {d:Nat} {b0:Option Nat} {l0:Option Loc} {n n':Nat} {g g':Gh} {w w':World} (hs:Same d b0 l0 n g w g' w') {l:Loc} (hl:l0≠some l)
  (hn:∀ b,n<=b->b<n'->w.heap.size<=g'.blk b) {x:V} {cv:Value} (h:OwnV g n w l x cv):OwnV g' n' w' l x cv:=by
 unfold OwnV at *;split
 ·exact OwnAt.same hs hl hn h
 ·trivial
theorem ki (g:Gh) (n:Nat) (w:World) (l:Loc) (x:V) (cv:Value):OwnV g n w l (clr x) cv:=by
 cases x<;>simp [clr,OwnV]
theorem BlkOk.same {d:Nat} {b0:Option Nat} {l0:Option Loc} {n n':Nat} {g g':Gh} {w w':World} (hs:Same d b0 l0 n g w g' w') {b:Nat} (hb:b0≠some b) (hbn:b<n)
  (hlt:g.blk b<w.heap.size) (hown:g.own (g.blk b)=none) (hinj:∀ b',b0=some b'->g.blk b'≠g.blk b)
  (hn:∀ b,n<=b->b<n'->w.heap.size<=g'.blk b) {x:Blk} (htop:x.top<=n) (h:BlkOk g n w b x):BlkOk g' n' w' b x:=by
 have hne:∀ l,l0=some l->g.own (g.blk b)≠some l:=by
  intro l _;rw [hown];simp
 have hheap:w'.heap[g'.blk b]?=w.heap[g.blk b]?:=by
  rw [hs.le.blk b hbn];exact hs.heap _ hlt hinj hne
 have hcell:∀ j,l0≠some (.cell b j):=fun j e=>by
  rcases hs.l0ok _ e with ⟨t,ht⟩|⟨b',j',he,hb'⟩
  ·cases ht
  ·cases he;exact hb hb'
 cases x with
 | cells cs t =>
  obtain ⟨arr,ha,hl,hj⟩:=h;refine ⟨arr,hheap.trans ha,hl,fun j x v hx hv=>?_⟩;obtain ⟨h1,h2,h3,h4⟩:=hj j x v hx hv;have hxt:x.top<=n:=zAP (zo (zH hx)) htop;refine ⟨h1,h2.le hs.le hxt,OwnV.same hs (hcell j) hn h3,?_⟩;unfold zeJ at *;split
  ·rw [hs.lk b j fun l hl e=>hcell j (e ▸ hl)];exact h4
  ·trivial
 | map es =>
  obtain ⟨en,ck,ha,hl,hj⟩:=h;have ht:=zBP.1 (show max (tops (es.map (·.1))) (tops (es.map (·.2)))<=n from htop);refine ⟨en,ck,hheap.trans ha,hl,fun j x me hx hme=>?_⟩;obtain ⟨h1,h2⟩:=hj j x me hx hme;exact ⟨h1.le hs.le (zAP (zo (zBJ (f:=(·.1)) (zH hx))) ht.1),h2.le hs.le (zAP (zo (zBJ (f:=(·.2)) (zH hx))) ht.2)⟩
 | iter s pos=>exact ⟨hheap.trans h.1,h.2⟩
 | ul ver sz cs e =>
  obtain ⟨c,len,cap,vs,hu⟩:=h;have hlt:c<w.heap.size:=(hu.row.lt c rfl).2;have hno:∀ l,l0=some l->g.own c≠some l:=fun l hl' e'=>by
   rcases hu.mine with h1|h1
   ·exact hne l hl' (h1 ▸ e')
   ·rw [h1] at e';cases e';exact hcell 0 hl'
  have hnb:∀ b',b0=some b'->g.blk b'≠c:=fun b' hb'=>hu.others b' (hs.b0lt b' hb') fun e'=>hb (e' ▸ hb');refine ⟨c,len,cap,vs,?_,hu.pos,vx hu.row fun k hk=>?_,?_,fun o=>?_,fun b' hb' hne' e'=>?_,hu.len,fun j x v hx hv=>?_,fun u hlu=>?_⟩
  ·rw [hs.hdr b ver hbn hb];exact hu.hdr
  ·cases hk;exact hs.heap c hlt hnb hno
  ·rw [hs.le.blk b hbn,hs.own c hlt hno];exact hu.mine
  ·rw [hs.M c hlt hno];exact hu.M o
  ·rcases zAg b' n with h1|h1
   ·exact hu.others b' h1 hne' ((hs.le.blk b' h1).symm.trans e')
   ·have:=hn b' h1 hb';omega
  ·obtain ⟨h1,h2⟩:=hu.cells j x v hx hv;exact ⟨h1,h2.le hs.le (zAP (zo (zH hx)) htop)⟩
  ·rw [hs.hdr b u hbn hb];exact hu.fresh u hlu
theorem Same.fr {d:Nat} {b0:Option Nat} {l0:Option Loc} {bs:List Blk} {g g':Gh} {w w':World} (hs:Same d b0 l0 bs.length g w g' w') (hl:∀ b j,l0=some (.cell b j)->¬ qN bs b j) :
  Fr d bs g w g' w':=by
 have hne:∀ c,Prot d bs.length g w c->∀ l,l0=some l->g.own c≠some l:=by
  intro c hc l hl' e;rcases hc.2.2 with h0|⟨d',t,h1,hd⟩
  ·rw [h0] at e;cases e
  ·rw [h1] at e;cases e;rcases hs.l0ok _ hl' with ⟨t',ht⟩|⟨b,j,hj,_⟩
   ·cases ht;omega
   ·cases hj
 exact ⟨hs.le,fun c hc=>hs.heap c hc.1 (fun b hb=>hc.2.1 b (hs.b0lt b hb)) (hne c hc),fun c hc=>hs.own c hc.1 (hne c hc),fun c hc=>hs.M c hc.1 (hne c hc),hs.size,
  fun b off hlk=>hs.lk b off fun l hl' e=>hl b off (e ▸ hl') hlk,hs.os,hs.tape,hs.output⟩
theorem FnRel.le {n n':Nat} {g g':Gh} (hg:Gh.Le n g g') (hn:n<=n') {x:V×List V} {d:Deferred} (h:FnRel g n x d):FnRel g' n' x d:=by
 obtain ⟨f,as,cs,fc,h1,h2,h3,h4,h5,h6,h7,h8⟩:=h
 exact ⟨f,as,cs,fc,h1,h2,h3,h4,fun j y v hy hv=>(h5 j y v hy hv).le hg (zAP (zo (zH hy)) h7),fun j y v hy hv=>(h6 j y v hy hv).le hg (zAP (zo (zH hy)) h8),
  zAP h7 hn,zAP h8 hn⟩
theorem DefRel.le {n n':Nat} {g g':Gh} (hg:Gh.Le n g g') (hn:n<=n') {x:V×List V} {d:Deferred} (h:DefRel g n x d):DefRel g' n' x d:=h.imp (fun h=>h.le hg hn) id
theorem Rel.master {B:Base} {g:Gh} {s:St} {a:Act} {w:World} (h:Rel B g s a w) {b0:Option Nat} {l0:Option Loc} {g':Gh} {w':World} (hs:Same B.d b0 l0 s.H.blks.length g w g' w') {s':St}
  (hlen:s.H.blks.length<=s'.H.blks.length)
  (hold:∀ b,b<s.H.blks.length->b0≠some b->s'.H.blks[b]?=s.H.blks[b]?)
  (hchg:∀ (b:Nat) (x:Blk),(b0=some b\/s.H.blks.length<=b)->s'.H.blks[b]?=some x->BlkOk g' s'.H.blks.length w' b x/\x.top<=s'.H.blks.length)
  (hnew:∀ b,s.H.blks.length<=b->b<s'.H.blks.length->w.heap.size<=g'.blk b/\g'.blk b<w'.heap.size/\g'.own (g'.blk b)=none/\∀ o,g'.M (g'.blk b) o=none)
  (hinj:∀ b b',s.H.blks.length<=b->b<s'.H.blks.length->s.H.blks.length<=b'->b'<s'.H.blks.length->g'.blk b=g'.blk b'->b=b')
  (hmem:∀ c o v,g'.M c o=some v->w'.cell? ⟨c,o,none⟩=some v)
  (hownlt:∀ c l,g'.own c=some l->c<w'.heap.size)
  (hl0:∀ b j,l0=some (.cell b j)->¬ qN s.H.blks b j)
  (henvl:s'.env.length=s.env.length) (hdef:s'.defers=s.defers)
  (henv:∀ (t:Nat) (x:V),s'.env[t]?=some x->∃ y,s.env[t]?=some y/\(x=y/\l0≠some (.slot B.d t)\/x=clr y))
  (hedges:ziK B.bs s'.H) (hlks:∀ b off,zdv B b off->qN s'.H.blks b off) (hlkl:∀ p∈s'.lk,¬ zdv B p.1 p.2) (hl1:∀ t,l0=some (.slot B.d t)->t<=s.env.length):Rel B g' s' a w':=by
 have hn:∀ b,s.H.blks.length<=b->b<s'.H.blks.length->w.heap.size<=g'.blk b:=fun b h1 h2=>(hnew b h1 h2).1;have hne:∀ b,b<s.H.blks.length->∀ l,l0=some l->g.own (g.blk b)≠some l:=fun b hb l _=>by rw [h.wok.unowned b hb];simp
 have hblk:∀ b,b<s.H.blks.length->g'.blk b=g.blk b:=fun b hb=>hs.le.blk b hb;refine { wok:=?_,len:=henvl.trans h.len,env:=?_,envTop:=?_,n0:=zAP h.n0 hlen,edges:=hedges,newer:=?_,fr:=?_,lks:=hlks,lkl:=hlkl,pend:=?_,deflen:=by rw [hdef];exact h.deflen,defers:=?_,marks:=fun d hd D hD=>?_,mdis:=h.mdis }
 ·refine { mem:=hmem,lt:=?_,inj:=?_,apart:=?_,ownlt:=hownlt,unowned:=?_,ok:=?_,tops:=?_,laid:=?_ }
  ·intro b hb;rcases zAg b s.H.blks.length with h1|h1
   ·rw [hblk b h1];exact zAo (h.wok.lt b h1) hs.size
   ·exact (hnew b h1 hb).2.1
  ·intro b b' hb hb' e;rcases zAg b s.H.blks.length with h1|h1<;>rcases zAg b' s.H.blks.length with h2|h2
   ·rw [hblk b h1,hblk b' h2] at e;exact h.wok.inj b b' h1 h2 e
   ·have:=hn b' h2 hb';have:=h.wok.lt b h1;rw [hblk b h1] at e;omega
   ·have:=hn b h1 hb;have:=h.wok.lt b' h2;rw [hblk b' h2] at e;omega
   ·exact hinj b b' h1 hb h2 hb' e
  ·intro b hb o;rcases zAg b s.H.blks.length with h1|h1
   ·rw [hblk b h1,hs.M _ (h.wok.lt b h1) (hne b h1)];exact h.wok.apart b h1 o
   ·exact (hnew b h1 hb).2.2.2 o
  ·intro b hb;rcases zAg b s.H.blks.length with h1|h1
   ·rw [hblk b h1,hs.own _ (h.wok.lt b h1) (hne b h1)];exact h.wok.unowned b h1
   ·exact (hnew b h1 hb).2.2.1
  ·intro b x hx
   by_cases hc:b0=some b\/s.H.blks.length<=b
   ·exact (hchg b x hc hx).1
   ·have h1:b<s.H.blks.length:=by omega
    have h2:b0≠some b:=fun e=>hc (.inl e);rw [hold b h1 h2] at hx;exact BlkOk.same hs h2 h1 (h.wok.lt b h1) (h.wok.unowned b h1) (fun b' hb' e=>h2 (by rw [hb',h.wok.inj b' b (hs.b0lt b' hb') h1 e])) hn (h.wok.tops b x hx) (h.wok.ok b x hx)
  ·intro b x hx
   by_cases hc:b0=some b\/s.H.blks.length<=b
   ·exact (hchg b x hc hx).2
   ·have h1:b<s.H.blks.length:=by omega
    rw [hold b h1 (fun e=>hc (.inl e))] at hx;exact zAP (h.wok.tops b x hx) hlen
  ·intro c hc;rw [hs.le.obj] at hc;obtain ⟨⟨cs,t,h1⟩,h2,h3⟩:=h.wok.laid c hc;have hlt:c<w.heap.size:=(zAj.1 h1).1;have hno:∀ l,l0=some l->g.own c≠some l:=fun l _=>by rw [h2];simp
   refine ⟨⟨cs,t,by rw [hs.heap c hlt (fun b hb=>h3 b (hs.b0lt b hb)) hno];exact h1⟩,by rw [hs.own c hlt hno];exact h2,fun b hb e=>?_⟩
   rcases zAg b s.H.blks.length with h4|h4
   ·rw [hblk b h4] at e;exact h3 b h4 e
   ·have:=hn b h4 hb;omega
 ·intro t x v hx hv;obtain ⟨y,hy,hxy⟩:=henv t x hx;obtain ⟨h1,h2⟩:=h.env t y v hy hv;have h3:=h.envTop t y hy;rcases hxy with ⟨rfl,hl⟩|rfl
  ·exact ⟨h1.le hs.le h3,OwnV.same hs hl hn h2⟩
  ·exact ⟨(h1.le hs.le h3).clr,ki _ _ _ _ _ _⟩
 ·intro t x hx;obtain ⟨y,hy,hxy⟩:=henv t x hx;have h3:=h.envTop t y hy;rcases hxy with ⟨rfl,_⟩|rfl
  ·exact zAP h3 hlen
  ·rw [top_clr];exact zAP h3 hlen
 ·intro b h1 h2;rcases zAg b s.H.blks.length with h3|h3
  ·rw [hblk b h3];exact h.newer b h1 h3
  ·exact zAP h.fr.size (hn b h3 h2)
 ·exact h.fr.trans h.n0 h.newer (fun b off hl=>h.lks b off (.inl hl)) (hs.fr hl0)
 ·intro p hp;obtain ⟨p1,p2,p3,p4,p5⟩:=h.pend p hp;refine ⟨by rw [henvl];exact p1,p2.le hs.le p4,OwnV.same hs (fun e=>?_) hn p3,zAP p4 hlen,fun b off e=>?_⟩
  ·have:=hl1 _ e;omega
  ·rw [hs.lk b off fun l hl e'=>hl0 b off (e' ▸ hl) (h.lks b off (.inr ⟨p,hp,e⟩))];exact p5 b off e
 ·intro j x d hx hd;rw [hdef] at hx;exact (h.defers j x d hx hd).le hs.le hlen
 ·obtain ⟨h0,h1,h2,h3⟩:=h.marks d hd D hD;have hlt:D<w.heap.size:=(zAj.1 h1).1;have hno:∀ l,l0=some l->g.own D≠some l:=fun l _=>by rw [h3];simp
  refine ⟨h0,by rw [hs.heap D hlt (fun b hb=>h2 b (hs.b0lt b hb)) hno];exact h1,fun b hb e=>?_,by rw [hs.own D hlt hno];exact h3⟩
  rcases zAg b s.H.blks.length with h4|h4
  ·rw [hblk b h4] at e;exact h2 b h4 e
  ·have:=hn b h4 hb;omega
end Go.Vm
namespace Go.Vm
open Go
mutual
theorem zce (g:Gh):∀ (v:Value) (x:V),ofVal v=some x->RelV g x v/\x.top=0
 | .bool b,x,h=>by simp only [ofVal,zAA] at h;subst h;exact ⟨.bool b,rfl⟩
 | .int k n,x,h=>by simp only [ofVal,zAA] at h;subst h;exact ⟨.int k n,rfl⟩
 | .float _ _,x,h=>by simp [ofVal] at h
 | .complex _ _ _,x,h=>by simp [ofVal] at h
 | .string s,x,h=>by
  simp only [ofVal,zAA] at h;subst h;have e:s=bytes (s.data.toList.map UInt8.toNat):=by
   cases s;simp [bytes,Function.comp_def]
  refine ⟨?_,rfl⟩
  conv=>rhs;rw [e]
  exact .str fun b hb=>by
   obtain ⟨c,_,rfl⟩:=zA4.1 hb;exact c.toNat_lt
 | .pointer a,x,h=>by
  cases a with
  | none=>simp only [ofVal,zAA] at h;subst h;exact ⟨.nilp,rfl⟩
  | some _=>simp [ofVal] at h
 | .slice a n c,x,h=>by
  unfold ofVal at h;split at h<;>first|(rename_i e;cases e;done)|skip
  all_goals first
   |(simp only [zAA] at h;subst h;rename_i e;cases e;first|exact ⟨.snil,rfl⟩)
   |(cases h;done)
   |(rename_i e;cases e)
 | .map r,x,h=>by
  cases r with
  | none=>simp only [ofVal,zAA] at h;subst h;exact ⟨.nilm,rfl⟩
  | some _=>simp [ofVal] at h
 | .chan _,x,h=>by simp [ofVal] at h
 | .func f ⟨as⟩ ⟨cs⟩,x,h=>by
  cases as with
  | nil=>cases cs with
   | nil =>
    simp only [ofVal,zAA] at h;subst h;exact ⟨.fn rfl rfl (fun j x v hx=>by simp at hx) (fun j x v hx=>by simp at hx),rfl⟩
   | cons _ _=>simp [ofVal] at h
  | cons _ _=>simp [ofVal] at h
 | .nilFunc,x,h=>by simp only [ofVal,zAA] at h;subst h;exact ⟨.nilf,rfl⟩
 | .iface _ _,x,h=>by simp [ofVal] at h
 | .nilIface,x,h=>by simp only [ofVal,zAA] at h;subst h;exact ⟨.nili,rfl⟩
 | .agg ⟨cs⟩,x,h=>by
  simp only [ofVal,zAM] at h;obtain ⟨l,hl,h⟩:=h;split at h
  ·rename_i hall;simp only [zAA] at h;subst h;obtain ⟨h1,h2,h3⟩:=zdw g cs l hl;refine ⟨.agg (by simpa using h1) (fun j x hx=>zBE.1 hall x (zH hx)) (fun j x v hx hv=>h2 j x v hx (by simpa using hv)),?_⟩
   simp only [V.top];exact h3
  ·cases h
 | .tuple ⟨vs⟩,x,h=>by
  cases vs with
  | nil=>simp only [ofVal,zAA] at h;subst h;exact ⟨.tup rfl (fun j x v hx=>by simp at hx),rfl⟩
  | cons _ _=>simp [ofVal] at h
theorem zdw (g:Gh):∀ (vs:List Value) (xs:List V),ofVals vs=some xs->xs.length=vs.length/\(∀ (j:Nat) (x:V) (v:Value),xs[j]?=some x->vs[j]?=some v->RelV g x v)/\tops xs=0
 | [],xs,h=>by simp only [ofVals,zAA] at h;subst h;exact ⟨rfl,fun j x v hx=>by simp at hx,rfl⟩
 | v::vs,xs,h=>by
  simp only [ofVals] at h;split at h
  ·rename_i x ys hx hys;simp only [zAA] at h;subst h;obtain ⟨h1,h2⟩:=zce g v x hx;obtain ⟨h3,h4,h5⟩:=zdw g vs ys hys;refine ⟨by simp [h3],fun j y u hy hu=>?_,by simp [tops,h2,h5]⟩
   cases j with
   | zero=>simp at hy hu;subst hy;subst hu;exact h1
   | succ j=>simp at hy hu;exact h4 j y u hy hu
  ·cases h
end
variable {B:Base} {g:Gh} {s:St} {a:Act} {w:World}
theorem Rel.slot (h:Rel B g s a w) {t:Nat} {x:V} (hx:s.env[t]?=some x):∃ v,a.tmps[t]?=some v/\a.eval (.tmp t)=v:=by
 have hlt:t<a.tmps.size:=by rw [<- h.len];exact (zAG.1 hx).1
 refine ⟨a.tmps[t],zA5 hlt,?_⟩;simp [Act.eval,Array.getD,hlt]
theorem zeK {n:Nat} {l:Loc} {x:V} {v cv:Value} (h:ofVal v=some x):OwnV g n w l x cv:=by
 unfold OwnV;split
 ·unfold ofVal at h;split at h<;>try (simp at h;done)
  all_goals (simp only [zAM] at h;obtain ⟨l,_,h⟩:=h;split at h<;>simp at h)
 ·trivial
theorem zL (h:Rel B g s a w) {x:Operand} {v:V} (hp:peek s.env x=some v) :
  RelV g v (a.eval x)/\v.top<=s.H.blks.length/\∀ n l,OwnV g n w l v (a.eval x):=by
 cases x with
 | tmp t =>
  simp only [peek,zq] at hp;split at hp<;>simp only [zAA,reduceCtorEq] at hp;rename_i y hy;subst hp;obtain ⟨cv,hcv,he⟩:=h.slot hy;rw [he];exact ⟨(h.env t y cv hy hcv).1.clr,by rw [top_clr];exact h.envTop t y hy,fun _ _=>ki _ _ _ _ _ _⟩
 | const c =>
  simp only [peek] at hp;obtain ⟨h1,h2⟩:=zce g c v hp;exact ⟨h1,by omega,fun _ _=>zeK hp⟩
 | global k =>
  simp only [peek,zAA] at hp;subst hp;exact ⟨.gptr k 0,zAU _,fun _ _=>trivial⟩
 | func f =>
  simp only [peek,zAA] at hp;subst hp;exact ⟨.fn rfl rfl (fun j x v hx=>by simp at hx) (fun j x v hx=>by simp at hx),zAU _,fun _ _=>trivial⟩
theorem Rel.hand (h:Rel B g s a w) {t:Nat} {v:V} (hv:s.env[t]?=some v) (c:Nat) (hc:g.own c=some (.slot B.d t)) (hcw:c<w.heap.size) (l:Loc) :
  Rel B { g with own:=fun x=>if x=c then some l else g.own x } { s with env:=s.env.set t (clr v) } a w:=by
 have ht:t<s.env.length:=(zAG.1 hv).1;refine h.master (b0:=none) (l0:=some (.slot B.d t)) ?_ (zAR _) (fun _ _ _=>rfl) (fun b x hb hx=>?_) (fun b h1 h2=>?_) (fun b b' h1 h2=>?_) h.wok.mem (fun c' l' hc'=>?_) (fun b j e=>by cases e) (by simp) rfl (fun t' x hx=>?_) h.edges h.lks h.lkl ?_
 ·refine ⟨⟨fun _ _ _ e=>e,fun _ _=>rfl,rfl,fun _ _ _ _ e=>e⟩,fun _ _ _ _=>rfl,fun c' _ h'=>?_,fun _ _ _ _=>rfl,zAR _,fun _ _ _=>rfl,fun l' hl'=>?_,fun b hb=>(by cases hb),fun _ _ _ _=>rfl,rfl,rfl,rfl⟩
  ·show (if c'=c then some l else g.own c')=g.own c'
   rw [if_neg];rintro rfl;exact h' _ rfl hc
  ·cases hl';exact .inl ⟨t,rfl⟩
 ·rcases hb with hb|hb
  ·cases hb
  ·have:=(zAG.1 hx).1;simp only at this;omega
 ·simp only at h2;omega
 ·simp only at h2;omega
 ·simp only at hc';split at hc'
  ·rename_i e;rw [e];exact hcw
  ·exact h.wok.ownlt c' l' hc'
 ·simp only [zAx] at hx;split at hx
  ·rename_i e;subst e;simp only [zAA] at hx;exact ⟨v,hv,.inr hx.symm⟩
  ·rename_i e;exact ⟨x,hx,.inl ⟨rfl,fun e'=>e (by cases e';rfl)⟩⟩
 ·intro t' e;cases e;exact zBa ht
theorem Rel.clear (h:Rel B g s a w) {t:Nat} {v:V} (hv:s.env[t]?=some v):Rel B g { s with env:=s.env.set t (clr v) } a w:=by
 have ht:t<s.env.length:=(zAG.1 hv).1;refine h.master (b0:=none) (l0:=none) ?_ (zAR _) (fun _ _ _=>rfl) (fun b x hb hx=>?_) (fun b h1 h2=>?_) (fun b b' h1 h2=>?_) h.wok.mem h.wok.ownlt (fun b j e=>by cases e) (by simp) rfl (fun t' x hx=>?_) h.edges h.lks h.lkl ?_
 ·exact ⟨⟨fun _ _ _ e=>e,fun _ _=>rfl,rfl,fun _ _ _ _ e=>e⟩,fun _ _ _ _=>rfl,fun _ _ _=>rfl,fun _ _ _ _=>rfl,zAR _,fun _ _ _=>rfl,fun l' hl'=>(by cases hl'),fun b hb=>(by cases hb),fun _ _ _ _=>rfl,rfl,rfl,rfl⟩
 ·rcases hb with hb|hb
  ·cases hb
  ·have:=(zAG.1 hx).1;simp only at this;omega
 ·simp only at h2;omega
 ·simp only at h2;omega
 ·simp only [zAx] at hx;split at hx
  ·rename_i e;subst e;simp only [zAA] at hx;exact ⟨v,hv,.inr hx.symm⟩
  ·exact ⟨x,hx,.inl ⟨rfl,fun e'=>by cases e'⟩⟩
 ·intro t' e;cases e
structure Gh.Alike (g g':Gh):Prop where
 M:g'.M=g.M
 blk:g'.blk=g.blk
 obj:g'.obj=g.obj
 lk:g'.lk=g.lk
 hdr:g'.hdr=g.hdr
theorem Gh.Alike.refl (g:Gh):Gh.Alike g g:=⟨rfl,rfl,rfl,rfl,rfl⟩
theorem Gh.Alike.le {g g':Gh} (h:Gh.Alike g g') (n:Nat):Gh.Le n g g':=⟨fun _ _ _ e=>by rw [h.M];exact e,fun _ _=>by rw [h.blk],h.obj,fun _ _ _ _ e=>by rw [h.hdr];exact e⟩
theorem Gh.Alike.rel {g g':Gh} (h:Gh.Alike g g') {v:V} {cv:Value} (hr:RelV g v cv):RelV g' v cv:=hr.le (h.le v.top) (zAR _)
theorem take_ok (h:Rel B g s a w) {x:Operand} {v:V} {env':List V} (ht:take s.env x=some (v,env')) (l:Loc) :
  ∃ g',Rel B g' { s with env:=env' } a w/\RelV g' v (a.eval x)/\OwnV g' s.H.blks.length w l v (a.eval x)/\v.top<=s.H.blks.length/\Gh.Alike g g':=by
 have plain:∀ y,(∀ t,y≠.tmp t)->take s.env y=some (v,env')->∃ g',Rel B g' { s with env:=env' } a w/\RelV g' v (a.eval y)/\OwnV g' s.H.blks.length w l v (a.eval y)/\v.top<=s.H.blks.length/\Gh.Alike g g':=by
  intro y hy hty;have hp:peek s.env y=some v/\s.env=env':=by
   cases y with
   | tmp t=>exact absurd rfl (hy t)
   | _ =>
    simp only [take,zAd,zAH] at hty;obtain ⟨u,hu,rfl,rfl⟩:=hty;exact ⟨hu,rfl⟩
  obtain ⟨h1,h2,h3⟩:=zL h hp.1;rw [<- hp.2];exact ⟨g,h,h1,h3 _ _,h2,.refl g⟩
 cases x with
 | tmp t =>
  simp only [take,zq,fSet_eq] at ht;split at ht<;>simp only [zAA,zAH,reduceCtorEq] at ht
  ·rename_i sz xs e hy;obtain ⟨rfl,rfl⟩:=ht;obtain ⟨cv,hcv,he⟩:=h.slot hy;obtain ⟨h1,h2⟩:=h.env t _ cv hy hcv;have h3:=h.envTop t _ hy;rw [he];have h2':OwnAt g s.H.blks.length w (.slot B.d t) e sz xs.length cv:=h2;cases hob:cv.ownBlock with
   | none =>
    obtain ⟨ys,ho,_⟩:=h2';exact ⟨g,h.clear hy,h1,⟨ys,ho,fun c hc=>by rw [hob] at hc;cases hc⟩,h3,.refl g⟩
   | some c =>
    have hlt:=h2'.lt c hob;obtain ⟨ys,ho,hc⟩:=h2';obtain ⟨c1,c2,c3⟩:=hc c hob;refine ⟨_,h.hand hy c c1 hlt l,?_,⟨ys,ho,fun c' hc'=>?_⟩,h3,⟨rfl,rfl,rfl,rfl,rfl⟩⟩
    ·exact Gh.Alike.rel (g:=g) (g':={ g with own:=fun x=>if x=c then some l else g.own x }) ⟨rfl,rfl,rfl,rfl,rfl⟩ h1
    ·rw [hob] at hc';cases hc';exact ⟨by simp,c2,c3⟩
  ·rename_i y _ hy;obtain ⟨rfl,rfl⟩:=ht;obtain ⟨cv,hcv,he⟩:=h.slot hy;obtain ⟨h1,h2⟩:=h.env t _ cv hy hcv;rw [he];exact ⟨g,h,h1.clr,ki _ _ _ _ _ _,by rw [top_clr];exact h.envTop t _ hy,.refl g⟩
 | const c=>exact plain _ (fun t=>by simp) ht
 | global k=>exact plain _ (fun t=>by simp) ht
 | func f=>exact plain _ (fun t=>by simp) ht
structure OpOk (B:Base) (g:Gh) (s:St) (a:Act) (w:World) (dst:Option Tmp) (v:V) (cv:Value):Prop where
 rel:Rel B g s a w
 val:RelV g v cv
 own:∀ t,dst=some t->OwnV g s.H.blks.length w (.slot B.d t) v cv
 top:v.top<=s.H.blks.length
theorem v4 {dst:Option Tmp} {v:V} {cv:Value} (h:OpOk B g s a w dst v cv):Rel B g { s with env:=zl s.env dst v } (a.put dst cv) w:=by
 cases dst with
 | none=>exact h.rel
 | some t =>
  have hr:=h.rel;refine { wok:=hr.wok,len:=by simpa [zl,Act.put] using hr.len,env:=?_,envTop:=?_,n0:=hr.n0,edges:=hr.edges,newer:=hr.newer,fr:=hr.fr,lks:=hr.lks,lkl:=hr.lkl,pend:=by simpa [zl] using hr.pend,deflen:=hr.deflen,defers:=hr.defers,marks:=hr.marks,mdis:=hr.mdis }
  ·intro t' x u hx hu;simp only [zl,zAx] at hx;simp only [Act.put,Array.getElem?_setIfInBounds] at hu
   by_cases e:t=t'
   ·subst e;simp only [if_true] at hx hu;split at hx
    ·simp only [zAA] at hx;split at hu
     ·simp only [zAA] at hu;subst hx;subst hu;exact ⟨h.val,h.own t rfl⟩
     ·cases hu
    ·cases hx
   ·simp only [e,if_false] at hx hu;exact hr.env t' x u hx hu
  ·intro t' x hx;simp only [zl,zAx] at hx
   by_cases e:t=t'
   ·subst e;simp only [if_true] at hx;split at hx
    ·simp only [zAA] at hx;subst hx;exact h.top
    ·cases hx
   ·simp only [e,if_false] at hx;exact hr.envTop t' x hx
end Go.Vm
namespace Go.Vm
open Go
variable {P:Program} {g:Gh} {w:World}
theorem jn {t:TypeId} {n:Nat} (h:qc P t=some n) (w:World):(sizeOf t).run P w=.ok n w:=by
 simp only [qc,zAd] at h;obtain ⟨i,hi,rfl⟩:=h;simp [sizeOf,typeInfo,hi]
theorem zbv {t:TypeId} {b:Bool} (h:jG P t=some b) (w:World):(isAgg t).run P w=.ok b w:=by
 simp only [jG,zAd] at h;obtain ⟨d,hd,rfl⟩:=h;unfold isAgg;simp only [Sem.run_bind,run_underlying hd,Result.andThen_ok];cases d<;>rfl
structure RelCs (g:Gh) (cs:List V) (vs:List Value):Prop where
 len:cs.length=vs.length
 one:∀ (j:Nat) (x:V),cs[j]?=some x->x.one=true
 rel:∀ (j:Nat) (x:V) (v:Value),cs[j]?=some x->vs[j]?=some v->RelV g x v
theorem RelCs.get {cs:List V} {vs:List Value} (h:RelCs g cs vs) {j:Nat} {x:V} (hx:cs[j]?=some x):∃ v,vs[j]?=some v/\RelV g x v:=by
 have hlt:j<vs.length:=by rw [<- h.len];exact (zAG.1 hx).1
 exact ⟨vs[j],zAV hlt,h.rel j x _ hx (zAV hlt)⟩
theorem RelCs.drop {cs:List V} {vs:List Value} (h:RelCs g cs vs) (k:Nat):RelCs g (cs.drop k) (vs.drop k) :=
 ⟨by simp [h.len],fun j x hx=>h.one (k+j) x (by simpa using hx),fun j x v hx hv=>h.rel (k+j) x v (by simpa using hx) (by simpa using hv)⟩
theorem RelCs.take {cs:List V} {vs:List Value} (h:RelCs g cs vs) (k:Nat):RelCs g (cs.take k) (vs.take k):=by
 refine ⟨by simp [h.len],fun j x hx=>?_,fun j x v hx hv=>?_⟩
 ·rw [zA9] at hx;split at hx
  ·exact h.one j x hx
  ·cases hx
 ·rw [zA9] at hx hv;split at hx
  ·rename_i hj;rw [if_pos hj] at hv;exact h.rel j x v hx hv
  ·cases hx
theorem RelCs.agg {cs:List V} {arr:Array Value} (h:RelCs g cs arr.toList):RelV g (.agg cs) (.agg arr) :=
 .agg (by simpa using h.len) h.one fun j x v hx hv=>h.rel j x v hx (by simpa using hv)
theorem wz {cs:List V} {cv:Value} (h:RelV g (.agg cs) cv):∃ arr,cv=.agg arr/\RelCs g cs arr.toList:=by
 cases h with
 | agg h1 h2 h3=>exact ⟨_,rfl,⟨by simpa using h1,h2,fun j x v hx hv=>h3 j x v hx (by simpa using hv)⟩⟩
theorem RelCs.map_clr {cs:List V} {vs:List Value} (h:RelCs g cs vs):RelCs g (cs.map clr) vs:=by
 refine ⟨by simp [h.len],fun j x hx=>?_,fun j x v hx hv=>?_⟩
 ·simp only [zAl,zAd] at hx;obtain ⟨y,hy,rfl⟩:=hx;exact (zfu y).trans (h.one j y hy)
 ·simp only [zAl,zAd] at hx;obtain ⟨y,hy,rfl⟩:=hx;exact (h.rel j y v hy hv).clr
theorem zaz {cs:List V} {arr:Array Value} (h:RelCs g cs arr.toList) {t:TypeId} {off:Nat} {v:V} (hv:jU P t cs off=some v) (w:World) :
  ∃ cv,(part t arr off).run P w=.ok cv w/\RelV g v cv/\v.top<=tops cs/\(∀ ys,v=.agg ys->∃ vs,cv=.agg vs/\vs=arr.extract off (off+ys.length)):=by
 simp only [jU,Option.bind_eq_bind,zAM] at hv;obtain ⟨b,hb,hv⟩:=hv;unfold part;simp only [Sem.run_bind,zbv hb,Result.andThen_ok];cases b with
 | true =>
  simp only [if_true,zAM] at hv;obtain ⟨n,hn,hv⟩:=hv;split at hv<;>simp only [zAA,reduceCtorEq] at hv;rename_i hle;subst hv;simp only [if_true,Sem.run_bind,jn hn,Result.andThen_ok,Sem.run_pure];have hl:(List.take n (List.drop off cs)).length=n:=by simp;omega
  refine ⟨_,rfl,?_,?_,fun ys hys=>?_⟩
  ·refine RelCs.agg ?_;have:=(h.drop off).take n;simpa [List.take_drop] using this
  ·simp only [V.top];exact qS fun x hx=>zo (zBB (zA3 hx))
  ·cases hys;exact ⟨_,rfl,by rw [hl]⟩
 | false =>
  simp only [zAD,if_false,zq] at hv;obtain ⟨cv,hcv,hr⟩:=h.get hv;simp only [zAD,if_false];have:arr[off]?=some cv:=by simpa using hcv
  rw [this];refine ⟨cv,rfl,hr,zo (zH hv),fun ys hys=>?_⟩;subst hys;have:=h.one off _ hv;simp [V.one,oneV] at this
theorem zfv {cs:List V} {vs:List Value} (h:RelCs g cs vs) {c o:Nat} (hc:∀ j v,vs[j]?=some v->w.cell? ⟨c,o+j,none⟩=some v) {t:TypeId} {off:Nat} {v:V} (hv:jU P t cs off=some v) :
  ∃ cv,(loadVar t ⟨c,o+off,none⟩).run P w=.ok cv w/\RelV g v cv/\v.top<=tops cs:=by
 simp only [jU,Option.bind_eq_bind,zAM] at hv;obtain ⟨b,hb,hv⟩:=hv;unfold loadVar;simp only [Sem.run_bind,zbv hb,Result.andThen_ok];cases b with
 | true =>
  simp only [if_true,zAM] at hv;obtain ⟨n,hn,hv⟩:=hv;split at hv<;>simp only [zAA,reduceCtorEq] at hv;rename_i hle;subst hv;have hr:=(h.drop off).take n;have hl:((vs.drop off).take n).length=n:=by simp;have:=h.len;omega
  have hrun:=run_loadCells_list (P:=P) (w:=w) ⟨c,o+off,none⟩ ((vs.drop off).take n) (fun j v hj=>by
   rw [zA9] at hj;split at hj
   ·rw [Addr.add_lit];rw [zBU] at hj;rw [zBj];exact hc _ _ hj
   ·cases hj)
  rw [hl] at hrun;simp only [if_true,Sem.run_bind,jn hn,Result.andThen_ok,hrun,Sem.run_pure];refine ⟨_,rfl,RelCs.agg (by simpa using hr),?_⟩
  simp only [V.top];exact qS fun x hx=>zo (zBB (zA3 hx))
 | false =>
  simp only [zAD,if_false,zq] at hv;obtain ⟨cv,hcv,hr⟩:=h.get hv;refine ⟨cv,?_,hr,zo (zH hv)⟩;simp [hc off cv hcv]
end Go.Vm
namespace Go.Vm
open Go
variable {P:Program} {g:Gh} {w:World}
theorem zkZ {op:BinOp} {k:IntKind} {x y:Int} {v:V} (t:TypeId) (h:vv op k x y=some v) (w:World) :
  ∃ cv,(binOp op t (.int k x) (.int k y)).run P w=.ok cv w/\RelV g v cv/\v.top=0/\∀ m l,OwnV g m w l v cv:=by
 cases op<;>simp only [vv,zAA,reduceCtorEq] at h
 case quo =>
  split at h<;>simp only [zAA,reduceCtorEq] at h;rename_i hy;subst h;refine ⟨.int _ _,?_,.int _ _,rfl,fun _ _=>trivial⟩;simp [binOp,Op.intDiv,hy]
 case rem =>
  split at h<;>simp only [zAA,reduceCtorEq] at h;rename_i hy;subst h;refine ⟨.int _ _,?_,.int _ _,rfl,fun _ _=>trivial⟩;simp [binOp,Op.intDiv,hy]
 all_goals subst h
 all_goals first
  | (refine ⟨.int _ _,?_,.int _ _,rfl,fun _ _=>trivial⟩;simp [binOp,Op.intArith,Op.intBits];done)
  | (refine ⟨.bool _,?_,.bool _,rfl,fun _ _=>trivial⟩;simp [binOp,Op.intCmp];done)
theorem zgB {op:BinOp} {k k':IntKind} {x y:Int} {v:V} (h:zfs op k x y=some v) (w:World) :
  ∃ cv,(Op.shift op k x k' y).run P w=.ok cv w/\RelV g v cv/\v.top=0/\∀ m l,OwnV g m w l v cv:=by
 simp only [zfs] at h;split at h
 ·cases h
 ·rename_i hy;cases op<;>simp only [zAA,reduceCtorEq] at h
  all_goals
   subst h;refine ⟨.int _ _,?_,.int _ _,rfl,fun _ _=>trivial⟩;simp [Op.shift,hy]
theorem eqL_iff:∀ (x y:List Nat),(∀ b:Nat,b∈x->b<256)->(∀ b:Nat,b∈y->b<256)->(x.map UInt8.ofNat == y.map UInt8.ofNat)=eqL x y
 | [],[],_,_=>rfl
 | [],_::_,_,_=>rfl
 | _::_,[],_,_=>rfl
 | a::x,b::y,hx,hy=>by
  have ih:=eqL_iff x y (fun c hc=>hx c (zAE _ hc)) (fun c hc=>hy c (zAE _ hc));have ha:=hx a (zAL ..);have hb:=hy b (zAL ..);have e:(UInt8.ofNat a == UInt8.ofNat b)=Nat.beq a b:=by
   rw [zBe,beq_iff_eq,Nat.beq_eq];constructor
   ·intro h;have:=congrArg UInt8.toNat h;simpa [UInt8.toNat_ofNat',zBY ha,zBY hb] using this
   ·rintro rfl;rfl
  simp only [zAX,eqL];rw [<- ih,<- e];rfl
theorem ltL_iff:∀ (x y:List Nat),(∀ b:Nat,b∈x->b<256)->(∀ b:Nat,b∈y->b<256)->Op.bytesLess (x.map UInt8.ofNat) (y.map UInt8.ofNat)=ltL x y
 | [],[],_,_=>rfl
 | [],_::_,_,_=>rfl
 | _::_,[],_,_=>rfl
 | a::x,b::y,hx,hy=>by
  have ih:=ltL_iff x y (fun c hc=>hx c (zAE _ hc)) (fun c hc=>hy c (zAE _ hc));have ha:=hx a (zAL ..);have hb:=hy b (zAL ..);have e:(UInt8.ofNat a == UInt8.ofNat b)=Nat.beq a b:=by
   rw [zBe,beq_iff_eq,Nat.beq_eq];constructor
   ·intro h;have:=congrArg UInt8.toNat h;simpa [UInt8.toNat_ofNat',zBY ha,zBY hb] using this
   ·rintro rfl;rfl
  have e2:decide (UInt8.ofNat a<UInt8.ofNat b)=Nat.blt a b:=by
   rw [zBe,decide_eq_true_iff,UInt8.lt_iff_toNat_lt,UInt8.toNat_ofNat',UInt8.toNat_ofNat',zBY ha,zBY hb];simp only [Nat.blt,Nat.ble_eq];exact Nat.lt_iff_add_one_le
  simp only [zAX,Op.bytesLess,ltL,ih,e,e2]
theorem wA (x:List Nat):(bytes x).toList=x.map UInt8.ofNat:=by
 rw [ByteArray.toList_eq];simp [bytes]
theorem jO (x:List Nat):(bytes x).size=x.length:=by simp [bytes,ByteArray.size]
theorem zfw (x y:List Nat):bytes x++bytes y=bytes (x++y):=by
 apply ByteArray.ext;simp [bytes,ByteArray.data_append]
theorem zk0 {op:BinOp} {x y:List Nat} {v:V} (t:TypeId) (hx:∀ b:Nat,b∈x->b<256) (hy:∀ b:Nat,b∈y->b<256) (h:zdq op x y=some v) (w:World) :
  ∃ cv,(binOp op t (.string (bytes x)) (.string (bytes y))).run P w=.ok cv w/\RelV g v cv/\v.top=0/\∀ m l,OwnV g m w l v cv:=by
 have e1:=eqL_iff x y hx hy;have e2:=ltL_iff x y hx hy;have e0:(binOp op t (.string (bytes x)) (.string (bytes y)))=Op.stringOp op (bytes x) (bytes y):=by
  cases op<;>rfl
 rw [e0];cases op<;>simp only [zdq,zAA,reduceCtorEq] at h
 case add =>
  split at h<;>simp only [zAA,reduceCtorEq] at h;rename_i hl;subst h;have hm:IntKind.i64.max=9223372036854775807:=by decide
  refine ⟨.string (bytes (x++y)),?_,.str fun b hb=>?_,rfl,fun _ _=>trivial⟩
  ·have:¬ (((bytes x).size+(bytes y).size:Nat):Int) > IntKind.i64.max:=by rw [hm,jO,jO];omega
   simp only [Op.stringOp,if_neg this,zfw];rfl
  ·rcases zAt.1 hb with hb|hb
   ·exact hx b hb
   ·exact hy b hb
 all_goals
  subst h;refine ⟨.bool _,?_,.bool _,rfl,fun _ _=>trivial⟩;simp only [Op.stringOp,wA,e1,e2,Sem.run_pure]
def zaA (P:Program) (d:Nat) (e:TypeId) (n:Nat) (xs ys:Array Value):List Nat->Sem Bool
 | []=>pure true
 | i::is=>do
  let a <- part e xs (i * n)
  let b <- part e ys (i * n)
  let r <- Op.equalIn d e a b
  if (!r)=true then pure false else zaA P d e n xs ys is
theorem zbw (d:Nat) (t e:TypeId) (len n:Nat) (xs ys:Array Value) (ht:P.underlying t=some (.array len e)) (hn:qc P e=some n) (w:World) :
  (Op.equalIn (d+1) t (.agg xs) (.agg ys)).run P w=(zaA P d e n xs ys (List.range' 0 len)).run P w:=by
 simp only [Op.equalIn,Sem.run_bind,run_underlying ht,jn hn,Result.andThen_ok];rw [Std.Legacy.Range.forIn_eq_forIn_range'];simp only [Std.Legacy.Range.size,Nat.sub_zero,Nat.add_sub_cancel,Nat.div_one];generalize List.range' 0 len=is
 induction is generalizing w with
 | nil=>simp [zaA]
 | cons f fs ih =>
  simp only [List.forIn_cons,zaA,Sem.run_bind,Sem.run_ite];generalize (part e xs (f * n)).run P w=r1;cases r1 with
  | ok a w1 =>
   simp only [Result.andThen_ok];generalize (part e ys (f * n)).run P w1=r2;cases r2 with
   | ok b w2 =>
    simp only [Result.andThen_ok];generalize (Op.equalIn d e a b).run P w2=r3;cases r3 with
    | ok r w3 =>
     cases r
     ·simp only [Result.andThen_ok,zAw,if_true,Sem.run_pure]
     ·simp only [Result.andThen_ok,zAs,zAD,if_false,Sem.run_pure];exact ih w3
    | halt x w3=>simp [Result.andThen]
   | halt x w2=>simp [Result.andThen]
  | halt x w1=>simp [Result.andThen]
theorem ziL {eq:TypeId->V->V->Option Bool} {d:Nat} (heq:∀ t x y b cx cy,eq t x y=some b->RelV g x cx->RelV g y cy->(Op.equalIn d t cx cy).run P w=.ok b w) {xs ys:List V} {ax ay:Array Value}
  (hx:RelCs g xs ax.toList) (hy:RelCs g ys ay.toList):∀ (fs:List Field) (b:Bool),zhZ P eq fs xs ys=some b->(Op.eqFields d ax ay fs).run P w=.ok b w
 | [],b,h=>by simp only [zhZ,zAA] at h;subst h;rfl
 | f::fs,b,h=>by
  simp only [zhZ] at h;split at h
  ·cases h
  ·rename_i hf;simp only [Option.bind_eq_bind,zAM] at h;obtain ⟨u,hu,v,hv,r,hr,h⟩:=h;obtain ⟨cu,hu1,hu2,_⟩:=zaz hx hu w;obtain ⟨cv,hv1,hv2,_⟩:=zaz hy hv w;simp only [Op.eqFields,ne_eq,hf,zBs,if_true,Sem.run_bind,hu1,hv1,heq _ _ _ _ _ _ hr hu2 hv2,Result.andThen_ok];cases r with
   | true=>simp only [if_true] at h;simpa using ziL heq hx hy fs b h
   | false=>simp only [zAD,if_false,zAA] at h;subst h;simp
theorem ziM {eq:TypeId->V->V->Option Bool} {d:Nat} (heq:∀ t x y b cx cy,eq t x y=some b->RelV g x cx->RelV g y cy->(Op.equalIn d t cx cy).run P w=.ok b w) {xs ys:List V} {ax ay:Array Value}
  (hx:RelCs g xs ax.toList) (hy:RelCs g ys ay.toList) (e n:Nat):∀ (k i:Nat) (b:Bool),zfr P eq e n xs ys i k=some b->(zaA P d e n ax ay (List.range' i k)).run P w=.ok b w
 | 0,i,b,h=>by simp only [zfr,zAA] at h;subst h;rfl
 | k+1,i,b,h=>by
  simp only [zfr,Option.bind_eq_bind,zAM] at h;obtain ⟨u,hu,v,hv,r,hr,h⟩:=h;obtain ⟨cu,hu1,hu2,_⟩:=zaz hx hu w;obtain ⟨cv,hv1,hv2,_⟩:=zaz hy hv w;simp only [List.range'_succ,zaA,Sem.run_bind,hu1,hv1,heq _ _ _ _ _ _ hr hu2 hv2,Result.andThen_ok];cases r with
  | true=>simp only [if_true] at h;simpa using ziM heq hx hy e n k (i+1) b h
  | false=>simp only [zAD,if_false,zAA] at h;subst h;simp
theorem zou {D:Nat} {t:TypeId} {ds:TypeDesc} (hd:P.underlying t=some ds) {x y:V} {b:Bool} {cx cy:Value} (h:eqS ds x y=some b) (hx:RelV g x cx) (hy:RelV g y cy):(Op.equalIn (D+1) t cx cy).run P w=.ok b w:=by
 have hu:=run_underlying hd w;unfold eqS at h;split at h
 ·split at h<;>simp only [zAA,reduceCtorEq] at h;subst h;cases hx;cases hy;exact run_equalIn_bool' w D t _ _ hd
 ·split at h<;>try (simp only [reduceCtorEq] at h;done)
  split at h<;>simp only [zAA,reduceCtorEq] at h;rename_i e;subst h;subst e;cases hx;cases hy;exact run_equalIn_int w D t _ _ _ _ hd
 ·split at h<;>simp only [zAA,reduceCtorEq] at h;subst h;cases hx with
  | str h1=>cases hy with
   | str h2 =>
    rw [run_equalIn_string w D t _ _ hd,wA,wA,eqL_iff _ _ h1 h2]
 ·split at h<;>simp only [zAA,reduceCtorEq] at h
  all_goals (subst h;cases hx;cases hy;simp [Op.equalIn,hu];done)
 ·split at h<;>try (simp only [reduceCtorEq] at h;done)
  ·simp only [zAA] at h;subst h;cases hx;cases hy;simp [Op.equalIn,hu]
  ·simp only [zAA] at h;subst h;cases hx;cases hy;simp [Op.equalIn,hu]
  ·simp only [zAA] at h;subst h;cases hx;cases hy;simp [Op.equalIn,hu]
  ·split at h<;>simp only [zAA,reduceCtorEq] at h;rename_i e;subst h;cases hx;cases hy;simp [Op.equalIn,hu,e]
 ·split at h<;>simp only [zAA,reduceCtorEq] at h
  ·subst h;cases hx;cases hy;simp [Op.equalIn,hu]
  ·subst h;cases hx;cases hy with
   | sl f h1 h2 h3=>rw [h3 (by simp)];simp [Op.equalIn,hu]
  ·subst h;cases hy;cases hx with
   | sl f h1 h2 h3=>rw [h3 (by simp)];simp [Op.equalIn,hu]
  ·subst h;cases hx;cases hy;simp [Op.equalIn,hu]
  ·subst h;cases hx;cases hy;simp [Op.equalIn,hu]
 ·split at h<;>simp only [zAA,reduceCtorEq] at h
  all_goals (subst h;cases hx;cases hy;simp [Op.equalIn,hu];done)
 ·split at h<;>simp only [zAA,reduceCtorEq] at h
  all_goals (subst h;cases hx;cases hy;simp [Op.equalIn,hu];done)
 ·cases h
theorem eqA_ok:∀ (d D:Nat) (t:TypeId) (x y:V) (b:Bool) (cx cy:Value),d<=D->eqA P d t x y=some b->RelV g x cx->RelV g y cy->(Op.equalIn D t cx cy).run P w=.ok b w
 | 0,D,t,x,y,b,cx,cy,_,h,_,_=>by simp [eqA] at h
 | d+1,0,t,x,y,b,cx,cy,hD,h,_,_=>by omega
 | d+1,D+1,t,x,y,b,cx,cy,hD,h,hx,hy=>by
  have ih:=fun t x y b cx cy=>eqA_ok d D t x y b cx cy (by omega)
  simp only [eqA] at h;split at h
  ·cases h
  ·rename_i ds hd;split at h
   ·obtain ⟨ax,rfl,h1⟩:=wz hx;obtain ⟨ay,rfl,h2⟩:=wz hy;split at h
    ·rename_i fs;split at h
     ·cases h
     ·rename_i hp;have hf:P.fieldsOf t=fs:=by simp [Program.fieldsOf,hd]
      rw [run_equalIn_struct w D t ax ay (by rw [hf];exact hd) (by simpa using hp),hf]
      exact ziL ih h1 h2 _ _ h
    ·split at h
     ·rename_i n hn;rw [zbw D t _ _ n ax ay hd hn];exact ziM ih h1 h2 _ _ _ _ _ h
     ·cases h
    ·cases h
   ·exact zou hd h hx hy
theorem guard_ok {op:BinOp} {t:TypeId} {x y:V} {cx cy:Value} {ox oy:Operand} (hg:jN P op t ox oy x y=true) (hx:RelV g x cx) (hy:RelV g y cy) (w:World):(eqGuard op t ox oy cx cy).run P w=.ok () w:=by
 have key:(op=.eql\/op=.neq)->(eqGuard op t ox oy cx cy).run P w=.ok () w:=by
  intro ho;have hg':kU P t ox oy x y=true:=by rcases ho with rfl|rfl<;>exact hg
  by_cases ha:∃ xs ys,cx=.agg xs/\cy=.agg ys
  ·obtain ⟨xs,ys,rfl,rfl⟩:=ha;refine run_eqGuard_agg w op t ox oy xs ys ?_;cases hx<;>cases hy<;>first|(simp [kU] at hg';done)|(simpa [kU] using hg')
  ·by_cases hn:cx=.nilIface/\cy=.nilIface
   ·obtain ⟨rfl,rfl⟩:=hn;have hc:isConst ox=true\/isConst oy=true:=by
     cases hx<;>cases hy<;>first|(simp [kU] at hg';done)|(simpa [kU] using hg')
    rcases ho with rfl|rfl<;>rcases hc with hc|hc<;>(cases ox<;>cases oy<;>simp [isConst] at hc<;>simp [eqGuard])
   ·rcases ho with rfl|rfl
    all_goals
     cases cx<;>cases cy<;>first
      |rfl
      |exact absurd ⟨rfl,rfl⟩ hn
      |exact absurd ⟨_,_,rfl,rfl⟩ ha
 cases op<;>first
  |exact key (.inl rfl)
  |exact key (.inr rfl)
  |simp [eqGuard]
theorem ziN {d:Nat} {t:TypeId} {k:IntKind} {n:Int} {y:V} {b:Bool} (h:eqA P d t (.int k n) y=some b):∃ k' m,y=.int k' m:=by
 cases d with
 | zero=>simp [eqA] at h
 | succ d =>
  simp only [eqA] at h;split at h
  ·cases h
  ·rename_i ds _;cases ds<;>cases y<;>simp [eqS] at h;exact ⟨_,_,rfl⟩
theorem ziO {d:Nat} {t:TypeId} {s:List Nat} {y:V} {b:Bool} (h:eqA P d t (.str s) y=some b):∃ s',y=.str s':=by
 cases d with
 | zero=>simp [eqA] at h
 | succ d =>
  simp only [eqA] at h;split at h
  ·cases h
  ·rename_i ds _;cases ds<;>cases y<;>simp [eqS] at h;exact ⟨_,rfl⟩
theorem zgC {d:Nat} {t:TypeId} {y:V} {b:Bool} (h:eqA P d t .junk y=some b):False:=by
 cases d with
 | zero=>simp [eqA] at h
 | succ d =>
  simp only [eqA] at h;split at h
  ·cases h
  ·rename_i ds _;cases ds<;>simp [eqS] at h
theorem zmW {op:BinOp} {t:TypeId} {x y:V} {v:V} {cx cy:Value} (h:w8 P op t x y=some v) (hx:RelV g x cx) (hy:RelV g y cy) (w:World) :
  ∃ cv,(binOp op t cx cy).run P w=.ok cv w/\RelV g v cv/\v.top=0/\∀ m l,OwnV g m w l v cv:=by
 unfold w8 at h;split at h
 ·rename_i k1 a1 k2 b1;cases hx;cases hy;exact zgB (k':=k2) h w
 ·rename_i k1 a1 k2 b1;cases hx;cases hy;exact zgB (k':=k2) h w
 ·split at h
  ·rename_i e;subst e;cases hx;cases hy;exact zkZ t h w
  ·cases h
 ·cases hx with
  | str h1=>cases hy with
   | str h2=>exact zk0 t h1 h2 h w
 ·rename_i n1 n2;simp only [zAd] at h;obtain ⟨b,hb,rfl⟩:=h;have e:binOp .eql t cx cy=(do pure (.bool (<- Op.equal t cx cy))):=by
   cases hx<;>first
    |rfl
    |(obtain ⟨k',m,rfl⟩:=ziN hb;exact absurd rfl (n1 _ _ _ _ rfl))
    |(obtain ⟨s',rfl⟩:=ziO hb;exact absurd rfl (n2 _ _ rfl))
    |exact (zgC hb).elim
  rw [e];refine ⟨.bool b,?_,.bool b,rfl,fun _ _=>trivial⟩;simp only [Sem.run_bind,Op.equal,eqA_ok 100 Op.maxDepth t _ _ b cx cy (by decide) hb hx hy,Result.andThen_ok,Sem.run_pure]
 ·rename_i n1 n2;simp only [zAd] at h;obtain ⟨b,hb,rfl⟩:=h;have e:binOp .neq t cx cy=(do pure (.bool (!(<- Op.equal t cx cy)))):=by
   cases hx<;>first
    |rfl
    |(obtain ⟨k',m,rfl⟩:=ziN hb;exact absurd rfl (n1 _ _ _ _ rfl))
    |(obtain ⟨s',rfl⟩:=ziO hb;exact absurd rfl (n2 _ _ rfl))
    |exact (zgC hb).elim
  rw [e];refine ⟨.bool (!b),?_,.bool _,rfl,fun _ _=>trivial⟩;simp only [Sem.run_bind,Op.equal,eqA_ok 100 Op.maxDepth t _ _ b cx cy (by decide) hb hx hy,Result.andThen_ok,Sem.run_pure]
 ·cases h
end Go.Vm
namespace Go.Vm
open Go
variable {P:Program} {B:Base} {g:Gh} {s:St} {a:Act} {w:World}
def zeL (P:Program) (g:Gh) (n:Nat) (w:World) (m:Sem Value) (v:V):Prop:=∃ cv,m.run P w=.ok cv w/\RelV g v cv/\v.top<=n/\∀ k l,OwnV g k w l v cv
theorem ziP {n:Nat} {l:Loc} {v:V} {cv:Value} (h:∀ sz xs e,v≠.sl sz xs (.yes e)):OwnV g n w l v cv:=by
 cases v with
 | sl sz xs o=>cases o with
  | yes e=>exact absurd rfl (h sz xs e)
  | _=>trivial
 | _=>trivial
def zk1 (g:Gh):Option V->Option Value->Prop
 | none,none=>True
 | some x,some v=>RelV g x v
 | _,_=>False
theorem vV {isSlice:Bool} {len cap:Nat} {lo hi:Option V} {clo chi:Option Value} {l h:Nat} (hlo:zk1 g lo clo) (hhi:zk1 g hi chi) (h1:j7 hi len=some h) (h2:j7 lo 0=some l)
  (hl:l<=h) (hh:h<=len) (hc:len<=cap) (w:World):(Instr.sliceBounds isSlice len cap clo chi none).run P w=.ok (l,h,cap) w:=by
 have e1:∀ code,(match chi with|some v=>Instr.sliceBound v cap code|none=>pure len:Sem Nat).run P w=.ok h w:=by
  intro code;cases chi with
  | none=>cases hi with
   | none=>simp only [j7,zAA] at h1;simp [h1]
   | some _=>exact hhi.elim
  | some cv=>cases hi with
   | none=>exact hhi.elim
   | some x =>
    simp only [j7] at h1;split at h1<;>first|(rename_i e;simp at e;done)|skip
    ·rename_i k m e;simp only [zAA] at e;subst e;split at h1<;>simp only [zAA,reduceCtorEq] at h1;rename_i hm;have hr:RelV g (.int k m) cv:=hhi;cases hr;have:0<=m/\m<=(cap:Int):=⟨hm,by omega⟩
     simp [Instr.sliceBound,asIntOf,this,h1]
    ·cases h1
 have e2:∀ code,(match clo with|some v=>Instr.sliceBound v h code|none=>pure 0:Sem Nat).run P w=.ok l w:=by
  intro code;cases clo with
  | none=>cases lo with
   | none=>simp only [j7,zAA] at h2;simp [h2]
   | some _=>exact hlo.elim
  | some cv=>cases lo with
   | none=>exact hlo.elim
   | some x =>
    simp only [j7] at h2;split at h2<;>first|(rename_i e;simp at e;done)|skip
    ·rename_i k m e;simp only [zAA] at e;subst e;split at h2<;>simp only [zAA,reduceCtorEq] at h2;rename_i hm;have hr:RelV g (.int k m) cv:=hlo;cases hr;have:0<=m/\m<=(h:Int):=⟨hm,by omega⟩
     simp [Instr.sliceBound,asIntOf,this,h2]
    ·cases h2
 unfold Instr.sliceBounds;cases chi with
 | none =>
  have e1':=e1 .sliceAcap;simp only [Sem.run_pure,Result.ok.injEq,zBF] at e1';cases clo with
  | none=>have e2':=e2 .sliceB;simp only [Sem.run_pure,Result.ok.injEq,zBF] at e2';simp [e1',e2']
  | some cv=>have e2':=e2 .sliceB;simp only at e2';simp [e1',e2']
 | some cu =>
  have e1':=e1 (if isSlice then .sliceAcap else .sliceAlen)
  simp only at e1';cases clo with
  | none=>have e2':=e2 .sliceB;simp only [Sem.run_pure,Result.ok.injEq,zBF] at e2';simp [e1',e2']
  | some cv=>have e2':=e2 .sliceB;simp only at e2';simp [e1',e2']
theorem zew (x:List Nat) (l h:Nat):(bytes x).extract l h=bytes ((x.take h).drop l):=by
 apply ByteArray.ext;simp [bytes,ByteArray.data_extract,List.extract,<- List.map_take,<- List.map_drop,List.drop_take]
theorem zov {op:UnOp} {x v:V} {cx:Value} (h:unA op x=some v) (hx:RelV g x cx) (n:Nat) (w:World):zeL P g n w (Op.unary op cx) v:=by
 unfold unA at h;split at h
 ·simp only [zAA] at h;subst h;cases hx;exact ⟨.int _ _,by simp [Op.unary,Op.intArith],.int _ _,zAU _,fun _ _=>trivial⟩
 ·simp only [vv,zAA] at h;subst h;cases hx;exact ⟨.int _ _,by simp [Op.unary,Op.intBits],.int _ _,zAU _,fun _ _=>trivial⟩
 ·simp only [zAA] at h;subst h;cases hx;exact ⟨.bool _,by simp [Op.unary],.bool _,zAU _,fun _ _=>trivial⟩
 ·cases h
theorem wW {t:TypeId} {f:Nat} {fs:Array Field} {fd:Field} {sz:Nat} (ht:P.underlying t=some (.struct fs)) (hf:fs[f]?=some fd) (hs:qc P fd.type=some sz) (h0:Nat.beq sz 0=false) (c o:Nat) (w:World) :
  (Instr.fieldAt t (.pointer (some ⟨c,o,none⟩)) f).run P w=.ok (.pointer (some ⟨c,o+fd.offset,none⟩)) w:=by
 have:sz≠0:=by intro e;subst e;simp at h0
 unfold Instr.fieldAt;simp [run_underlying ht,hf,Instr.sureAddr,fieldPlace,jn hs,this,Addr.add_lit]
theorem RelV.vp_drop {cs:List V} {c o:Nat} (h:RelV g (.vp cs) (.pointer (some ⟨c,o,none⟩))) (k:Nat):RelV g (.vp (cs.drop k)) (.pointer (some ⟨c,o+k,none⟩)):=by
 cases h with
 | vp f h1 h2 h3 =>
  refine .vp (fun j=>f (k+j)) (fun j x hx=>h1 (k+j) x (by simpa using hx)) (fun j x hx=>?_) (fun j x hx=>h3 (k+j) x (by simpa using hx))
  rw [zBj];exact h2 (k+j) x (by simpa using hx)
theorem tops_drop (cs:List V) (k:Nat):tops (cs.drop k)<=tops cs:=qS fun _ hx=>zo (zBB hx)
theorem zbx {sz:Nat}:∀ {xs:List V} {i:Nat} {x:V},(∀ y:V,y∈xs->y.cells.length=sz)->xs[i]?=some x->∀ j y,x.cells[j]?=some y->(zV xs)[i * sz+j]?=some y
 | [],i,x,_,h,_,_,_=>by simp at h
 | z::xs,0,x,hs,h,j,y,hy=>by
  simp at h;subst h;simp only [zV,zBK,Nat.zero_mul,zAT];rw [zAe (zAG.1 hy).1];exact hy
 | z::xs,i+1,x,hs,h,j,y,hy=>by
  have hz:=hs z (zAL ..);simp only [zV,zBK];rw [zAf (by rw [hz,zBW];omega),hz]
  have:=zbx (xs:=xs) (i:=i) (fun y hy=>hs y (zAE _ hy)) (by simpa using h) j y hy
  have e:(i+1) * sz+j - sz=i * sz+j:=by rw [zBW];omega
  rw [e];exact this
theorem RelV.elem {sz:Nat} {xs:List V} {ow:Own} {c o len cap:Nat} (h:RelV g (.sl sz xs ow) (.slice (some ⟨c,o,none⟩) len cap)) {i:Nat} {x:V} (hx:xs[i]?=some x) :
  RelV g (.vp x.cells) (.pointer (some ⟨c,o+i * sz,none⟩)):=by
 cases h with
 | sl f h1 h2 h3 h4 h5 h6 =>
  have hne:xs≠[]:=by rintro rfl;simp at hx
  have he:=h3 hne;cases he;refine .vp (fun j=>f (i * sz+j)) (fun j y hy=>h4 _ _ (zbx h1 hx j y hy)) (fun j y hy=>?_) (fun j y hy=>h6 _ _ (zbx h1 hx j y hy));rw [zBj];exact h5 _ _ (zbx h1 hx j y hy)
theorem RelV.sl_form {sz:Nat} {xs:List V} {ow:Own} {cv:Value} (h:RelV g (.sl sz xs ow) cv):∃ ad cap,cv=.slice ad xs.length cap/\xs.length<=cap/\(xs≠[]->∃ c o,ad=some ⟨c,o,none⟩):=by
 cases h with
 | sl f h1 h2 h3=>exact ⟨_,_,rfl,h2,fun hne=>⟨_,_,h3 hne⟩⟩
theorem yJ {t e:TypeId} {c o len cap sz:Nat} {k:IntKind} {i:Int} (ht:P.underlying t=some (.slice e)) (hs:qc P e=some sz) (h0:0<=i) (hi:i<len) (w:World) :
  (Instr.indexAt t (.slice (some ⟨c,o,none⟩) len cap) (.int k i)).run P w=.ok (.pointer (some ⟨c,o+i.toNat * sz,none⟩)) w:=by
 unfold Instr.indexAt;simp [asIntOf,run_underlying ht,h0,hi,jn hs,Addr.add_lit]
theorem vP {t e:TypeId} {c o n sz:Nat} {k:IntKind} {i:Int} (ht:P.underlying t=some (.array n e)) (hs:qc P e=some sz) (h0:0<=i) (hi:i<n) (w:World) :
  (Instr.indexAt t (.pointer (some ⟨c,o,none⟩)) (.int k i)).run P w=.ok (.pointer (some ⟨c,o+i.toNat * sz,none⟩)) w:=by
 unfold Instr.indexAt;simp [asIntOf,run_underlying ht,h0,hi,jn hs,Addr.add_lit,Instr.sureAddr]
theorem qu {sz:Nat}:∀ {xs:List V},(∀ y:V,y∈xs->y.cells.length=sz)->(zV xs).length=xs.length * sz
 | [],_=>by simp [zV]
 | z::xs,hs=>by
  have:=qu (xs:=xs) fun y hy=>hs y (zAE _ hy);simp only [zV,zBK,zAi,zAS,hs z (zAL ..)] at *;rw [this,zBW];omega
theorem xW (xs ys:List V):zV (xs++ys)=zV xs++zV ys:=by simp [zV]
theorem zdx {sz:Nat} {xs:List V} (hs:∀ y:V,y∈xs->y.cells.length=sz) {b c j:Nat} {y:V} (h:(zV ((xs.take b).drop c))[j]?=some y):(zV xs)[c * sz+j]?=some y:=by
 have h1:(zV (xs.take b))[c * sz+j]?=some y:=by
  have hc:c<=(xs.take b).length:=by
   rcases zAg (xs.take b).length c with hlt|hge
   ·rw [List.drop_eq_nil_of_le (by omega)] at h;simp [zV] at h
   ·exact hge
  have e:zV (xs.take b)=zV ((xs.take b).take c)++zV ((xs.take b).drop c):=by rw [<- xW,zBC]
  have hl:(zV ((xs.take b).take c)).length=c * sz:=by
   rw [qu fun y hy=>hs y (zA3 (zA3 hy)),zA7,Nat.min_eq_left hc]
  rw [e,zAf (by omega),hl,Nat.add_sub_cancel_left]
  exact h
 have e:zV xs=zV (xs.take b)++zV (xs.drop b):=by rw [<- xW,zBC]
 rw [e,zAe (zAG.1 h1).1];exact h1
theorem zj0 {t:TypeId} {x v:V} {lo hi:Option V} {cx:Value} {clo chi:Option Value} {n:Nat} (h:xq P t x lo hi=some v) (hx:RelV g x cx) (hlo:zk1 g lo clo) (hhi:zk1 g hi chi) (ht:x.top<=n) (w:World) :
  zeL P g n w (Instr.sliceAt t cx clo chi none) v:=by
 simp only [xq,Option.bind_eq_bind,zAM] at h;obtain ⟨ds,hd,h⟩:=h;have hu:=run_underlying hd w;split at h
 ·rename_i l;simp only [zAM] at h;obtain ⟨b,hb,c,hc,h⟩:=h;split at h<;>simp only [zAA,reduceCtorEq] at h;rename_i hle;subst h;cases hx with
  | str h1 =>
   refine ⟨.string (bytes ((l.take b).drop c)),?_,.str fun y hy=>h1 y (zA3 (zBB hy)),zAU _,fun _ _=>trivial⟩;have hb':=vV (P:=P) (isSlice:=false) hlo hhi hb hc hle.1 hle.2 (zAR _) w;rw [<- jO l] at hb';simp [Instr.sliceAt,hu,Instr.slice,hb',zew]
 ·rename_i e sz xs ow;simp only [zAM] at h;obtain ⟨b,hb,c,hc,m,hm,h⟩:=h;split at h<;>simp only [zAA,reduceCtorEq] at h;rename_i hle;obtain ⟨hle1,hle2,rfl⟩:=hle;subst h;cases hx with
  | sl f h1 h2 h3 h4 h5 h6 =>
   rename_i ad cap cb o;have hb':=vV (P:=P) (isSlice:=true) hlo hhi hb hc hle1 hle2 h2 w;have hlen:((xs.take b).drop c).length=b - c:=by simp;omega
   have hne:(xs.take b).drop c≠[]->xs≠[]:=by rintro h rfl;simp at h
   refine ⟨.slice (if cap=c then ad else ad.map (·.add (c * m))) (b - c) (cap - c),?_,?_,?_,fun _ _=>trivial⟩
   ·simp [Instr.sliceAt,hu,Instr.slice,hb',jn hm]
   ·rw [<- hlen];refine .sl (c:=cb) (o:=o+c * m) (fun j=>f (c * m+j)) (fun y hy=>h1 y (zA3 (zBB hy))) (by rw [hlen];omega) (fun hn=>?_) (fun j x hx=>h4 _ x (zdx h1 hx)) (fun j x hx=>?_) (fun j x hx=>h6 _ x (zdx h1 hx))
    ·have:0<b - c:=by rw [<- hlen];exact List.length_pos_iff.2 hn
     rw [if_neg (by omega),h3 (hne hn)]
     simp [Addr.add_lit]
    ·rw [zBj];exact h5 _ x (zdx h1 hx)
   ·exact zAP (qS fun y hy=>zo (zA3 (zBB hy))) ht
 ·rename_i e;simp only [zAM] at h;obtain ⟨b,hb,c,hc,m,hm,h⟩:=h;split at h<;>simp only [zAA,reduceCtorEq] at h;rename_i hle;obtain ⟨rfl,rfl⟩:=hle;subst h;cases hx;have hb':=vV (P:=P) (isSlice:=true) hlo hhi hb hc (zAR _) (zAR _) (zAR _) w;exact ⟨.slice none 0 0,by simp [Instr.sliceAt,hu,Instr.slice,hb',jn hm],.snil,zAU _,fun _ _=>trivial⟩
 ·rename_i e bb off len;simp only [zAM] at h;obtain ⟨b,hb,c,hc,m,hm,h⟩:=h;cases hx with
  | sr hcap =>
   rename_i cap;split at h
   ·rename_i hle;obtain ⟨rfl,hle⟩:=hle;simp only [zAA] at h;subst h;have hb':=vV (P:=P) (isSlice:=true) hlo hhi hb hc (zAR _) hle hcap w;refine ⟨_,by simp only [Instr.sliceAt,hu,Instr.slice,hb',jn hm,Sem.run_bind,Result.andThen_ok,Sem.run_pure];rfl,?_,zAU _,fun _ _=>trivial⟩
    rw [Nat.sub_self];exact .sl (c:=0) (o:=0) (fun _=>.nilFunc) (fun y hy=>by simp at hy) (zAU _) (fun hn=>absurd rfl hn) (fun j x hx=>by simp [zV] at hx) (fun j x hx=>by simp [zV] at hx) (fun j x hx=>by simp [zV] at hx)
   ·split at h<;>simp only [zAA,reduceCtorEq] at h;rename_i hle;subst h;have hb':=vV (P:=P) (isSlice:=true) hlo hhi hb hc (zBa hle.1) hle.2 hcap w;refine ⟨.slice (some ⟨g.blk bb,off+c * m,none⟩) (b - c) (cap - c),?_,.sr (by omega),ht,fun _ _=>trivial⟩
    have:¬ cap=c:=by omega
    simp [Instr.sliceAt,hu,Instr.slice,hb',jn hm,this,Addr.add_lit]
 ·cases h
end Go.Vm
namespace Go.Vm
open Go
variable {P:Program} {B:Base} {g:Gh} {s:St} {a:Act} {w:World}
def GlOk (_P:Program) (gl:Nat->Nat->Option V) (g:Gh):Prop:=(∀ k off v,gl k off=some v->∃ cv,g.M k off=some cv/\RelV g v cv/\v.top=0) /\
 ∀ k U j,gl k 0=some (.ifc U (.obj j))->g.obj.lo (g.obj j).block/\∀ k' U' j',gl k' 0=some (.ifc U' (.obj j'))->g.obj j=g.obj j'->j=j'
theorem GlOk.le {gl:Nat->Nat->Option V} {n:Nat} {g g':Gh} (hg:Gh.Le n g g') (h:GlOk P gl g):GlOk P gl g':=by
 refine ⟨fun k off v hv=>?_,fun k U j hv=>?_⟩
 ·obtain ⟨cv,h1,h2,h3⟩:=h.1 k off v hv;exact ⟨cv,hg.M _ _ _ h1,h2.le hg (by omega),h3⟩
 ·rw [hg.obj];exact h.2 k U j hv
theorem vf (v:V):∀ sz xs e,clr v≠.sl sz xs (.yes e):=by
 intro sz xs e;cases v<;>simp [clr]
theorem zaB (h:Rel B g s a w) {b:Nat} {cs:List V} {t:TypeId} (hb:s.H.get b=some (.cells cs t)) :
  ∃ arr,w.heap[g.blk b]?=some (.cells arr t (0,0))/\RelCs g cs arr.toList/\tops cs<=s.H.blks.length/\(∀ (j:Nat) (x:V) (v:Value),cs[j]?=some x->arr[j]?=some v->OwnV g s.H.blks.length w (.cell b j) x v/\zeJ g b j x v):=by
 simp only [Hp.get,zq] at hb;obtain ⟨arr,h1,h2,h3⟩:=h.wok.ok b _ hb;have ht:=h.wok.tops b _ hb;refine ⟨arr,h1,⟨by simpa using h2,fun j x hx=>?_,fun j x v hx hv=>(h3 j x v hx (by simpa using hv)).2.1⟩,ht,fun j x v hx hv=>(h3 j x v hx hv).2.2⟩
 have hj:j<arr.size:=by rw [<- h2];exact (zAG.1 hx).1
 exact (h3 j x arr[j] hx (zA5 hj)).1
theorem zk2 {w:World} {e:TypeId} {sz c len cap:Nat} {vs:List Value} (h:w.ownsRow 0 e sz (.slice (some ⟨c,0,none⟩) len cap) len vs) {j:Nat} {v:Value} (hj:vs[j]?=some v):w.cell? ⟨c,j,none⟩=some v:=by
 obtain ⟨_,h|⟨c',cap',cur,hv,_,hb,_,_,_,hx⟩⟩:=h
 ·cases h.1
 ·cases hv;refine (cell_of_row w c j cur e (0,0) hb).trans ?_;rw [<- hx,zA9] at hj;split at hj
  ·simpa using hj
  ·cases hj
theorem zby (h:Rel B g s a w) {b ver sz:Nat} {cs:List V} {e:TypeId} (hb:s.H.get b=some (.ul ver sz cs e)) :
  ∃ c len cap vs,UlOk g s.H.blks.length w b ver sz cs e c len cap vs/\RelCs g cs vs/\tops cs<=s.H.blks.length:=by
 simp only [Hp.get,zq] at hb;obtain ⟨c,len,cap,vs,hu⟩:=h.wok.ok b _ hb;have ht:=h.wok.tops b _ hb;refine ⟨c,len,cap,vs,hu,⟨hu.len,fun j x hx=>?_,fun j x v hx hv=>(hu.cells j x v hx hv).2⟩,ht⟩;have hj:j<vs.length:=by rw [<- hu.len];exact (zAG.1 hx).1
 exact (hu.cells j x vs[j] hx (zAV hj)).1
theorem zgD (h:Rel B g s a w) {gl:Nat->Nat->Option V} (hgl:GlOk P gl g) {t:TypeId} {p v:V} {cp:Value} (hp:RelV g p cp) (hpt:p.top<=s.H.blks.length) (hv:zJ P s.H gl t p=some v) :
  ∃ cv,(Instr.loadAt t cp).run P w=.ok cv w/\RelV g v cv/\v.top<=s.H.blks.length:=by
 simp only [zJ] at hv;split at hv
 ·rename_i b off;simp only [Option.bind_eq_bind,zAM] at hv;obtain ⟨x,hx,hv⟩:=hv;split at hv<;>try (cases hv;done)
  rename_i cs ty;obtain ⟨arr,h1,h2,h3,_⟩:=zaB h hx;cases hp;obtain ⟨cv,c1,c2,c3⟩:=zfv (P:=P) (w:=w) h2 (c:=g.blk b) (o:=0) (fun j v hj=>by rw [zAT,cell_of_row w _ j arr ty (0,0) h1];simpa using hj) hv
  rw [zAT] at c1;exact ⟨cv,by simpa [Instr.loadAt,Instr.sureAddr] using c1,c2,zAP c3 h3⟩
 ·rename_i cs;cases hp with
  | vp f h1 h2 h3 =>
   rename_i c o
   have hcs:RelCs g cs ((List.range cs.length).map f):=⟨by simp,h1,fun j x v hx hv=>by
    have hj:=(zAG.1 hx).1;simp [hj] at hv;subst hv
    exact h3 j x hx⟩
   obtain ⟨cv,c1,c2,c3⟩:=zfv (P:=P) (w:=w) hcs (c:=c) (o:=o) (fun j v hj=>by
    have hj':j<cs.length:=by have:=(zAG.1 hj).1;simpa using this
    have hx:cs[j]?=some cs[j]:=zAV hj';have e:f j=v:=by simpa [hj'] using hj
    rw [<- e]
    exact h.wok.mem _ _ _ (h2 j _ hx)) hv
   rw [zAv] at c1;exact ⟨cv,by simpa [Instr.loadAt,Instr.sureAddr] using c1,c2,zAP c3 (by simpa [V.top] using hpt)⟩
 ·rename_i b u k;simp only [Option.bind_eq_bind,zAM] at hv;obtain ⟨x,hx,hv⟩:=hv;split at hv<;>try (cases hv;done)
  rename_i ver sz cs e;split at hv
  ·rename_i hver;have:=zAQ hver;subst this;obtain ⟨c,len,cap,vs,hu,h2,h3⟩:=zby h hx;cases hp with
   | ulp k hh =>
    rw [hu.hdr] at hh;cases hh;obtain ⟨cv,c1,c2,c3⟩:=zfv (P:=P) (w:=w) h2 (c:=c) (o:=0) (fun j v hj=>by rw [zAT];exact zk2 hu.row hj) hv
    exact ⟨cv,by simpa [Instr.loadAt,Instr.sureAddr] using c1,c2,zAP c3 h3⟩
  ·cases hv
 ·rename_i k off;simp only [Option.bind_eq_bind,zAM] at hv;obtain ⟨b,hb,hv⟩:=hv;split at hv
  ·cases hv
  ·rename_i hb';obtain ⟨cv,c1,c2,c3⟩:=hgl.1 k off v hv;cases hp;refine ⟨cv,?_,c2,by omega⟩
   have hbf:b=false:=by simpa using hb'
   subst hbf;simp [Instr.loadAt,Instr.sureAddr,loadVar,zbv hb,h.wok.mem _ _ _ c1]
 ·cases hv
theorem zj1 (l:List Nat) (i:Nat):(bytes l)[i]?=(l[i]?).map UInt8.ofNat:=by
 by_cases hi:i<l.length
 ·have h1:i<(bytes l).size:=by rw [jO];exact hi
  rw [getElem?_pos (bytes l) i h1,zAV hi];simp only [zAC,zAA];show (bytes l).data[i]=_;simp [bytes]
 ·rw [getElem?_neg (bytes l) i (by rw [jO];exact hi),zAu (by omega)]
  rfl
theorem zfx {t:TypeId} {l:List Nat} {k:IntKind} {i:Int} {b:Nat} (ht:P.underlying t=some .string) (hl:∀ c:Nat,c∈l->c<256) (h0:¬ i<0) (hb:l[i.toNat]?=some b) (w:World) :
  (Instr.index t (.string (bytes l)) (.int k i)).run P w=.ok (.int .u8 b) w:=by
 have hb':b<256:=hl b (zH hb);have hi:0<=i:=by omega
 unfold Instr.index;simp [asIntOf,run_underlying ht,hi,zj1,hb,UInt8.toNat_ofNat',zBY hb']
theorem zex {t e:TypeId} {cs:List V} {arr:Array Value} {len n:Nat} {k:IntKind} {i:Int} {v:V} (ht:P.underlying t=some (.array len e)) (hn:qc P e=some n) (hr:RelCs g cs arr.toList) (h0:0<=i) (hi:i<len)
  (hv:jU P e cs (i.toNat * n)=some v) (w:World):∃ cv,(Instr.index t (.agg arr) (.int k i)).run P w=.ok cv w/\RelV g v cv/\v.top<=tops cs:=by
 obtain ⟨cv,c1,c2,c3,_⟩:=zaz (P:=P) hr hv w;refine ⟨cv,?_,c2,c3⟩;unfold Instr.index;simp [asIntOf,run_underlying ht,h0,hi,jn hn,c1]
theorem bytesA_ints:∀ {xs:List V} {l:List Nat},bytesA xs=some l->∃ ns:List Int,xs=ns.map (V.int .u8)/\l=ns.map fun n=>n.toNat % 256
 | [],l,h=>by simp only [bytesA,zAA] at h;subst h;exact ⟨[],rfl,rfl⟩
 | x::xs,l,h=>by
  unfold bytesA at h;split at h
  ·rename_i e;cases e
  ·rename_i n r e;cases e;simp only [zAd] at h;obtain ⟨l',hl,rfl⟩:=h;obtain ⟨ns,rfl,rfl⟩:=bytesA_ints hl;exact ⟨n::ns,rfl,rfl⟩
  ·cases h
theorem foldl_bytes:∀ (ns:List Int) (l:List Nat),ns.foldl (fun r n=>r.push (UInt8.ofNat n.toNat)) (bytes l)=bytes (l++ns.map fun n=>n.toNat % 256)
 | [],l=>by simp
 | n::ns,l=>by
  have e:(bytes l).push (UInt8.ofNat n.toNat)=bytes (l++[n.toNat % 256]):=by
   apply ByteArray.ext;have:UInt8.ofNat (n.toNat % 256)=UInt8.ofNat n.toNat:=by
    apply UInt8.toNat_inj.1;simp [UInt8.toNat_ofNat']
   simp [bytes,ByteArray.push,this]
  simp only [List.foldl_cons,e,foldl_bytes ns,zAX,zAb,List.singleton_append]
theorem zh1 {xs:List V} {ow:Own} {cx:Value} {l:List Nat} (h:bytesA xs=some l) (hx:RelV g (.sl 1 xs ow) cx) (hmem:∀ c o u,g.M c o=some u->w.cell? ⟨c,o,none⟩=some u) :
  (Conv.bytesToString cx).run P w=.ok (.string (bytes l)) w/\∀ b:Nat,b∈l->b<256:=by
 obtain ⟨ns,rfl,rfl⟩:=bytesA_ints h;refine ⟨?_,fun b hb=>?_⟩
 ·cases hx with
  | sl f h1 h2 h3 h4 h5 h6 =>
   rename_i ad cap c o;cases ad with
   | none =>
    have:ns=[]:=by
     cases ns with
     | nil=>rfl
     | cons n ns=>have:=h3 (by simp);cases this
    subst this;rfl
   | some ad =>
    have hfl:zV (ns.map (V.int .u8))=ns.map (V.int .u8):=by
     clear h h1 h2 h3 h4 h5 h6
     induction ns with
     | nil=>rfl
     | cons n ns ih=>simp only [zV,zAX,zBK,V.cells] at *;rw [ih];rfl
    have hl:(loadCells ad (ns.map (V.int .u8)).length).run P w=.ok (ns.map (Value.int .u8)).toArray w:=by
     have:=run_loadCells_list (P:=P) w ad (ns.map (Value.int .u8)) (fun j v hj=>by
      simp only [zAl,zAd] at hj;obtain ⟨n,hn,rfl⟩:=hj;have hx':(zV (ns.map (V.int .u8)))[j]?=some (.int .u8 n):=by rw [hfl];simp [hn]
      have hne:ns.map (V.int .u8)≠[]:=by rintro e;simp at e;subst e;simp at hn
      have e:=h3 hne;cases e;rw [Addr.add_lit];have h7:=h6 j _ hx';have h8:=hmem _ _ _ (h5 j _ hx');generalize f j=u at h7 h8;cases h7
      exact h8)
     simpa using this
    rw [run_bytesToString w ad _ cap ns hl];have:=foldl_bytes ns [];have e0:bytes []=ByteArray.empty:=rfl;rw [e0] at this;rw [this];rfl
 ·obtain ⟨n,_,rfl⟩:=zA4.1 hb;omega
theorem zk3 {src dst:TypeId} {x v:V} {cx:Value} {n:Nat} (h:yT P src dst x=some v) (hx:RelV g x cx) (hns:∀ s,x≠.str s\/P.underlying dst=some .string) (hmem:∀ c o u,g.M c o=some u->w.cell? ⟨c,o,none⟩=some u):zeL P g n w (convert src dst cx) v:=by
 simp only [yT,Option.bind_eq_bind,zAM] at h;obtain ⟨ds,hs,dd,hd,h⟩:=h;have hus:=run_underlying hs w;have hud:=run_underlying hd w;split at h
 ·simp only [zAA] at h;subst h;cases hx;exact ⟨.int _ _,by simp [convert,hus,hud,Conv.intToInt],.int _ _,zAU _,fun _ _=>trivial⟩
 ·rename_i k m;simp only [zAA] at h;subst h;cases hx;have e:Utf8.encode m=bytes ((Utf8.encode m).data.toList.map UInt8.toNat):=by
   apply ByteArray.ext;simp [bytes,Function.comp_def]
  refine ⟨.string (bytes ((Utf8.encode m).data.toList.map UInt8.toNat)),by rw [<- e];simp [convert,hus,hud,Conv.intToString],.str fun b hb=>?_,zAU _,fun _ _=>trivial⟩
  obtain ⟨c,_,rfl⟩:=zA4.1 hb;exact c.toNat_lt
 ·simp only [zAA] at h;subst h;cases hx with
  | str h1=>exact ⟨_,by simp [convert,hus,hud],.str h1,zAU _,fun _ _=>trivial⟩
 ·rename_i e;simp only [zAM] at h;obtain ⟨d8,h8,h⟩:=h;split at h<;>simp only [zAA,reduceCtorEq] at h;subst h;cases hx;refine ⟨.string (bytes []),?_,.str (by simp),zAU _,fun _ _=>trivial⟩
  rw [run_convert_bytes_string w src dst e _ _ _ hs h8 hd];rfl
 ·rename_i e xs ow;simp only [zAM] at h;obtain ⟨d8,h8,h⟩:=h;split at h<;>try (cases h;done)
  simp only [zAd] at h;obtain ⟨l,hl,rfl⟩:=h;obtain ⟨ad,cap,rfl,_,_⟩:=hx.sl_form;obtain ⟨c1,c2⟩:=zh1 (P:=P) hl hx hmem;refine ⟨.string (bytes l),?_,.str c2,zAU _,fun _ _=>trivial⟩;rw [run_convert_bytes_string w src dst e _ _ _ hs h8 hd];exact c1
 ·rename_i l _ _;rcases hns _ with hn|hn
  ·exact absurd rfl hn
  ·rw [hd] at hn;cases hn
 ·cases h
theorem yW {t:TypeId} {v:V} (h:qi P t=some v) (w:World):∃ cv,(zeroValue t).run P w=.ok cv w/\RelV g v cv/\v.top=0/\(∀ k l,OwnV g k w l v cv)/\(P.info? t).bind (·.zero)=some cv:=by
 simp only [qi,zAM] at h;obtain ⟨i,hi,z,hz,hv⟩:=h;obtain ⟨h1,h2⟩:=zce g z v hv;refine ⟨z,?_,h1,h2,fun k l=>zeK hv,by simp [hi,hz]⟩
 simp [zeroValue,typeInfo,hi,hz]
end Go.Vm
namespace Go.Vm
open Go
variable {P:Program} {B:Base} {g:Gh} {s:St} {a:Act} {w:World}
def zcf (P:Program) (B:Base) (s:St) (a:Act) (w:World) (_g:Gh) (o:Oper) (v:V):Prop :=
 ∃ g' cv w',(execOp a.eval o).run P w=.ok (.value cv) w'/\OpOk B g' s a w' o.dst v cv
theorem v5 (h:Rel B g s a w) {o:Oper} {m:Sem Value} {v:V} (hm:zeL P g s.H.blks.length w m v) (he:execOp a.eval o=(do pure (.value (<- m)))):zcf P B s a w g o v:=by
 obtain ⟨cv,h1,h2,h3,h4⟩:=hm;exact ⟨g,cv,w,by rw [he];simp [h1],⟨h,h2,fun _ _=>h4 _ _,h3⟩⟩
theorem zbz (h:Rel B g s a w):∀ {xs:List Operand} {vs:List V},peeks s.env xs=some vs ->
  vs.length=xs.length/\(∀ (j:Nat) (x:V) (v:Value),vs[j]?=some x->(xs.map a.eval)[j]?=some v->RelV g x v)/\tops vs<=s.H.blks.length/\∀ x∈vs,∀ sz ys e,x≠.sl sz ys (.yes e)
 | [],vs,hp=>by simp only [peeks,zAA] at hp;subst hp;exact ⟨rfl,fun j x v hx=>by simp at hx,zAU _,fun x hx=>by simp at hx⟩
 | x::xs,vs,hp=>by
  simp only [peeks,zO] at hp;split at hp
  ·cases hp
  ·rename_i v hv;split at hp<;>simp only [zAA,reduceCtorEq] at hp;rename_i ys hys;subst hp;obtain ⟨h1,h2,h3⟩:=zL h hv;obtain ⟨i1,i2,i3,i4⟩:=zbz h hys;refine ⟨by simp [i1],fun j y u hy hu=>?_,by simp only [tops];exact zBP.2 ⟨h2,i3⟩,fun y hy=>?_⟩
   ·cases j with
    | zero=>simp at hy hu;subst hy;subst hu;exact h1
    | succ j=>simp at hy;exact i2 j y u hy (by simpa using hu)
   ·rcases zAO.1 hy with rfl|hy
    ·intro sz ys e he;subst he;cases x with
     | tmp t =>
      simp only [peek] at hv;split at hv<;>simp only [zAA,reduceCtorEq] at hv;exact vf _ _ _ _ hv
     | const c =>
      simp only [peek] at hv;unfold ofVal at hv;split at hv<;>try (simp at hv;done)
      all_goals (simp only [zAM] at hv;obtain ⟨l,_,hv⟩:=hv;split at hv<;>simp at hv)
     | global k=>simp [peek] at hv
     | func f=>simp [peek] at hv
    ·exact i4 y hy
structure RelEs (g:Gh) (es:List (V×V)) (en:List MapEntry):Prop where
 len:es.length=en.length
 rel:∀ (j:Nat) (x:V×V) (e:MapEntry),es[j]?=some x->en[j]?=some e->RelV g x.1 e.key/\RelV g x.2 e.val
theorem RelEs.tail {x:V×V} {es:List (V×V)} {e:MapEntry} {en:List MapEntry} (h:RelEs g (x::es) (e::en)):RelEs g es en/\RelV g x.1 e.key/\RelV g x.2 e.val :=
 ⟨⟨by have:=h.len;simpa using this,fun j y f hy hf=>h.rel (j+1) y f (by simpa using hy) (by simpa using hf)⟩,h.rel 0 x e (by simp) (by simp)⟩
theorem v6 {kd:TypeDesc} {k x:V} {ck cx:Value} {b:Bool} (hk:xP kd k=true) (h:zjY k x=some b) (h1:RelV g k ck) (h2:RelV g x cx):Instr.sameNow kd ck cx=some b:=by
 unfold zjY at h;split at h
 ·split at h<;>simp only [zAA,reduceCtorEq] at h;rename_i e;subst h;subst e;cases h1;cases h2;cases kd<;>simp [xP] at hk;simp [Instr.sameNow]
 ·simp only [zAA] at h;subst h;cases h1 with
  | str b1=>cases h2 with
   | str b2 =>
    cases kd<;>simp [xP] at hk;simp only [Instr.sameNow,beq_toListBytes,wA,eqL_iff _ _ b1 b2]
 ·simp only [zAA] at h;subst h;cases h1;cases h2;cases kd<;>simp [xP] at hk;simp [Instr.sameNow]
 ·cases h
theorem zgE {kd:TypeDesc} {k:V} {ck:Value} (hk:xP kd k=true) (h1:RelV g k ck):∀ {es:List (V×V)} {en:List MapEntry} (i:Nat) {r:Option V},RelEs g es en->zeH k es=some r ->
  ∃ r',Instr.findNow kd ck en i=some r'/\match r,r' with
   | none,none=>True
   | some v,some (_,cv)=>RelV g v cv/\∃ x∈es,x.2=v
   | _,_=>False
 | [],[],i,r,_,h=>by simp only [zeH,zAA] at h;subst h;exact ⟨none,rfl,trivial⟩
 | [],_::_,i,r,hr,h=>by have:=hr.len;simp at this
 | _::_,[],i,r,hr,h=>by have:=hr.len;simp at this
 | (x,v)::es,e::en,i,r,hr,h=>by
  obtain ⟨ht,hx,hv⟩:=hr.tail;simp only [zeH] at h;split at h
  ·rename_i hk';simp only [zAA] at h;subst h;refine ⟨some (i,e.val),?_,hv,_,zAL ..,rfl⟩;simp [Instr.findNow,v6 hk hk' h1 hx]
  ·rename_i hk';obtain ⟨r',h3,h4⟩:=zgE hk h1 (i+1) ht h;refine ⟨r',by simp [Instr.findNow,v6 hk hk' h1 hx,h3],?_⟩
   cases r<;>cases r'
   ·trivial
   ·exact h4
   ·exact h4
   ·obtain ⟨h5,y,hy,hy2⟩:=h4;exact ⟨h5,y,zAE _ hy,hy2⟩
  ·cases h
theorem zfy (n:Nat) {kt:TypeId} {kd:TypeDesc} (hkt:P.underlying kt=some kd) {k:V} {ck:Value} (hk:xP kd k=true) (h1:RelV g k ck) (e:Bool) (w:World):(Instr.checkKey e (n+1) kt ck).run P w=.ok () w:=by
 have hu:=run_underlying hkt w;cases kd<;>cases k<;>simp [xP] at hk
 all_goals (cases h1;simp [Instr.checkKey,hu])
theorem zcG {kt:TypeId} {kd:TypeDesc} (hkt:P.underlying kt=some kd) {k:V} {ck:Value} (hk:xP kd k=true) (h1:RelV g k ck) (e:Bool) (w:World):(Instr.checkKey e 10000 kt ck).run P w=.ok () w :=
 zfy 9999 hkt hk h1 e w
theorem xX (h:Rel B g s a w) {b:Nat} {es:List (V×V)} (hb:s.H.get b=some (.map es)) :
  ∃ en ck,w.heap[g.blk b]?=some (.map en ck)/\RelEs g es en.toList/\tops (es.map (·.1))<=s.H.blks.length/\tops (es.map (·.2))<=s.H.blks.length:=by
 simp only [Hp.get,zq] at hb;obtain ⟨en,ck,h1,h2,h3⟩:=h.wok.ok b _ hb;have ht:=zBP.1 (show max (tops (es.map (·.1))) (tops (es.map (·.2)))<=_ from h.wok.tops b _ hb);exact ⟨en,ck,h1,⟨by simpa using h2,fun j x e hx he=>h3 j x e hx (by simpa using he)⟩,ht.1,ht.2⟩
theorem zj2 (h:Rel B g s a w) {t kt e:TypeId} {kd:TypeDesc} {m k v:V} {cm ck:Value} {es:List (V×V)} {b ok:Bool} (ht:P.underlying t=some (.map kt e)) (hkt:P.underlying kt=some kd) (hk:xP kd k=true)
  (hm:RelV g m cm) (hkr:RelV g k ck) (hes:zdr s.H m=some es) (hf:zh0 P e k es=some (v,b)) :
  zeL P g s.H.blks.length w (Instr.lookup t cm ck ok) (if ok then .tup [clr v,.bool b] else clr v):=by
 have main:∃ en:List MapEntry,RelEs g es en/\tops (es.map (·.2))<=s.H.blks.length/\∀ (K:Array MapEntry->Sem Value),(do
   let es <- match cm with
    | .map none=>pure #[]
    | .map (some r)=>do
     let .map es _ <- getObj r|stuck "Lookup: map expected"
     pure es
    | _=>stuck "Lookup: map expected"
   K es:Sem Value).run P w=(K en.toArray).run P w:=by
  unfold zdr at hes;split at hes
  ·simp only [zAA] at hes;subst hes;cases hm;exact ⟨[],⟨rfl,fun j x e hx=>by simp at hx⟩,zAU _,fun K=>by simp⟩
  ·rename_i bb;split at hes<;>simp only [zAA,reduceCtorEq] at hes;rename_i es' hb;subst hes;cases hm;obtain ⟨en,clock,h1,h2,_,h3⟩:=xX h hb;exact ⟨en.toList,h2,h3,fun K=>by simp [getObj,Sem.run,h1]⟩
  ·cases hes
 obtain ⟨en,hen,htops,hrun⟩:=main
 have hgo:∃ cv,∀ (K:Value×Bool->Sem Value),(do
   Instr.checkKey en.toArray.isEmpty 10000 kt ck
   let x <- match <- Instr.findKey kt ck en.toArray.toList with
    | some (_,v)=>pure (v,true)
    | none=>pure (<- zeroValue e,false)
   K x:Sem Value).run P w=(K (cv,b)).run P w/\RelV g v cv/\v.top<=s.H.blks.length:=by
  unfold zh0 at hf;cases hfa:zeH k es with
  | none=>rw [hfa] at hf;cases hf
  | some r =>
   obtain ⟨r',h1,h2⟩:=zgE hk hkr 0 hen hfa;have hk1:=fun b=>zcG (P:=P) hkt hk hkr b w;cases r with
   | some v' =>
    rw [hfa] at hf;simp only [zAA,zAH] at hf;obtain ⟨rfl,rfl⟩:=hf;cases r' with
    | none=>exact h2.elim
    | some ic =>
     obtain ⟨i,cv⟩:=ic;obtain ⟨h3,y,hy,hy2⟩:=h2;refine ⟨cv,fun K=>⟨?_,h3,?_⟩⟩
     ·simp [hk1,Instr.findKey,run_underlying hkt,h1]
     ·rw [<- hy2];exact zAP (zo (zBJ (f:=(·.2)) hy)) htops
   | none =>
    rw [hfa] at hf;simp only [zAd,zAH] at hf;obtain ⟨z,hz,rfl,rfl⟩:=hf;cases r' with
    | some ic=>obtain ⟨i,cv⟩:=ic;exact h2.elim
    | none =>
     obtain ⟨cz,z1,z2,z3,_⟩:=yW (g:=g) hz w;refine ⟨cz,fun K=>⟨?_,z2,by omega⟩⟩
     simp [hk1,Instr.findKey,run_underlying hkt,h1,z1]
 obtain ⟨cv,hgo⟩:=hgo;have hrel:=(hgo (fun _=>pure .nilFunc)).2;refine ⟨if ok then .tuple #[cv,.bool b] else cv,?_,?_,?_,fun k l=>ziP ?_⟩
 ·unfold Instr.lookup;simp only [Sem.run_bind,run_underlying ht,Result.andThen_ok]
  have e1:=hrun (fun es=>do
   Instr.checkKey es.isEmpty 10000 kt ck
   let (v,ok') <- match <- Instr.findKey kt ck es.toList with
    | some (_,v)=>pure (v,true)
    | none=>pure (<- zeroValue e,false)
   pure (if ok then .tuple #[v,.bool ok'] else v))
  have e2:=(hgo (fun x=>pure (if ok then .tuple #[x.1,.bool x.2] else x.1))).1
  simp only [Sem.run_bind] at e1;refine Eq.trans e1 ?_;refine Eq.trans ?_ e2;simp only [Sem.run_bind]
 ·cases ok with
  | true =>
   refine .tup rfl fun j x u hx hu=>?_;rcases j with _|_|j
   ·simp at hx hu;subst hx;subst hu;exact hrel.1.clr
   ·simp at hx hu;subst hx;subst hu;exact .bool b
   ·simp at hx
  | false=>exact hrel.1.clr
 ·cases ok with
  | true=>simp only [if_true,V.top,tops,top_clr];have:=hrel.2;omega
  | false=>simp only [zAD,if_false,top_clr];exact hrel.2
 ·cases ok with
  | true=>intro sz xs e he;simp at he
  | false=>intro sz xs e he;exact vf v sz xs e (by simpa using he)
end Go.Vm
namespace Go.Vm
open Go
variable {P:Program} {B:Base} {g:Gh} {s:St} {a:Act} {w:World}
theorem yX {w w':World} {c:Nat} (hh:w'.heap[c]?=w.heap[c]?) (o:Nat):w'.cell? ⟨c,o,none⟩=w.cell? ⟨c,o,none⟩:=by
 simp [World.cell?,hh]
theorem wB {c o:Nat} {v:Value} (h:w.cell? ⟨c,o,none⟩=some v):c<w.heap.size:=by
 rcases zAg c w.heap.size with h1|h1
 ·exact h1
 ·simp [World.cell?,Array.getElem?_eq_none h1] at h
def Gh.row (g:Gh) (N:Nat) (vs:List Value) (l:Option Loc):Gh :=
 {g with M:=fun c o=>if c=N then vs[o]? else g.M c o,own:=fun c=>if c=N then l else g.own c }
theorem Rel.settle (h:Rel B g s a w) (vs:List Value) (l:Option Loc) {w':World} (hsz:w.heap.size<w'.heap.size) (hold:∀ c,c<w.heap.size->w'.heap[c]?=w.heap[c]?)
  (hcell:∀ o v,vs[o]?=some v->w'.cell? ⟨w.heap.size,o,none⟩=some v) (hos:w'.os=w.os) (ht:w'.tape=w.tape) (hout:w'.output=w.output) :
  Rel B (g.row w.heap.size vs l) s a w':=by
 have hM:∀ c o v,g.M c o=some v->c<w.heap.size:=fun c o v hv=>wB (h.wok.mem c o v hv);refine h.master (b0:=none) (l0:=none) ?_ (zAR _) (fun _ _ _=>rfl) (fun b x hb hx=>?_) (fun b h1 h2=>?_) (fun b b' h1 h2=>?_) (fun c o v hv=>?_) (fun c l' hc=>?_) (fun b j e=>by cases e) rfl rfl
  (fun t x hx=>⟨x,hx,.inl ⟨rfl,fun e=>by cases e⟩⟩) h.edges h.lks h.lkl (fun _ e=>by cases e)
 ·refine ⟨⟨fun c o v hv=>?_,fun _ _=>rfl,rfl,fun _ _ _ _ e=>e⟩,fun c hc _ _=>hold c hc,fun c hc _=>?_,fun c hc _ o=>?_,zBa hsz,fun _ _ _=>rfl,fun l' hl'=>(by cases hl'),fun b hb=>(by cases hb),fun _ _ _ _=>rfl,hos,ht,hout⟩
  ·have:=hM c o v hv;simp only [Gh.row];rw [if_neg (by omega)]
   exact hv
  ·simp only [Gh.row];rw [if_neg (by omega)]
  ·simp only [Gh.row];rw [if_neg (by omega)]
 ·rcases hb with hb|hb
  ·cases hb
  ·have:=(zAG.1 hx).1;omega
 ·omega
 ·omega
 ·simp only [Gh.row] at hv;split at hv
  ·rename_i e;subst e;exact hcell o v hv
  ·rw [yX (hold c (hM c o v hv))];exact h.wok.mem c o v hv
 ·simp only [Gh.row] at hc;split at hc
  ·rename_i e;omega
  ·exact Nat.lt_trans (h.wok.ownlt c l' hc) hsz
theorem RelV.settled {n sz cap:Nat} {xs:List V} {vs:List Value} {ow:Own} {N:Nat} {l:Option Loc} (hx:∀ y:V,y∈xs->y.cells.length=sz) (hcap:xs.length<=cap) (hcs:RelCs g (zV xs) vs) (ht:tops (zV xs)<=n)
  (hle:Gh.Le n g (g.row N vs l)):RelV (g.row N vs l) (.sl sz xs ow) (.slice (some ⟨N,0,none⟩) xs.length cap):=by
 refine .sl (c:=N) (o:=0) (fun j=>vs.getD j .nilFunc) hx hcap (fun _=>rfl) hcs.one (fun j x hj=>?_) (fun j x hj=>?_)
 ·obtain ⟨v,hv,_⟩:=hcs.get hj;simp [Gh.row,hv,List.getD]
 ·obtain ⟨v,hv,hr⟩:=hcs.get hj;have:=hr.le hle (zAP (zo (zH hj)) ht);simpa [List.getD,hv] using this
end Go.Vm
namespace Go.Vm
open Go
variable {P:Program} {B:Base} {g:Gh} {s:St} {a:Act} {w:World}
theorem opO (h:Rel B g s a w) {x:Option Operand} {v:Option V} (hv:peekO s.env x=some v):zk1 g v (x.map a.eval):=by
 cases x with
 | none=>simp only [peekO,zAA] at hv;subst hv;trivial
 | some x =>
  simp only [peekO] at hv;split at hv<;>simp only [zAA,reduceCtorEq] at hv;rename_i u hu;subst hv;exact (zL h hu).1
theorem zgF (h:Rel B g s a w) {x:Operand} {u v:V} (hu:peek s.env x=some u)
  (hv:derefA u=some v) :
  ∃ cv,RelV g v cv/\v.top<=s.H.blks.length/\(∀ m l,OwnV g m w l v cv)/\cv=a.eval x/\((∃ p,cv=.pointer (some p))\/(∃ f fa fc,cv=.func (.func f) fa fc)\/∃ t u,cv=.iface t u):=by
 obtain ⟨h1,h2,h3⟩:=zL h hu;generalize a.eval x=cv at h1 h3;unfold derefA at hv;split at hv<;>simp only [zAA,reduceCtorEq] at hv
 all_goals
  subst hv;refine ⟨cv,h1,h2,h3,rfl,?_⟩;cases h1
  first
   |exact .inl ⟨_,rfl⟩
   |exact .inr (.inl ⟨_,_,_,rfl⟩)
   |exact .inr (.inr ⟨_,_,rfl⟩)
theorem RelCs.set {cs:List V} {vs:List Value} (h:RelCs g cs vs) {x:V} {v:Value} (h1:x.one=true) (hr:RelV g x v) (i:Nat):RelCs g (cs.set i x) (vs.set i v):=by
 refine ⟨by simp [h.len],fun j y hy=>?_,fun j y u hy hu=>?_⟩
 ·rw [zAx] at hy;split at hy
  ·split at hy<;>simp only [zAA,reduceCtorEq] at hy;subst hy;exact h1
  ·exact h.one j y hy
 ·rw [zAx] at hy hu;split at hy
  ·rename_i e;split at hy<;>simp only [zAA,reduceCtorEq] at hy;rename_i hi;rw [if_pos e,if_pos (by rw [<- h.len];exact hi)] at hu
   simp only [zAA] at hu;subst hy;subst hu;exact hr
  ·rename_i e;rw [if_neg e] at hu;exact h.rel j y u hy hu
theorem RelCs.tail {x:V} {xs:List V} {u:Value} {us:List Value} (h:RelCs g (x::xs) (u::us)):x.one=true/\RelV g x u/\RelCs g xs us :=
 ⟨h.one 0 x rfl,h.rel 0 x u rfl rfl,⟨by have:=h.len;simpa using this,fun j y hy=>h.one (j+1) y (by simpa using hy),fun j y v hy hv=>h.rel (j+1) y v (by simpa using hy) (by simpa using hv)⟩⟩
theorem RelCs.store:∀ {xs:List V} {us:List Value} {cs:List V} {vs:List Value} (off:Nat),RelCs g cs vs->RelCs g xs us->RelCs g (storeCells cs off xs) (storeCells vs off us)
 | [],[],_,_,_,h,_=>h
 | [],_::_,_,_,_,_,hx=>by have:=hx.len;simp at this
 | _::_,[],_,_,_,_,hx=>by have:=hx.len;simp at this
 | x::xs,u::us,cs,vs,off,h,hx=>by
  obtain ⟨h1,h2,h3⟩:=hx.tail;exact RelCs.store (off+1) (h.set h1 h2 off) h3
theorem vg {v:V} {cv:Value} (hr:RelV g v cv) (hc:okC v=true):RelCs g v.cells cv.cells.toList:=by
 by_cases ha:∃ cs,v=.agg cs
 ·obtain ⟨cs,rfl⟩:=ha;obtain ⟨arr,rfl,h⟩:=wz hr;exact h
 ·have h1:v.one=true:=by
   cases v<;>first
    |rfl
    |(simp [okC] at hc;done)
    |exact absurd ⟨_,rfl⟩ ha
  have e1:v.cells=[v]:=by
   cases v<;>first
    |rfl
    |exact absurd ⟨_,rfl⟩ ha
  have e2:cv.cells.toList=[cv]:=by
   have:=hr.oneCell h1;cases cv<;>first
    |rfl
    |(simp [Value.oneCell'] at this)
  rw [e1,e2];refine ⟨rfl,fun j x hx=>?_,fun j x u hx hu=>?_⟩
  ·cases j with
   | zero=>simp at hx;subst hx;exact h1
   | succ j=>simp at hx
  ·cases j with
   | zero=>simp at hx hu;subst hx;subst hu;exact hr
   | succ j=>simp at hx
theorem za2 (off:Nat):∀ (l:List Value) (k:Nat) (arr:Array Value),((l.zipIdx k).foldl (fun cs (p:Value×Nat)=>cs.setIfInBounds (off+p.2) p.1) arr).toList=storeCells arr.toList (off+k) l
 | [],_,_=>rfl
 | x::l,k,arr=>by
  simp only [List.zipIdx_cons,List.foldl_cons];rw [za2 off l (k+1) _];simp [storeCells,zBj]
theorem jH {α:Type}:∀ (vs:List α) (cs:List α) (off:Nat),(storeCells cs off vs).length=cs.length
 | [],_,_=>rfl
 | v::vs,cs,off=>by simp only [storeCells];rw [jH vs];simp
theorem zdy {cs:List V} {i:Nat} {x:V} {n:Nat} (h:tops cs<=n) (hx:x.top<=n):tops (cs.set i x)<=n :=
 qS fun y hy=>by
  rcases List.mem_or_eq_of_mem_set hy with hy|rfl
  ·exact zAP (zo hy) h
  ·exact hx
theorem wM {n:Nat}:∀ {vs cs:List V} {off:Nat},tops cs<=n->tops vs<=n->tops (storeCells cs off vs)<=n
 | [],_,_,h,_=>h
 | v::vs,cs,off,h,hv=>by
  simp only [tops] at hv;have:=zBP.1 hv;show tops (storeCells (cs.set off v) (off+1) vs)<=n;exact wM (cs:=cs.set off v) (zdy h this.1) this.2
theorem v7 (v:V):tops v.cells<=v.top:=qS fun _ hx=>zay hx
theorem zfz (h:Rel B g s a w) {pA pC:Nat->Option (Nat×Nat)} (hp:∀ i x,pA i=some x->pC i=some x):∀ {parts:List (Nat×Operand)} {cs cs':List V} {arr:Array Value},RelCs g cs arr.toList->tops cs<=s.H.blks.length ->
  w9 cs pA s.env parts=some cs'->∃ arr',Instr.fill pC arr (parts.map fun (i,x)=>(i,a.eval x))=some arr'/\RelCs g cs' arr'.toList/\tops cs'<=s.H.blks.length
 | [],cs,cs',arr,hr,ht,hf=>by simp only [w9,zAA] at hf;subst hf;exact ⟨arr,rfl,hr,ht⟩
 | (i,x)::parts,cs,cs',arr,hr,ht,hf=>by
  simp only [w9,Option.bind_eq_bind,zAM] at hf;obtain ⟨v,hv,⟨off,n⟩,hpl,hf⟩:=hf;split at hf
  ·rename_i hc;simp only [zAF,Nat.beq_eq,Nat.ble_eq] at hc;obtain ⟨⟨hc1,hc2⟩,hc3⟩:=hc;obtain ⟨h1,h2,h3⟩:=zL h hv;have hcs:=vg h1 hc1;have hsz:(a.eval x).cells.size=n:=by rw [<- hc2,hcs.len];simp
   have hasz:arr.size=cs.length:=by have:=hr.len;simp at this;exact this.symm
   have hfold:((a.eval x).cells.zipIdx.foldl (fun cs (p:Value×Nat)=>cs.setIfInBounds (off+p.2) p.1) arr).toList=storeCells arr.toList off (a.eval x).cells.toList:=by
    rw [<- Array.foldl_toList,Array.toList_zipIdx];have:=za2 off (a.eval x).cells.toList 0 arr;simpa using this
   have hst:=hr.store off hcs;rw [<- hfold] at hst;obtain ⟨arr',f1,f2,f3⟩:=zfz h hp hst (wM ht (zAP (v7 v) h2)) hf;refine ⟨arr',?_,f2,f3⟩;simp only [zAX,Instr.fill,hp i _ hpl];have:¬ (((a.eval x).cells.size≠n || off+(a.eval x).cells.size > arr.size)=true):=by
    rw [hsz,hasz];simp;exact hc3
   simp only [this];exact f1
  ·cases hf
theorem zj3 (h:Rel B g s a w) {t:TypeId} {parts:Array (Nat×Operand)} {v:V} (hb:jE P t parts s.env=some v) :
  zeL P g s.H.blks.length w (Instr.build t (parts.map fun (i,x)=>(i,a.eval x))) v:=by
 unfold jE at hb;split at hb
 ·cases hb
 ·rename_i z hz;split at hb
  ·cases hb
  ·rename_i hok;obtain ⟨cz,z1,z2,z3,_,hzz⟩:=yW (g:=g) hz w;have hcs:=vg z2 (by simpa using hok)
   have htz:tops z.cells<=s.H.blks.length:=zAP (v7 z) (by omega)
   simp only [zAM] at hzz;obtain ⟨it,hit,hiz⟩:=hzz;have hparts:(parts.map fun (i,x)=>(i,a.eval x)).toList=parts.toList.map fun (i,x)=>(i,a.eval x):=by simp
   split at hb
   ·rename_i fs hd;split at hb
    ·rename_i ps hps;simp only [zAd] at hb;obtain ⟨cs',hf,rfl⟩:=hb;obtain ⟨arr',f1,f2,f3⟩:=zfz h (pC:=fun i=>ps.toArray[i]?) (fun i x hx=>by rw [zq] at hx;simpa using hx) hcs htz hf
     refine ⟨.agg arr',run_build w t _ arr' ?_,f2.agg,f3,fun _ _=>trivial⟩;unfold zft at hps;rw [hparts];simp only [Program.built,hit,hd,hiz,hps];exact f1
    ·cases hb
   ·rename_i n e hd;split at hb
    ·rename_i ie hie;simp only [zAd] at hb;obtain ⟨cs',hf,rfl⟩:=hb;obtain ⟨arr',f1,f2,f3⟩:=zfz h (pC:=fun i=>some (i * ie.size,ie.size)) (fun i x hx=>hx) hcs htz hf;refine ⟨.agg arr',run_build w t _ arr' ?_,f2.agg,f3,fun _ _=>trivial⟩;rw [hparts];simp only [Program.built,hit,hd,hiz,hie];exact f1
    ·cases hb
   ·cases hb
theorem ky {α:Type}:∀ (new old pre post:List α),old.length=new.length->storeCells (pre++old++post) pre.length new=pre++new++post
 | [],old,pre,post,h=>by
  have:old=[]:=List.eq_nil_of_length_eq_zero h;subst this;rfl
 | v::new,[],pre,post,h=>by simp at h
 | v::new,x::old,pre,post,h=>by
  simp only [storeCells];have e:(pre++(x::old)++post).set pre.length v=(pre++[v])++old++post:=by
   simp
  rw [e];have:=ky new old (pre++[v]) post (by simpa using h)
  simp only [zAi,zAS,List.length_nil,zAT] at this;rw [this];simp
theorem zgG {n:Nat} {v:V} (hv:v.cells.length=n):∀ {xs:List V} {i:Nat},(∀ y:V,y∈xs->y.cells.length=n)->i<xs.length->zV (xs.set i v)=storeCells (zV xs) (i * n) v.cells
 | [],i,_,hi=>by simp at hi
 | x::xs,0,hs,_=>by
  have:=ky v.cells x.cells [] (zV xs) (by rw [hs x (zAL ..),hv])
  simp only [zAW,List.length_nil] at this;simp only [zV,zAI,zBK,Nat.zero_mul] at *;exact this.symm
 | x::xs,i+1,hs,hi=>by
  have ih:=zgG hv (xs:=xs) (i:=i) (fun y hy=>hs y (zAE _ hy)) (by simpa using hi)
  have hx:=hs x (zAL ..);simp only [zV,zAJ,zBK] at *;rw [ih];have shift:∀ (l:List V) (r:List V) (k:Nat),x.cells++storeCells l k r=storeCells (x.cells++l) (n+k) r:=by
   intro l r
   induction r generalizing l with
   | nil=>intro k;rfl
   | cons y r ihr =>
    intro k;simp only [storeCells];rw [ihr (l.set k y) (k+1)];have e:(x.cells++l).set (n+k) y=x.cells++l.set k y:=by
     rw [zBH _ _ (by omega),hx,Nat.add_sub_cancel_left]
    rw [e];rfl
  rw [shift]
  congr 1
  rw [zBW];omega
theorem kz {z:V} {n:Nat} (hz:z.cells.length=n):∀ (len j:Nat),j<len * n->(zV (List.replicate len z))[j]?=z.cells[j % n]?
 | 0,j,h=>by simp at h
 | k+1,j,h=>by
  have hn:0<n:=by
   rcases zBn n with h0|h0
   ·subst h0;simp at h
   ·exact h0
  simp only [List.replicate_succ,zV,zBK];rcases zAg j n with h1|h1
  ·rw [zAe (by omega),zBY h1]
  ·rw [zAf (by omega),hz]
   have:=kz hz k (j - n) (by rw [zBW] at h;omega)
   simp only [zV] at this;rw [this,Nat.mod_eq_sub_mod h1]
theorem ziQ (h:Rel B g s a w) {n len:Nat}:∀ {parts:List (Nat×Operand)} {xs xs':List V} {arr:Array Value},xs.length=len->(∀ y:V,y∈xs->y.cells.length=n)->RelCs g (zV xs) arr.toList->tops xs<=s.H.blks.length ->
  zbs n len s.env xs parts=some xs'->∃ arr',Instr.fill (fun i=>some (i * n,n)) arr (parts.map fun (i,x)=>(i,a.eval x))=some arr'/\RelCs g (zV xs') arr'.toList/\xs'.length=len/\(∀ y:V,y∈xs'->y.cells.length=n)/\tops xs'<=s.H.blks.length
 | [],xs,xs',arr,hl,hs,hr,ht,hf=>by simp only [zbs,zAA] at hf;subst hf;exact ⟨arr,rfl,hr,hl,hs,ht⟩
 | (i,x)::parts,xs,xs',arr,hl,hs,hr,ht,hf=>by
  simp only [zbs,Option.bind_eq_bind,zAM,zO,fSet_eq] at hf;obtain ⟨v,hv,hf⟩:=hf;split at hf
  ·rename_i hc;simp only [zAF,Nat.beq_eq,zBq] at hc;obtain ⟨⟨hc1,hc2⟩,hc3⟩:=hc;obtain ⟨h1,h2,h3⟩:=zL h hv;have hcs:=vg h1 hc1;have hsz:(a.eval x).cells.size=n:=by rw [<- hc2,hcs.len];simp
   have hasz:arr.size=len * n:=by
    have:=hr.len;rw [qu hs,hl] at this;simpa using this.symm
   have hfold:((a.eval x).cells.zipIdx.foldl (fun cs (p:Value×Nat)=>cs.setIfInBounds (i * n+p.2) p.1) arr).toList=storeCells arr.toList (i * n) (a.eval x).cells.toList:=by
    rw [<- Array.foldl_toList,Array.toList_zipIdx];have:=za2 (i * n) (a.eval x).cells.toList 0 arr;simpa using this
   have hst:=hr.store (i * n) hcs;rw [<- hfold,<- zgG hc2 hs (by rw [hl];exact hc3)] at hst
   obtain ⟨arr',f1,f2⟩:=ziQ h (xs:=xs.set i v) (by simpa using hl) (fun y hy=>by
    rcases List.mem_or_eq_of_mem_set hy with hy|rfl
    ·exact hs y hy
    ·exact hc2) hst (zdy ht h2) hf
   refine ⟨arr',?_,f2⟩;simp only [zAX,Instr.fill];have hle:i * n+n<=len * n:=by
    have:=zBk n (Nat.succ_le_of_lt hc3);rw [Nat.succ_mul] at this;exact this
   have:¬ (((a.eval x).cells.size≠n || i * n+(a.eval x).cells.size > arr.size)=true):=by
    rw [hsz,hasz];simp;exact hle
   simp only [this];exact f1
  ·cases hf
theorem yY {xs:List V}:tops (zV xs)<=tops xs:=qS fun _ hx=>zdu hx
theorem zey (h:Rel B g s a w) {t e:TypeId} {len n:Nat} {parts:Array (Nat×Operand)} {z:V} {xs:List V} (hd:P.underlying t=some (.slice e)) (hn:qc P e=some n) (hz:qi P e=some z)
  (hc:(Nat.beq n 0 || Nat.blt 16777216 (len * n) || !Nat.beq z.cells.length n || !okC z)=false) (hx:zbs n len s.env (List.replicate len z) parts.toList=some xs) {o:Oper} (ho:o.op=.buildSlice t len parts) :
  zcf P B s a w g o (.sl n xs (.yes e)):=by
 simp only [zBX,Bool.not_eq_false'] at hc;obtain ⟨⟨⟨c1,c2⟩,c3⟩,c4⟩:=hc;have c1':n≠0:=by intro e;subst e;simp at c1
 have c2':¬ len * n > 16777216:=by
  intro hlt;have:Nat.blt 16777216 (len * n)=true:=by rw [zBq];exact hlt
  rw [this] at c2;cases c2
 have c3':z.cells.length=n:=zAQ c3;obtain ⟨cz,z1,z2,z3,_,_⟩:=yW (g:=g) hz w;have hcz:=vg z2 c4;have hczs:cz.cells.size=n:=by rw [<- c3',hcz.len];simp
 have harr:RelCs g (zV (List.replicate len z)) ((Array.range (len * n)).map (fun j=>(cz.cells)[j % cz.cells.size]!)).toList:=by
  have hfl:(zV (List.replicate len z)).length=len * n:=by rw [qu (sz:=n) fun y hy=>by rw [(List.mem_replicate.1 hy).2];exact c3'];simp
  refine ⟨by rw [hfl];simp,fun j x hx=>?_,fun j x v hx hv=>?_⟩
  ·have hj:j<len * n:=by rw [<- hfl];exact (zAG.1 hx).1
   rw [kz c3' len j hj] at hx;exact hcz.one _ x hx
  ·have hj:j<len * n:=by rw [<- hfl];exact (zAG.1 hx).1
   rw [kz c3' len j hj] at hx;have hm:j % n<cz.cells.size:=by rw [hczs];exact Nat.mod_lt _ (by omega)
   simp only [Array.toList_map,Array.toList_range,zAl,List.getElem?_range,hj,zAC,zAA,hczs] at hv;rw [getElem!_pos cz.cells (j % n) hm] at hv;refine hcz.rel _ x v hx ?_;rw [zBb,zA5 hm,hv]
 obtain ⟨arr',f1,f2,f3,f4,f5⟩:=ziQ h (xs:=List.replicate len z) (len:=len) (n:=n) (by simp) (fun y hy=>by rw [(List.mem_replicate.1 hy).2];exact c3') harr
  (qS fun y hy=>by rw [(List.mem_replicate.1 hy).2];omega) hx
 have hparts:(parts.map fun (i,x)=>(i,a.eval x)).toList=parts.toList.map fun (i,x)=>(i,a.eval x):=by simp
 have hsize:arr'.size=len * n:=by
  have:=f2.len;rw [qu f4,f3] at this;simpa using this.symm
 have hrun:(Instr.buildSlice t len (parts.map fun (i,x)=>(i,a.eval x))).run P w=.ok (.slice (some ⟨w.heap.size,0,none⟩) len len) (w.alloc (.cells arr' e)):=by
  unfold Instr.buildSlice;rcases zBn len with h0|h0
  ·subst h0;simp only [Nat.zero_mul] at f1 hsize;have r0:Array.range 0=#[]:=rfl;have f1':Instr.fill (fun i=>some (i * n,n)) #[] (parts.toList.map fun (i,x)=>(i,a.eval x))=some arr':=by simpa [r0] using f1
   simp only [Sem.run_bind,run_underlying hd,jn hn,Result.andThen_ok,Nat.zero_mul,r0,hparts];simp [f1',newRow]
   try rfl
  ·have:¬ len * n=0:=by
    intro e0;rcases Nat.mul_eq_zero.1 e0 with e0|e0<;>omega
   simp [run_underlying hd,jn hn,c2',this,z1,f1,newRow]
   try rfl
 refine ⟨g.row w.heap.size arr'.toList (o.dst.map (Loc.slot B.d)),.slice (some ⟨w.heap.size,0,none⟩) len len,w.alloc (.cells arr' e),by simp only [execOp,ho,Sem.run_bind,hrun,Result.andThen_ok,Sem.run_pure],?_⟩
 have hrel:=h.settle arr'.toList (o.dst.map (Loc.slot B.d)) (w':=w.alloc (.cells arr' e)) (by simp) (fun c hc=>heap_alloc_old w _ hc) (fun o v hv=>by rw [World.cell?_alloc_new];simpa using hv) rfl rfl rfl
 have hlt:∀ b,b<s.H.blks.length->g.blk b<w.heap.size:=h.wok.lt;have hle:Gh.Le s.H.blks.length g (g.row w.heap.size arr'.toList (o.dst.map (Loc.slot B.d))):=by
  refine ⟨fun c o v hv=>?_,fun _ _=>rfl,rfl,fun _ _ _ _ e=>e⟩;have:=wB (h.wok.mem c o v hv);simp only [Gh.row];rw [if_neg (by omega)];exact hv
 refine ⟨hrel,?_,fun t ht=>?_,f5⟩
 ·have:=RelV.settled (g:=g) (ow:=.yes e) (N:=w.heap.size) (l:=o.dst.map (Loc.slot B.d)) (cap:=len) f4 (by omega) f2 (zAP yY f5) hle
  rw [f3] at this;exact this
 ·refine ⟨arr'.toList,⟨by simp [hsize,f3],.inr ⟨w.heap.size,len,arr',by rw [f3],zAU _,heap_alloc_new w _,by omega,?_,hsize,?_⟩⟩,fun c hc=>?_⟩
  ·have:len<=len * n:=Nat.le_mul_of_pos_right _ (by omega)
   simp only [maxLen];omega
  ·rw [zBM (by simp [hsize,f3])]
  ·simp only [Value.ownBlock,zAA] at hc;subst hc;refine ⟨by simp [Gh.row,ht],fun o ho=>?_,fun b hb e=>?_⟩
   ·simp only [Gh.row,if_true];exact zAu (by simp [hsize];rw [f3] at ho;exact ho)
   ·have:=hlt b hb;have e':g.blk b=w.heap.size:=e;omega
theorem zgH (h:Rel B g s a w) {src dst:TypeId} {l:List Nat} {v:V} {x:Operand} {o:Oper} (hr:yT P src dst (.str l)=some v) (hx:RelV g (.str l) (a.eval x)) (hnd:P.underlying dst≠some .string) (ho:o.op=.convert src dst x) :
  zcf P B s a w g o v:=by
 simp only [yT,Option.bind_eq_bind,zAM] at hr;obtain ⟨ds,hs,dd,hd,hr⟩:=hr;generalize he:a.eval x=cx at hx;cases hx with
 | str hl =>
  split at hr<;>try (cases hr;done)
  ·rename_i e;cases e
  ·rename_i e;cases e
  ·exact absurd hd hnd
  ·rename_i e;cases e
  ·rename_i e;cases e
  ·rename_i e l' hl';cases hl';simp only [zAM] at hr;obtain ⟨d8,h8,hr⟩:=hr;split at hr<;>simp only [zAA,reduceCtorEq] at hr;subst hr;have hsz:(bytes l).size=l.length:=jO l;have hcap:=grownCap_ge w (bytes l).size 0 e;generalize hC:grownCap w (bytes l).size 0 e=cap at hcap;have hrun:=run_bytes_of_string (P:=P) w src dst e (bytes l) hs hd h8;rw [hC] at hrun
   have hrow:∀ (j:Nat) (b:Nat),l[j]?=some b->(bytesRow (bytes l) cap)[j]?=some (.int .u8 b):=fun j b hb=>by
    have hj:=(zAG.1 hb).1;have hb2:=hl b (zH hb);unfold bytesRow;rw [Array.getElem?_append_left (by simp [bytes];exact hj)]
    simp [bytes,hb,UInt8.toNat_ofNat',zBY hb2]
   have hfl:zV (l.map fun (b:Nat)=>V.int .u8 b)=l.map fun (b:Nat)=>V.int .u8 b:=by
    clear hrow hl hsz hcap hC hrun he
    induction l with
    | nil=>rfl
    | cons n ns ih=>simp only [zV,zAX,zBK,V.cells] at *;rw [ih];rfl
   have hrel:=h.settle (l.map fun (b:Nat)=>Value.int .u8 b) none (w':=w.drew.alloc (.cells (bytesRow (bytes l) cap) e ((bytesRow (bytes l) cap).size,(bytesRow (bytes l) cap).size+1)))
    (by show _<(w.heap.push _).size;simp) (fun c hc=>heap_alloc_old w.drew _ hc) (fun o v hv=>by
     simp only [zAl,zAd] at hv;obtain ⟨b,hb,rfl⟩:=hv;rw [<- hrow o b hb]
     exact World.cell?_alloc_mark w.drew _ _ _ o) rfl rfl rfl
   have hle:Gh.Le s.H.blks.length g (g.row w.heap.size (l.map fun (b:Nat)=>Value.int .u8 b) none):=by
    refine ⟨fun c o v hv=>?_,fun _ _=>rfl,rfl,fun _ _ _ _ e=>e⟩;have:=wB (h.wok.mem c o v hv);simp only [Gh.row];rw [if_neg (by omega)];exact hv
   refine ⟨_,_,_,by simp only [execOp,ho,he,Sem.run_bind,hrun,Result.andThen_ok,Sem.run_pure];rfl,hrel,?_,fun _ _=>trivial,?_⟩
   ·have:=RelV.settled (g:=g) (n:=s.H.blks.length) (ow:=.no) (N:=w.heap.size) (l:=none) (sz:=1) (xs:=l.map fun (b:Nat)=>V.int .u8 b) (vs:=l.map fun (b:Nat)=>Value.int .u8 b) (cap:=cap)
     (fun y hy=>by obtain ⟨b,_,rfl⟩:=zA4.1 hy;rfl) (by simp;omega) ?_ ?_ hle
    ·rw [hsz];simpa using this
    ·rw [hfl];refine ⟨by simp,fun j x hx=>?_,fun j x v hx hv=>?_⟩
     ·simp only [zAl,zAd] at hx;obtain ⟨b,hb,rfl⟩:=hx;rfl
     ·simp only [zAl,zAd] at hx hv;obtain ⟨b,hb,rfl⟩:=hx;obtain ⟨b',hb',rfl⟩:=hv;rw [hb] at hb';cases hb';exact .int _ _
    ·rw [hfl];exact qS fun y hy=>by obtain ⟨b,_,rfl⟩:=zA4.1 hy;exact zAU _
   ·simp only [V.top];exact qS fun y hy=>by obtain ⟨b,_,rfl⟩:=zA4.1 hy;exact zAU _
theorem zfA (h:Rel B g s a w) {gl:Nat->Nat->Option V} (hgl:GlOk P gl g) {o:Oper} {v:V} (hr:qj P gl o s.env s.H=some v):zcf P B s a w g o v:=by
 obtain ⟨dst,op,type,pos,after,guard⟩:=o;cases op<;>simp only [qj,Option.bind_eq_bind,zAM,reduceCtorEq] at hr
 case move x =>
  obtain ⟨h1,h2,h3⟩:=zL h hr;exact ⟨g,a.eval x,w,by simp [execOp],⟨h,h1,fun _ _=>h3 _ _,h2⟩⟩
 case pick c x y =>
  obtain ⟨vc,hc,hr⟩:=hr;split at hr<;>try (cases hr;done)
  rename_i t;obtain ⟨c1,_,_⟩:=zL h hc;generalize hce:a.eval c=cc at c1;cases c1;cases t with
  | true =>
   simp only at hr;obtain ⟨h1,h2,h3⟩:=zL h hr;exact ⟨g,a.eval x,w,by simp [execOp,hce,asBool],⟨h,h1,fun _ _=>h3 _ _,h2⟩⟩
  | false =>
   simp only at hr;obtain ⟨h1,h2,h3⟩:=zL h hr;exact ⟨g,a.eval y,w,by simp [execOp,hce,asBool],⟨h,h1,fun _ _=>h3 _ _,h2⟩⟩
 case build t parts=>exact v5 h (zj3 (P:=P) h hr) rfl
 case load t x =>
  obtain ⟨p,hp,u,hu,hr⟩:=hr;simp only [zAA] at hr;subst hr;obtain ⟨h1,h2,h3⟩:=zL h hp;obtain ⟨cv,c1,c2,c3⟩:=zgD h hgl h1 h2 hu;exact v5 h ⟨cv,c1,c2.clr,by rw [top_clr];exact c3,fun _ _=>ki _ _ _ _ _ _⟩ rfl
 case nilCheck x =>
  obtain ⟨u,hu,hr⟩:=hr;obtain ⟨cv,h1,h2,h3,h4,h5⟩:=zgF h hu hr;refine ⟨g,cv,w,?_,⟨h,h1,fun _ _=>h3 _ _,h2⟩⟩;rcases h5 with ⟨p,h5⟩|⟨f,fa,fc,h5⟩|⟨t,u,h5⟩
  ·simp [execOp,<- h4,h5]
  ·simp [execOp,<- h4,h5]
  ·simp [execOp,<- h4,h5]
 case binOp op t x y yt =>
  obtain ⟨u,hu,v',hv',hr⟩:=hr;split at hr
  ·rename_i hg;obtain ⟨u1,u2,_⟩:=zL h hu;obtain ⟨v1,v2,_⟩:=zL h hv';have e1:=guard_ok hg u1 v1 w;obtain ⟨cv,c1,c2,c3,c4⟩:=zmW hr u1 v1 w;exact ⟨g,cv,w,by simp [execOp,e1,c1],⟨h,c2,fun _ _=>c4 _ _,by omega⟩⟩
  ·cases hr
 case unOp op t x =>
  obtain ⟨u,hu,hr⟩:=hr;exact v5 h (zov hr (zL h hu).1 _ w) rfl
 case makeInterface t x =>
  obtain ⟨u,hu,hr⟩:=hr;split at hr<;>simp only [zAA,reduceCtorEq] at hr;rename_i hi;subst hr;obtain ⟨u1,u2,_⟩:=zL h hu;refine ⟨g,.iface t (a.eval x),w,?_,⟨h,.ifc u1,fun _ _=>trivial,u2⟩⟩;unfold kV at hi;cases hd:P.underlying t with
  | none=>simp [hd] at hi
  | some d =>
   rw [hd] at hi;cases d<;>first|(simp at hi;done)|simp [execOp,Instr.makeInterface,run_underlying hd]
 case convert src dst x =>
  obtain ⟨u,hu,hr⟩:=hr;obtain ⟨u1,u2,_⟩:=zL h hu
  by_cases hns:∀ s,u≠.str s\/P.underlying dst=some .string
  ·exact v5 h (zk3 hr u1 hns h.wok.mem) rfl
  ·obtain ⟨l,hl⟩:∃ l,u=.str l:=by
    apply Classical.byContradiction;intro hno;exact hns fun s=>.inl fun e=>hno ⟨s,e⟩
   subst hl;have hnd:P.underlying dst≠some .string:=fun e=>hns fun s=>.inr e;exact zgH h hr u1 hnd rfl
 case makeFunc fn first cap =>
  obtain ⟨as,has,cs,hcs,hr⟩:=hr;simp only [zAA] at hr;subst hr;obtain ⟨a1,a2,a3,_⟩:=zbz h has;obtain ⟨c1,c2,c3,_⟩:=zbz h hcs;refine ⟨g,.func fn (first.map a.eval) (cap.map a.eval),w,by simp [execOp,Instr.makeFunc],⟨h,.fn (by simpa using a1) (by simpa using c1) (fun j x v hx hv=>a2 j x v hx (by simpa using hv)) (fun j x v hx hv=>c2 j x v hx (by simpa using hv)),fun _ _=>trivial,?_⟩⟩
  simp only [V.top];exact zBP.2 ⟨a3,c3⟩
 case slice t x lo hi mx =>
  split at hr
  ·cases hr
  ·rename_i hmx;have hmx':mx=none:=by cases mx<;>simp at hmx ⊢
   subst hmx';simp only [zAM] at hr;obtain ⟨lo',hlo,hi',hhi,u,hu,hr⟩:=hr;obtain ⟨u1,u2,_⟩:=zL h hu;exact v5 h (zj0 hr u1 (opO h hlo) (opO h hhi) u2 w) rfl
 case fieldAddr t x f =>
  obtain ⟨ds,hd,hr⟩:=hr;split at hr<;>try (cases hr;done)
  rename_i fs;simp only [zAM] at hr;obtain ⟨fd,hf,sz,hsz,hr⟩:=hr;split at hr
  ·cases hr
  ·rename_i h0;simp only [zAM] at hr;obtain ⟨u,hu,hr⟩:=hr;obtain ⟨u1,u2,_⟩:=zL h hu;have h0':Nat.beq sz 0=false:=by revert h0;cases Nat.beq sz 0<;>simp
   generalize he:a.eval x=cx at u1;split at hr<;>simp only [zAA,reduceCtorEq] at hr
   ·subst hr;cases u1;exact ⟨g,_,w,by simp only [execOp,he,Sem.run_bind,wW hd hf hsz h0',Result.andThen_ok,Sem.run_pure],⟨h,.ptr _ _,fun _ _=>trivial,u2⟩⟩
   ·subst hr;cases u1;exact ⟨g,_,w,by simp only [execOp,he,Sem.run_bind,wW hd hf hsz h0',Result.andThen_ok,Sem.run_pure],⟨h,.gptr _ _,fun _ _=>trivial,u2⟩⟩
   ·rename_i b9 u9 k9 _;subst hr;cases u1 with
    | ulp _ hh =>
     have e0:=RelV.ulp (k9+fd.offset) hh;rw [<- zBj] at e0;exact ⟨g,_,w,by simp only [execOp,he,Sem.run_bind,wW hd hf hsz h0',Result.andThen_ok,Sem.run_pure],⟨h,e0,fun _ _=>trivial,u2⟩⟩
   ·subst hr;obtain ⟨c,o,rfl⟩:∃ c o,cx=.pointer (some ⟨c,o,none⟩):=by cases u1;exact ⟨_,_,rfl⟩
    exact ⟨g,_,w,by simp only [execOp,he,Sem.run_bind,wW hd hf hsz h0',Result.andThen_ok,Sem.run_pure],⟨h,u1.vp_drop _,fun _ _=>trivial,zAP (tops_drop _ _) u2⟩⟩
 case field t x f =>
  obtain ⟨ds,hd,hr⟩:=hr;split at hr<;>try (cases hr;done)
  rename_i fs;simp only [zAM] at hr;obtain ⟨fd,hf,u,hu,hr⟩:=hr;split at hr<;>try (cases hr;done)
  rename_i cs;simp only [zAd] at hr;obtain ⟨v',hr,rfl⟩:=hr;obtain ⟨u1,u2,_⟩:=zL h hu;obtain ⟨arr,he,hcs⟩:=wz u1;obtain ⟨cv,c1,c2,c3,_⟩:=zaz (P:=P) hcs hr w;refine v5 h ⟨cv,?_,c2.clr,by rw [top_clr];exact zAP c3 u2,fun _ _=>ki _ _ _ _ _ _⟩ rfl
  rw [he];unfold Instr.field;simp [run_underlying hd,hf,asAgg,c1]
 case indexAddr t x ix =>
  obtain ⟨iv,hi,hr⟩:=hr;split at hr<;>try (cases hr;done)
  rename_i k i;simp only [zAM] at hr;obtain ⟨u,hu,hr⟩:=hr;obtain ⟨u1,u2,_⟩:=zL h hu;have i1:=(zL h hi).1;generalize hei:a.eval ix=ci at i1;cases i1;generalize he:a.eval x=cx at u1;unfold z8 at hr;split at hr
  ·rename_i len e hd;split at hr
   ·cases hr
   ·rename_i n hn;split at hr
    ·split at hr<;>simp only [zAA,reduceCtorEq] at hr;rename_i hb;subst hr;cases u1;exact ⟨g,_,w,by simp only [execOp,he,hei,Sem.run_bind,vP hd hn hb.1 hb.2,Result.andThen_ok,Sem.run_pure],⟨h,.ptr _ _,fun _ _=>trivial,u2⟩⟩
    ·split at hr<;>simp only [zAA,reduceCtorEq] at hr;rename_i hb;subst hr;cases u1;exact ⟨g,_,w,by simp only [execOp,he,hei,Sem.run_bind,vP hd hn hb.1 hb.2,Result.andThen_ok,Sem.run_pure],⟨h,.gptr _ _,fun _ _=>trivial,u2⟩⟩
    ·split at hr<;>simp only [zAA,reduceCtorEq] at hr;rename_i hb;rename_i b9 u9 k9 _;subst hr;cases u1 with
     | ulp _ hh =>
      have e0:=RelV.ulp (k9+i.toNat * n) hh;rw [<- zBj] at e0;exact ⟨g,_,w,by simp only [execOp,he,hei,Sem.run_bind,vP hd hn hb.1 hb.2,Result.andThen_ok,Sem.run_pure],⟨h,e0,fun _ _=>trivial,u2⟩⟩
    ·split at hr<;>simp only [zAA,reduceCtorEq] at hr;rename_i hb;subst hr;obtain ⟨c,o,rfl⟩:∃ c o,cx=.pointer (some ⟨c,o,none⟩):=by cases u1;exact ⟨_,_,rfl⟩
     exact ⟨g,_,w,by simp only [execOp,he,hei,Sem.run_bind,vP hd hn hb.1 hb.2,Result.andThen_ok,Sem.run_pure],⟨h,u1.vp_drop _,fun _ _=>trivial,zAP (tops_drop _ _) u2⟩⟩
    ·cases hr
  ·rename_i e hd;split at hr
   ·cases hr
   ·rename_i n hn;split at hr
    ·rename_i sz xs ow _;split at hr
     ·rename_i hsz;have hsz':n=sz:=zAQ hsz;subst hsz';split at hr
      ·cases hr
      ·rename_i hi0;split at hr<;>simp only [zAA,reduceCtorEq] at hr;rename_i y hy;rw [zq] at hy;subst hr;obtain ⟨ad,cap,rfl,hcap,had⟩:=u1.sl_form;obtain ⟨c,o,rfl⟩:=had (by rintro rfl;simp at hy)
       have hlt:=(zAG.1 hy).1
       exact ⟨g,_,w,by simp only [execOp,he,hei,Sem.run_bind,yJ hd hn (show 0<=i by omega) (show i<(xs.length:Int) by omega),Result.andThen_ok,Sem.run_pure],
        ⟨h,u1.elem hy,fun _ _=>trivial,zAP (v7 y) (zAP (zo (zH hy)) u2)⟩⟩
     ·cases hr
    ·split at hr<;>simp only [zAA,reduceCtorEq] at hr;rename_i hb;subst hr;cases u1;exact ⟨g,_,w,by simp only [execOp,he,hei,Sem.run_bind,yJ hd hn hb.1 hb.2,Result.andThen_ok,Sem.run_pure],⟨h,.ptr _ _,fun _ _=>trivial,u2⟩⟩
    ·split at hr<;>simp only [zAA,reduceCtorEq] at hr;rename_i hb;subst hr;cases u1 with
     | ulr hh =>
      exact ⟨g,_,w,by simp only [execOp,he,hei,Sem.run_bind,yJ hd hn hb.1 hb.2,Result.andThen_ok,Sem.run_pure],⟨h,.ulp _ hh,fun _ _=>trivial,u2⟩⟩
    ·cases hr
  ·cases hr
 case index t x ix =>
  obtain ⟨iv,hi,hr⟩:=hr;split at hr<;>try (cases hr;done)
  rename_i k i;simp only [zAM] at hr;obtain ⟨u,hu,hr⟩:=hr;obtain ⟨u1,u2,_⟩:=zL h hu;have i1:=(zL h hi).1;generalize hei:a.eval ix=ci at i1;cases i1;generalize he:a.eval x=cx at u1;unfold zcd at hr;split at hr
  ·rename_i len e hd;split at hr
   ·cases hr
   ·rename_i n hn;split at hr
    ·split at hr<;>simp only [zAd,reduceCtorEq] at hr;rename_i hb;obtain ⟨v',hr,rfl⟩:=hr;obtain ⟨arr,rfl,hcs⟩:=wz u1;obtain ⟨cv,c1,c2,c3⟩:=zex (k:=k) hd hn hcs hb.1 hb.2 hr w;exact ⟨g,cv,w,by simp only [execOp,he,hei,Sem.run_bind,c1,Result.andThen_ok,Sem.run_pure],⟨h,c2.clr,fun _ _=>ki _ _ _ _ _ _,by rw [top_clr];exact zAP c3 u2⟩⟩
    ·cases hr
  ·rename_i hd;split at hr
   ·split at hr
    ·cases hr
    ·rename_i hi0;split at hr<;>simp only [zAA,reduceCtorEq] at hr;rename_i b hb;rw [zq] at hb;subst hr;cases u1 with
     | str hl =>
      exact ⟨g,_,w,by simp only [execOp,he,hei,Sem.run_bind,zfx hd hl hi0 hb,Result.andThen_ok,Sem.run_pure],⟨h,.int _ _,fun _ _=>trivial,zAU _⟩⟩
   ·cases hr
  ·cases hr
 case lookup t m k ok =>
  obtain ⟨ds,hd,hr⟩:=hr;split at hr<;>try (cases hr;done)
  rename_i kt e;simp only [zAM] at hr;obtain ⟨kd,hkd,kv,hk,hr⟩:=hr;split at hr
  ·cases hr
  ·rename_i hok;simp only [zAM,zAA] at hr;obtain ⟨mv,hm,es,hes,⟨v',b⟩,hf,rfl⟩:=hr;exact v5 h (zj2 h hd hkd (by simpa using hok) (zL h hm).1 (zL h hk).1 hes hf) rfl
 case typeAssert x xt t ok =>
  split at hr
  ·cases hr
  ·rename_i hi;simp only [zAM] at hr;obtain ⟨u,hu,hr⟩:=hr;obtain ⟨u1,u2,_⟩:=zL h hu;generalize he:a.eval x=cx at u1;obtain ⟨d,hd,hni⟩:∃ d,P.underlying t=some d/\∀ ms,d≠.interface ms:=by
    unfold kV at hi;cases hd:P.underlying t with
    | none=>simp [hd] at hi
    | some d =>
     rw [hd] at hi;exact ⟨d,rfl,fun ms e=>by subst e;simp at hi⟩
   have hrun:∀ cv,(Instr.typeAssert cx xt t ok).run P w=.ok cv w->RelV g v cv->v.top<=s.H.blks.length->(∀ sz xs e,v≠.sl sz xs (.yes e))->zcf P B s a w g { dst,op:=.typeAssert x xt t ok,type,pos,after,guard } v :=
    fun cv h1 h2 h3 h4=>⟨g,cv,w,by simp [execOp,he,h1],⟨h,h2,fun _ _=>ziP h4,h3⟩⟩
   have fails:∀ z,qi P t=some z->ok=true->v=.tup [z,.bool false]->(∀ cz,(zeroValue t).run P w=.ok cz w->(Instr.typeAssert cx xt t true).run P w=.ok (.tuple #[cz,.bool false]) w)->zcf P B s a w g { dst,op:=.typeAssert x xt t ok,type,pos,after,guard } v:=by
    intro z hz hok hv hrz;subst hok;subst hv;obtain ⟨cz,z1,z2,z3,_⟩:=yW (g:=g) hz w;refine hrun _ (hrz cz z1) (.tup rfl fun j x u hx hu=>?_) (by simp only [V.top,tops];omega) (fun _ _ _ e=>by cases e)
    rcases j with _|_|j
    ·simp at hx hu;subst hx;subst hu;exact z2
    ·simp at hx hu;subst hx;subst hu;exact .bool false
    ·simp at hx
   split at hr
   ·split at hr<;>simp only [zAM,zAA,reduceCtorEq] at hr;rename_i hok;obtain ⟨z,hz,rfl⟩:=hr;cases u1;refine fails z hz hok rfl fun cz hcz=>?_;unfold Instr.typeAssert;cases d<;>first|exact absurd rfl (hni _)|simp [run_underlying hd,hcz]
   ·rename_i ut uv _;obtain ⟨cu,rfl⟩:∃ cu,cx=.iface ut cu:=by cases u1;exact ⟨_,rfl⟩
    have u3:RelV g uv cu:=by cases u1;assumption
    split at hr
    ·rename_i hut;simp only [zAA] at hr;have hut':ut=t:=zAQ hut;subst hut';subst hr;refine hrun (if ok then .tuple #[cu,.bool true] else cu) ?_ ?_ ?_ ?_
     ·unfold Instr.typeAssert;cases d<;>first|exact absurd rfl (hni _)|(simp [run_underlying hd])
     ·cases ok with
      | true =>
       refine .tup rfl fun j x u hx hu=>?_;rcases j with _|_|j
       ·simp at hx hu;subst hx;subst hu;exact u3.clr
       ·simp at hx hu;subst hx;subst hu;exact .bool true
       ·simp at hx
      | false=>exact u3.clr
     ·have u2':uv.top<=s.H.blks.length:=u2;cases ok with
      | true=>simp only [if_true,V.top,tops,top_clr];omega
      | false=>simp only [zAD,if_false,top_clr];exact u2'
     ·cases ok with
      | true=>intro sz xs e he;simp at he
      | false=>intro sz xs e he;exact vf uv sz xs e (by simpa using he)
    ·rename_i hut;split at hr<;>simp only [zAM,zAA,reduceCtorEq] at hr;rename_i hok;obtain ⟨z,hz,rfl⟩:=hr;have hne:ut≠t:=fun e=>hut (by subst e;exact zBS _)
     refine fails z hz hok rfl fun cz hcz=>?_;unfold Instr.typeAssert;cases d<;>first|exact absurd rfl (hni _)|simp [run_underlying hd,hne,hcz]
   ·cases hr
 case extract x i =>
  obtain ⟨u,hu,hr⟩:=hr;split at hr<;>try (cases hr;done)
  rename_i vs;split at hr<;>simp only [zAA,reduceCtorEq] at hr;rename_i v' hv';subst hr;rw [zq] at hv';obtain ⟨u1,u2,_⟩:=zL h hu;generalize he:a.eval x=cx at u1;cases u1 with
  | tup t1 t2 =>
   rename_i arr;have hlt:i<arr.size:=by rw [<- t1];exact (zAG.1 hv').1
   have hget:arr[i]?=some arr[i]:=zA5 hlt;refine ⟨g,arr[i],w,by simp [execOp,he,Instr.extract,hget],⟨h,(t2 i v' _ hv' hget).clr,fun _ _=>ki _ _ _ _ _ _,?_⟩⟩
   rw [top_clr];exact zAP (zo (zH hv')) u2
 case buildSlice t len parts =>
  obtain ⟨ds,hd,hr⟩:=hr;split at hr<;>try (cases hr;done)
  rename_i e;simp only [zAM] at hr;obtain ⟨n,hn,z,hz,hr⟩:=hr;split at hr
  ·cases hr
  ·rename_i hc;simp only [zAM,zAA] at hr;obtain ⟨xs,hx,rfl⟩:=hr;exact zey h hd hn hz (Bool.eq_false_iff.2 hc) hx rfl
end Go.Vm
namespace Go.Vm
open Go
variable {P:Program} {B:Base} {g:Gh} {s:St} {a:Act} {w:World}
def Gh.var (g:Gh) (n N:Nat):Gh:={ g with blk:=fun b=>if b=n then N else g.blk b }
theorem Gh.var_le (g:Gh) (n N:Nat):Gh.Le n g (g.var n N):=⟨fun _ _ _ h=>h,fun b hb=>by simp only [Gh.var];rw [if_neg (by omega)],rfl,fun _ _ _ _ h=>h⟩
theorem zbA {w w':World} {obj:Obj} (hw:w'.heap=w.heap.push obj) {c:Nat} (hc:c<w.heap.size):w'.heap[c]?=w.heap[c]?:=by
 rw [hw,Array.getElem?_push,if_neg (by omega)]
theorem zdz {w w':World} {obj:Obj} (hw:w'.heap=w.heap.push obj):w'.heap[w.heap.size]?=some obj:=by
 rw [hw];simp
theorem Same.push (d n:Nat) (g:Gh) {w w':World} {obj:Obj} (hw:w'.heap=w.heap.push obj) (hos:w'.os=w.os) (ht:w'.tape=w.tape) (hout:w'.output=w.output):Same d none none n g w (g.var n w.heap.size) w' :=
 ⟨g.var_le n _,fun c hc _ _=>zbA hw hc,fun _ _ _=>rfl,fun _ _ _ _=>rfl,by rw [hw];simp,fun _ _ _=>rfl,fun l hl=>(by cases hl),fun b hb=>(by cases hb),fun _ _ _ _=>rfl,hos,ht,hout⟩
theorem zaT {bs bs':List Blk} (h:∀ b,b<bs.length->bs'[b]?=bs[b]?) {b off:Nat} (hl:qN bs b off):qN bs' b off:=by
 obtain ⟨cs,t,sz,xs,h1,h2⟩:=hl;exact ⟨cs,t,sz,xs,by rw [h b (zAG.1 h1).1];exact h1,h2⟩
theorem Rel.push (h:Rel B g s a w) (blk:Blk) {obj:Obj} {w':World} (hw:w'.heap=w.heap.push obj) (hos:w'.os=w.os) (ht:w'.tape=w.tape) (hout:w'.output=w.output)
  (hok:BlkOk (g.var s.H.blks.length w.heap.size) (s.H.blks.length+1) w' s.H.blks.length blk) (htop:blk.top<=s.H.blks.length+1):Rel B (g.var s.H.blks.length w.heap.size) { s with H:=s.H.push blk } a w':=by
 have hl:(s.H.push blk).blks.length=s.H.blks.length+1:=by simp [Hp.push]
 have hget:∀ b,b<s.H.blks.length->(s.H.push blk).blks[b]?=s.H.blks[b]?:=fun b hb=>by simp only [Hp.push];rw [zAe hb]
 have hlast:(s.H.push blk).blks[s.H.blks.length]?=some blk:=by simp [Hp.push]
 have hv:(g.var s.H.blks.length w.heap.size).blk s.H.blks.length=w.heap.size:=by simp [Gh.var]
 have hsz:w'.heap.size=w.heap.size+1:=by rw [hw];simp
 refine h.master (s':={ s with H:=s.H.push blk }) (Same.push B.d s.H.blks.length g hw hos ht hout) (by rw [hl];omega) (fun b hb _=>hget b hb) (fun b x hb hx=>?_) (fun b h1 h2=>?_) (fun b b' h1 h2 h3 h4 _=>?_) (fun c o v hv=>?_) (fun c l hc=>?_)
  (fun b j e=>by cases e) rfl rfl (fun t x hx=>⟨x,hx,.inl ⟨rfl,fun e=>by cases e⟩⟩) ?_ (fun b off hlk=>zaT hget (h.lks b off hlk)) h.lkl (fun _ e=>by cases e)
 ·have hb':b=s.H.blks.length:=by
   rcases hb with hb|hb
   ·cases hb
   ·have:=(zAG.1 hx).1;rw [hl] at this;omega
  subst hb';rw [hlast] at hx;cases hx;rw [hl];exact ⟨hok,htop⟩
 ·have:b=s.H.blks.length:=by rw [hl] at h2;omega
  subst this;rw [hv];refine ⟨zAR _,by omega,?_,fun o=>?_⟩
  ·show g.own w.heap.size=none;cases ho:g.own w.heap.size with
   | none=>rfl
   | some l=>have:=h.wok.ownlt _ _ ho;omega
  ·show g.M w.heap.size o=none;cases hm:g.M w.heap.size o with
   | none=>rfl
   | some v=>have:=wB (h.wok.mem _ _ _ hm);omega
 ·rw [hl] at h2 h4;omega
 ·rw [yX (zbA hw (wB (h.wok.mem c o v hv)))];exact h.wok.mem c o v hv
 ·have:=h.wok.ownlt c l hc;omega
 ·intro b x hx;rcases zAg b s.H.blks.length with h1|h1
  ·rw [show ({ s with H:=s.H.push blk }:St).H.blks[b]?=s.H.blks[b]? from hget b h1] at hx;exact h.edges b x hx
  ·have hb':b=s.H.blks.length:=by
    have:=(zAG.1 hx).1;have hl':({ s with H:=s.H.push blk }:St).H.blks.length=s.H.blks.length+1:=hl;omega
   subst hb';rw [show ({ s with H:=s.H.push blk }:St).H.blks[s.H.blks.length]?=some blk from hlast] at hx;cases hx;exact .inl htop
theorem Rel.pushCells (h:Rel B g s a w) {cs:List V} {arr:Array Value} {t:TypeId} (hcs:RelCs g cs arr.toList) (htop:tops cs<=s.H.blks.length)
  (hown:∀ (j:Nat) (x:V) (v:Value),cs[j]?=some x->arr[j]?=some v->OwnV g s.H.blks.length w (.cell s.H.blks.length j) x v/\∀ sz xs,x≠.sl sz xs .lock) :
  Rel B (g.var s.H.blks.length w.heap.size) { s with H:=s.H.push (.cells cs t) } a (w.alloc (.cells arr t)):=by
 have hw:(w.alloc (.cells arr t)).heap=w.heap.push (.cells arr t):=rfl;refine h.push (.cells cs t) hw rfl rfl rfl ⟨arr,?_,by simpa using hcs.len,fun j x v hx hv=>⟨hcs.one j x hx,?_,?_,?_⟩⟩ (Nat.le_succ_of_le htop)
 ·rw [show (g.var s.H.blks.length w.heap.size).blk s.H.blks.length=w.heap.size by simp [Gh.var]]
  exact zdz hw
 ·exact (hcs.rel j x v hx (by simpa using hv)).le (g.var_le _ _) (zAP (zo (zH hx)) htop)
 ·refine OwnV.same (Same.push B.d s.H.blks.length g hw rfl rfl rfl) (fun e=>by cases e) (fun b h1 h2=>?_) (hown j x v hx hv).1
  have:b=s.H.blks.length:=by omega
  subst this;simp [Gh.var]
 ·have:=(hown j x v hx hv).2;cases x with
  | sl sz xs o=>cases o with
   | lock=>exact absurd rfl (this sz xs)
   | _=>trivial
  | _=>trivial
theorem xY {v:Value} {z:V} (h:ofVal v=some z):∀ x∈z.cells,∀ sz xs o,x≠.sl sz xs o:=by
 have key:∀ (v:Value) (x:V),ofVal v=some x->∀ sz xs o,x≠.sl sz xs o:=by
  intro v x h sz xs o e;subst e;unfold ofVal at h;split at h<;>try (simp at h;done)
  all_goals (simp only [zAM] at h;obtain ⟨l,_,h⟩:=h;split at h<;>simp at h)
 have keys:∀ (vs:List Value) (xs:List V),ofVals vs=some xs->∀ x∈xs,∀ sz ys o,x≠.sl sz ys o:=by
  intro vs
  induction vs with
  | nil=>intro xs h x hx;simp only [ofVals,zAA] at h;subst h;simp at hx
  | cons v vs ih =>
   intro xs h x hx;simp only [ofVals] at h;split at h<;>simp only [zAA,reduceCtorEq] at h;rename_i y ys hy hys;subst h;rcases zAO.1 hx with rfl|hx
   ·exact key v _ hy
   ·exact ih ys hys x hx
 intro x hx
 by_cases ha:∃ cs,z=.agg cs
 ·obtain ⟨cs,rfl⟩:=ha;unfold ofVal at h;split at h<;>try (simp at h;done)
  simp only [zAM] at h;obtain ⟨l,hl,h⟩:=h;split at h<;>simp only [zAA,reduceCtorEq,V.agg.injEq] at h;subst h;exact keys _ _ hl x hx
 ·have:z.cells=[z]:=by cases z<;>first|rfl|exact absurd ⟨_,rfl⟩ ha
  rw [this] at hx;simp at hx;subst hx;exact key v _ h
theorem zaU {env env':List V} {x:Operand} {v:V} (h:take env x=some (v,env')):∀ sz xs,v≠.sl sz xs .lock:=by
 intro sz xs e;subst e;cases x with
 | tmp t =>
  simp only [take,fSet_eq] at h;split at h<;>simp only [zAA,zAH,reduceCtorEq] at h
  ·obtain ⟨h,_⟩:=h;simp at h
  ·obtain ⟨h,_⟩:=h;rename_i y _ _ _;cases y<;>simp [clr] at h
 | const c =>
  simp only [take,peek,zAd,zAH] at h;obtain ⟨u,hu,rfl,_⟩:=h;exact xY hu (.sl sz xs .lock) (by simp [V.cells]) sz xs .lock rfl
 | global k=>simp [take,peek] at h
 | func f=>simp [take,peek] at h
theorem ziR {v:V} (h:okC v=true):(∃ cs,v=.agg cs/\v.laid=cs.map clr)\/(v.one=true/\v.laid=[v]/\v.cells=[v]):=by
 cases v<;>first
  |exact .inl ⟨_,rfl,rfl⟩
  |exact .inr ⟨rfl,rfl,rfl⟩
  |(simp [okC] at h)
theorem ziS {n b off:Nat} {v:V} {cv:Value} (hr:RelV g v cv) (hc:okC v=true) (ho:OwnV g n w (.cell b off) v cv) (hnl:∀ sz xs,v≠.sl sz xs .lock) (htop:v.top<=n) :
  RelCs g v.laid cv.cells.toList/\tops v.laid<=n/\∀ (j:Nat) (x:V) (u:Value),v.laid[j]?=some x->cv.cells[j]?=some u->OwnV g n w (.cell b (off+j)) x u/\∀ sz xs,x≠.sl sz xs .lock:=by
 have hcs:=vg hr hc;rcases ziR hc with ⟨cs,rfl,hl⟩|⟨h1,hl,hl2⟩
 ·rw [hl];refine ⟨hcs.map_clr,by rw [jK];exact htop,fun j x u hx hu=>?_⟩
  simp only [zAl,zAd] at hx;obtain ⟨y,_,rfl⟩:=hx;exact ⟨ki _ _ _ _ _ _,fun sz xs e=>by cases y<;>simp [clr] at e⟩
 ·rw [hl];rw [hl2] at hcs;refine ⟨hcs,by simp only [tops];omega,fun j x u hx hu=>?_⟩
  cases j with
  | zero =>
   simp at hx;subst hx;have e:cv.cells=#[cv]:=by
    have:=hr.oneCell h1;cases cv<;>first
     |rfl
     |(simp [Value.oneCell'] at this)
   rw [e] at hu;simp at hu;subst hu;exact ⟨ho,hnl⟩
  | succ j=>simp at hx
end Go.Vm
namespace Go.Vm
open Go
variable {P:Program} {B:Base} {g:Gh} {s:St} {a:Act} {w:World}
theorem qd {α:Type}:∀ (vs cs:List α) (off j:Nat),off+vs.length<=cs.length->(storeCells cs off vs)[j]?=if off<=j/\j<off+vs.length then vs[j - off]? else cs[j]?
 | [],cs,off,j,_=>by
  have:¬ (off<=j/\j<off+0):=by omega
  simp [storeCells];intro h1 h2;omega
 | v::vs,cs,off,j,h=>by
  simp only [storeCells];rw [qd vs (cs.set off v) (off+1) j (by simp at h ⊢;omega)]
  simp only [zAS] at h ⊢
  by_cases h1:j=off
  ·subst h1;have:¬ (j+1<=j/\j<j+1+vs.length):=by omega
   have h2:j<=j/\j<j+(vs.length+1):=by omega
   simp only [if_neg this,if_pos h2,Nat.sub_self];rw [zBN (by omega)]
   rfl
  ·by_cases h2:off+1<=j/\j<off+1+vs.length
   ·have h3:off<=j/\j<off+(vs.length+1):=by omega
    rw [if_pos h2,if_pos h3];have:j - off=(j - (off+1))+1:=by omega
    rw [this];rfl
   ·have h3:¬ (off<=j/\j<off+(vs.length+1)):=by omega
    rw [if_neg h2,if_neg h3,zBG (by omega)]
theorem zfB {lk:List (Nat×Nat)} {b:Nat}:∀ {n off:Nat} {cs:List V},vY lk b off n cs=true->∀ j x,j<n->cs[j]?=some x->locked x=true->(b,off+j)∈lk
 | 0,_,_,_,j,x,hj,_,_=>by omega
 | n+1,off,[],h,j,x,_,hx,_=>by simp at hx
 | n+1,off,c::cs,h,j,x,hj,hx,hlk=>by
  simp only [vY,zAF,zAZ,zAr] at h;cases j with
  | zero =>
   simp at hx;subst hx;rcases h.1 with h1|h1
   ·rw [hlk] at h1;cases h1
   ·obtain ⟨p,hp,h2⟩:=List.any_eq_true.1 h1;simp only [zAF,Nat.beq_eq] at h2;obtain ⟨h3,h4⟩:=h2;cases p;simp only at h3 h4;subst h3;subst h4;simpa using hp
  | succ j =>
   have:=zfB h.2 j x (by omega) (by simpa using hx) hlk
   rw [show off+(j+1)=off+1+j by omega]
   exact this
theorem Rel.write (h:Rel B g s a w) {b:Nat} {x0 x:Blk} {v:V} {l:List (Nat×Nat)} {w':World} {N:Nat} (hN:N=g.blk b) (hb:s.H.get b=some x0) (hheap:∀ c,c≠N->w'.heap[c]?=w.heap[c]?) (hsz:w'.heap.size=w.heap.size) (hos:w'.os=w.os) (ht:w'.tape=w.tape) (hout:w'.output=w.output)
  (hok:BlkOk g s.H.blks.length w' b x) (htop:x.top<=s.H.blks.length) (hedge:x.top<=b+1\/x.top<=v.top\/x.top<=x0.top\/x.top<=max x0.top v.top)
  (hlk:∀ off,zdv B b off->∃ cs t sz xs,x=.cells cs t/\cs[off]?=some (.sl sz xs .lock)) (hl:∀ p∈l,¬ zdv B p.1 p.2) :
  Rel B g { s with H:=(s.H.set b x).edge b v,lk:=l } a w':=by
 subst hN;simp only [Hp.get,zq] at hb;have hbl:b<s.H.blks.length:=(zAG.1 hb).1;have hblks:((s.H.set b x).edge b v).blks=s.H.blks.set b x:=by
  simp only [Hp.edge,Hp.set];split<;>rfl
 have hlen:((s.H.set b x).edge b v).blks.length=s.H.blks.length:=by rw [hblks];simp
 have hsame:Same B.d (some b) none s.H.blks.length g w g w' :=
  ⟨.refl _ _,fun c _ hc _=>hheap c (fun e=>hc b rfl e.symm),fun _ _ _=>rfl,fun _ _ _ _=>rfl,by omega,fun _ _ _=>rfl,fun l hl=>(by cases hl),fun b' hb'=>(by cases hb';exact hbl),fun _ _ _ _=>rfl,hos,ht,hout⟩
 refine h.master (s':={ s with H:=(s.H.set b x).edge b v,lk:=l }) hsame (by rw [hlen];exact zAR _) (fun b' hb' hne=>?_) (fun b' y hy1 hy=>?_) (fun b' h1 h2=>?_) (fun b1 b2 h1 h2=>?_) (fun c o u hu=>?_) (fun c l hc=>?_)
  (fun b j e=>by cases e) rfl rfl (fun t y hy=>⟨y,hy,.inl ⟨rfl,fun e=>by cases e⟩⟩) (fun b' y hy=>?_) (fun b' off hlk'=>?_) hl (fun _ e=>by cases e)
 ·rw [hblks,zBG (fun e=>hne (by rw [e]))]
 ·have hb':b'=b:=by
   rcases hy1 with hy1|hy1
   ·cases hy1;rfl
   ·have:=(zAG.1 hy).1;rw [hlen] at this;omega
  subst hb';rw [hblks,zBN hbl] at hy;cases hy;rw [hlen];exact ⟨hok,htop⟩
 ·rw [hlen] at h2;omega
 ·rw [hlen] at h2;omega
 ·have hc:c≠g.blk b:=by rintro rfl;rw [h.wok.apart b hbl o] at hu;cases hu
  rw [yX (hheap c hc)];exact h.wok.mem c o u hu
 ·have:=h.wok.ownlt c l hc;omega
 ·rw [show ({ s with H:=(s.H.set b x).edge b v,lk:=l }:St).H.blks=s.H.blks.set b x from hblks] at hy;have hmem:∀ p∈s.H.edges,p∈((s.H.set b x).edge b v).edges:=by
   intro p hp;simp only [Hp.edge,Hp.set];split
   ·exact hp
   ·exact zAE _ hp
  by_cases e:b'=b
  ·subst e;rw [zBN hbl] at hy;cases hy;have hx0:=h.edges b' x0 hb;have hv:v.top<=b'+1\/(b',v.top)∈((s.H.set b' x).edge b' v).edges:=by
    simp only [Hp.edge,Hp.set];split
    ·rename_i h1;exact .inl h1
    ·exact .inr (zAL ..)
   have old:∀ k,k<=x0.top->k<=b'+1\/(∃ m,(b',m)∈((s.H.set b' x).edge b' v).edges/\k<=m)\/∃ y:Blk,B.bs[b']?=some y/\k<=y.top:=by
    intro k hk;rcases hx0 with h1|⟨m,h1,h2⟩|⟨y,h1,h2⟩
    ·exact .inl (zAP hk h1)
    ·exact .inr (.inl ⟨m,hmem _ h1,zAP hk h2⟩)
    ·exact .inr (.inr ⟨y,h1,zAP hk h2⟩)
   have new:∀ k,k<=v.top->k<=b'+1\/(∃ m,(b',m)∈((s.H.set b' x).edge b' v).edges/\k<=m)\/∃ y:Blk,B.bs[b']?=some y/\k<=y.top:=by
    intro k hk;rcases hv with h1|h1
    ·exact .inl (zAP hk h1)
    ·exact .inr (.inl ⟨_,h1,hk⟩)
   rcases hedge with h1|h1|h1|h1
   ·exact .inl h1
   ·exact new _ h1
   ·exact old _ h1
   ·rcases Nat.le_total x0.top v.top with h2|h2
    ·rw [Nat.max_eq_right h2] at h1;exact new _ h1
    ·rw [Nat.max_eq_left h2] at h1;exact old _ h1
  ·rw [zBG (fun e'=>e e'.symm)] at hy;rcases h.edges b' y hy with h1|⟨m,h1,h2⟩|h1
   ·exact .inl h1
   ·exact .inr (.inl ⟨m,hmem _ h1,h2⟩)
   ·exact .inr (.inr h1)
 ·rw [show ({ s with H:=(s.H.set b x).edge b v,lk:=l }:St).H.blks=s.H.blks.set b x from hblks]
  by_cases e:b'=b
  ·subst e;obtain ⟨cs,t,sz,xs,h1,h2⟩:=hlk off hlk';exact ⟨cs,t,sz,xs,by rw [zBN hbl,h1],h2⟩
  ·obtain ⟨cs,t,sz,xs,h1,h2⟩:=h.lks b' off hlk';exact ⟨cs,t,sz,xs,by rw [zBG (fun e'=>e e'.symm)];exact h1,h2⟩
theorem yK {vs cs:List V} {off:Nat}:tops (storeCells cs off vs)<=max (tops cs) (tops vs):=wM (zBV _ _) (zBg _ _)
theorem store_ok (h:Rel B g s a w) {t:TypeId} {p x:Operand} {b off n:Nat} {v:V} {env':List V} {cs:List V} {ty:TypeId} (hp:peek s.env p=some (.ptr b off)) (ht:take s.env x=some (v,env')) (hn:qc P t=some n)
  (hb:s.H.get b=some (.cells cs ty)) (hok:okC v=true) (hl:v.laid.length=n) (hle:off+n<=cs.length) (hmay:vY s.lk b off n (cs.drop off)=true) :
  ∃ g' w',(Instr.storeAt t (a.eval p) (a.eval x)).run P w=.ok () w'/\Rel B g' { s with env:=env',H:=(s.H.set b (.cells (storeCells cs off v.laid) ty)).edge b v } a w':=by
 obtain ⟨p1,p2,_⟩:=zL h hp;generalize hpe:a.eval p=cp at p1;cases p1;obtain ⟨g',h1,v1,v2,v3,hal⟩:=take_ok h ht (.cell b off);have hb':({ s with env:=env' }:St).H.get b=some (.cells cs ty):=hb;obtain ⟨arr,a1,a2,a3,a4⟩:=zaB h1 hb';obtain ⟨l1,l2,l3⟩:=ziS v1 hok v2 (zaU ht) v3;have hasz:cs.length=arr.size:=by have:=a2.len;simpa using this
 have hcsz:(a.eval x).cells.size=n:=by rw [<- hl,l1.len];simp
 have hblk:g'.blk b=g.blk b:=by rw [hal.blk]
 have hbl:b<s.H.blks.length:=by simp only [Hp.get,zq] at hb;exact (zAG.1 hb).1
 have harr:arr.toList.take off++(a.eval x).cells.toList++arr.toList.drop (off+(a.eval x).cells.toList.length)=storeCells arr.toList off (a.eval x).cells.toList:=by
  have hsplit:arr.toList=arr.toList.take off++(arr.toList.drop off).take n++arr.toList.drop (off+n):=by
   rw [zAb,<- List.drop_drop,zBC,zBC]
  have hlen:(arr.toList.take off).length=off:=by simp;omega
  have:=ky (a.eval x).cells.toList ((arr.toList.drop off).take n) (arr.toList.take off) (arr.toList.drop (off+n)) (by simp;omega)
  rw [hlen,<- hsplit] at this;rw [this];simp [hcsz]
 have hrun:(Instr.storeAt t (.pointer (some ⟨g.blk b,off,none⟩)) (a.eval x)).run P w=.ok () (w.setRow (g.blk b) (storeCells arr.toList off (a.eval x).cells.toList).toArray):=by
  have hst:=run_storeCells_at P (g.blk b) off ty (a.eval x).cells.toList 0 arr w (by rw [<- hblk];exact a1) (by simp;omega) (fun u hu=>by
   obtain ⟨j,hj⟩:=List.getElem?_of_mem hu;have hj':j<v.laid.length:=by rw [l1.len];exact (zAG.1 hj).1
   have hx:=zAV hj'
   exact (l1.rel j _ u hx hj).oneCell (l1.one j _ hx))
  simp only [zAv] at hst;rw [harr] at hst;unfold Instr.storeAt storeVar;simp [Instr.sureAddr,jn hn,hcsz,hst]
 refine ⟨g',_,hrun,?_⟩;have hheap':(w.setRow (g.blk b) (storeCells arr.toList off (a.eval x).cells.toList).toArray).heap[g'.blk b]?=some (.cells (storeCells arr.toList off (a.eval x).cells.toList).toArray ty (0,0)):=by
  rw [hblk];exact setRow_heap w _ _ _ ty _ (by rw [<- hblk];exact a1)
 have hsame:Same B.d (some b) none s.H.blks.length g' w g' (w.setRow (g.blk b) (storeCells arr.toList off (a.eval x).cells.toList).toArray) :=
  ⟨.refl _ _,fun c _ hc _=>setRow_other w _ c _ (fun e=>hc b rfl (by rw [hblk,e])),fun _ _ _=>rfl,fun _ _ _ _=>rfl,by simp [World.setRow],fun _ _ _=>rfl,fun l hl=>(by cases hl),fun b' hb'=>(by cases hb';exact hbl),fun _ _ _ _=>rfl,rfl,rfl,rfl⟩
 have key:=Rel.write (l:=s.lk) (v:=v) h1 (b:=b) (x0:=.cells cs ty) (x:=.cells (storeCells cs off v.laid) ty) (N:=g.blk b) hblk.symm hb' (fun c hc=>setRow_other w _ c _ hc) (by simp [World.setRow]) rfl rfl rfl
  ⟨_,hheap',by simp [jH,hasz],fun j y u hy hu=>?_⟩ (wM a3 l2) (.inr (.inr (.inr (zAP yK (zBP.2 ⟨zBV _ _,?_⟩))))) (fun o hlo=>?_) h.lkl
 ·exact key
 ·have hst:=a2.store off l1;have hr:=hst.rel j y u hy (by simpa using hu)
  refine ⟨hst.one j y hy,hr,?_,?_⟩
  ·rw [qd _ _ _ _ (by omega)] at hy
   have hu':(storeCells arr.toList off (a.eval x).cells.toList)[j]?=some u:=by simpa using hu
   rw [qd _ _ _ _ (by rw [zBD,zBD,hcsz,<- hasz];exact hle)] at hu'
   by_cases hj:off<=j/\j<off+v.laid.length
   ·rw [if_pos hj] at hy;rw [if_pos (by simp [hcsz];omega)] at hu'
    have:=(l3 (j - off) y u hy (by simpa using hu')).1
    rw [show off+(j - off)=j by omega] at this
    exact OwnV.same hsame (fun e=>by cases e) (fun b1 h2 h3=>absurd (show b1<s.H.blks.length from h3) (Nat.not_lt.2 h2)) this
   ·rw [if_neg hj] at hy;rw [if_neg (by simp [hcsz];omega)] at hu'
    exact OwnV.same hsame (fun e=>by cases e) (fun b1 h2 h3=>absurd (show b1<s.H.blks.length from h3) (Nat.not_lt.2 h2)) (a4 j y u hy (by simpa using hu')).1
  ·rw [qd _ _ _ _ (by omega)] at hy
   have hu':(storeCells arr.toList off (a.eval x).cells.toList)[j]?=some u:=by simpa using hu
   rw [qd _ _ _ _ (by rw [zBD,zBD,hcsz,<- hasz];exact hle)] at hu'
   by_cases hj:off<=j/\j<off+v.laid.length
   ·rw [if_pos hj] at hy;rw [if_pos (by simp [hcsz];omega)] at hu'
    have:=(l3 (j - off) y u hy (by simpa using hu')).2
    cases y with
    | sl sz xs o=>cases o with
     | lock=>exact absurd rfl (this sz xs)
     | _=>trivial
    | _=>trivial
   ·rw [if_neg hj] at hy;rw [if_neg (by simp [hcsz];omega)] at hu'
    exact (a4 j y u hy (by simpa using hu')).2
 ·have:tops v.laid<=v.top:=by
   rcases ziR hok with ⟨cs',rfl,e⟩|⟨_,e,_⟩
   ·rw [e,jK];exact zAR _
   ·rw [e];simp [tops]
  exact zAP this (zBg _ _)
 ·obtain ⟨cs2,t2,sz,xs,c1,c2⟩:=h.lks b o hlo;have hb2:s.H.blks[b]?=some (.cells cs ty):=by simpa [Hp.get,zq] using hb
  rw [hb2] at c1;cases c1;refine ⟨_,_,sz,xs,rfl,?_⟩;rw [qd _ _ _ _ (by omega)]
  by_cases hj:off<=o/\o<off+v.laid.length
  ·have:=zfB hmay (o - off) (.sl sz xs .lock) (by omega) (by rw [zBU,show off+(o - off)=o by omega];exact c2) rfl
   rw [show off+(o - off)=o by omega] at this
   exact absurd hlo (h.lkl _ this)
  ·rw [if_neg hj];exact c2
end Go.Vm
namespace Go.Vm
open Go
variable {P:Program} {B:Base} {g:Gh} {s:St} {a:Act} {w:World}
theorem zgI {_kd:TypeDesc} {k x:V} {ck cx:Value} (h:zjY k x=some true) (h1:RelV g k ck) (h2:RelV g x cx) (n:Nat):Instr.sameBits n cx ck=true:=by
 unfold zjY at h;split at h
 ·split at h<;>simp only [zAA,reduceCtorEq] at h;rename_i e;subst e;cases h1;cases h2;have:=beq_iff_eq.1 h;subst this;simp [Instr.sameBits]
 ·simp only [zAA] at h;cases h1 with
  | str b1=>cases h2 with
   | str b2 =>
    have:=eqL_iff _ _ b1 b2;rw [h] at this;simp only [Instr.sameBits,beq_toListBytes,wA];rw [beq_iff_eq] at this ⊢;exact this.symm
 ·simp only [zAA] at h;cases h1;cases h2;have:=beq_iff_eq.1 h;subst this;simp [Instr.sameBits]
 ·cases h
theorem ziT {kd:TypeDesc} {k x:V} {ck cx:Value} (hk:xP kd k=true) (h1:RelV g k ck) (h2:RelV g x cx):∀ {es es':List (V×V)} {en:List MapEntry} (i:Nat),RelEs g es en->zjZ k x es=some es' ->
  (Instr.findNow kd ck en i=some none/\es'=es++[(k,x)]) \/
  ∃ j e cv,Instr.findNow kd ck en i=some (some (i+j,cv))/\en[j]?=some e/\Instr.sameBits 10000 e.key ck=true/\es'=es.set j (k,x)/\j<es.length
 | [],_,[],i,_,h=>by simp only [zjZ,zAA] at h;subst h;exact .inl ⟨rfl,rfl⟩
 | [],_,_::_,i,hr,h=>by have:=hr.len;simp at this
 | _::_,_,[],i,hr,h=>by have:=hr.len;simp at this
 | (y,v)::es,es',e::en,i,hr,h=>by
  obtain ⟨ht,hy,hv⟩:=hr.tail;simp only [zjZ] at h;split at h
  ·rename_i hk';simp only [zAA] at h;subst h;exact .inr ⟨0,e,e.val,by simp [Instr.findNow,v6 hk hk' h1 hy],rfl,zgI (_kd:=kd) hk' h1 hy _,rfl,by simp⟩
  ·rename_i hk';simp only [zAd] at h;obtain ⟨r,hr',rfl⟩:=h;rcases ziT hk h1 h2 (i+1) ht hr' with ⟨h3,h4⟩|⟨j,e',cv,h3,h4,h5,h6,h7⟩
   ·exact .inl ⟨by simp [Instr.findNow,v6 hk hk' h1 hy,h3],by simp [h4]⟩
   ·refine .inr ⟨j+1,e',cv,?_,by simpa using h4,h5,by simp [h6],by simp;omega⟩
    simp only [Instr.findNow,v6 hk hk' h1 hy,h3];rw [show i+1+j=i+(j+1) by omega]
  ·cases h
theorem zcH {w:World} {r:Nat} {o:Obj} {c:Nat} (h:c≠r):({ w with heap:=w.heap.setIfInBounds r o }:World).heap[c]?=w.heap[c]?:=by
 simp [Ne.symm h]
theorem yZ {w:World} {r:Nat} {o o':Obj} (h:w.heap[r]?=some o'):({ w with heap:=w.heap.setIfInBounds r o }:World).heap[r]?=some o:=by
 have:=(zAj.1 h).1;simp [this]
theorem RelEs.push {es:List (V×V)} {en:List MapEntry} (h:RelEs g es en) {x:V×V} {e:MapEntry} (h1:RelV g x.1 e.key) (h2:RelV g x.2 e.val):RelEs g (es++[x]) (en++[e]):=by
 refine ⟨by simp [h.len],fun j y f hy hf=>?_⟩
 rcases zAg j es.length with hj|hj
 ·rw [zAe hj] at hy;rw [zAe (by rw [<- h.len];exact hj)] at hf
  exact h.rel j y f hy hf
 ·rw [zAf hj] at hy;rw [zAf (by rw [<- h.len];exact hj),<- h.len] at hf
  cases hk:j - es.length with
  | zero=>rw [hk] at hy hf;simp at hy hf;subst hy;subst hf;exact ⟨h1,h2⟩
  | succ k=>rw [hk] at hy;simp at hy
theorem zbB (h:Rel B g s a w) {t:TypeId} {m k x:Operand} {b:Nat} {kv v:V} {es es':List (V×V)} (hm:peek s.env m=some (.map b)) (hk:peek s.env k=some kv) (hx:peek s.env x=some v) (hkt:zkY P t kv=true)
  (hb:s.H.get b=some (.map es)) (hs:zjZ kv v es=some es') :
  ∃ w',(Instr.mapUpdate t (a.eval m) (a.eval k) (a.eval x)).run P w=.ok () w'/\Rel B g { s with H:=(s.H.set b (.map es')).edge b (.tup [kv,v]) } a w':=by
 have m1:=(zL h hm).1;obtain ⟨k1,k2,_⟩:=zL h hk;obtain ⟨v1,v2,_⟩:=zL h hx;generalize hme:a.eval m=cm at m1;cases m1;obtain ⟨en,ck,e1,e2,e3,e4⟩:=xX h hb;unfold zkY at hkt;split at hkt<;>try (cases hkt;done)
 rename_i kt et ht;split at hkt<;>try (cases hkt;done)
 rename_i kd hkd;have hb2:s.H.blks[b]?=some (.map es):=by simpa [Hp.get,zq] using hb
 have hlk:∀ off,¬ zdv B b off:=fun off hl=>by
  obtain ⟨cs,t2,sz,xs,c1,_⟩:=h.lks b off hl;rw [hb2] at c1;cases c1
 have htop:∀ es2:List (V×V),(∀ p∈es2,p∈es\/p=(kv,v))->(Blk.map es2).top<=max (Blk.map es).top (V.tup [kv,v]).top:=fun es2 hp=>by
  refine zBP.2 ⟨qS fun y hy=>?_,qS fun y hy=>?_⟩
  ·obtain ⟨p,hp1,rfl⟩:=zA4.1 hy;rcases hp p hp1 with h1|h1
   ·exact zAP (zo (zBJ (f:=(·.1)) h1)) (zAP (zBV _ _) (zBV _ _))
   ·subst h1;exact zAP (zBV _ _) (zBg _ _)
  ·obtain ⟨p,hp1,rfl⟩:=zA4.1 hy;rcases hp p hp1 with h1|h1
   ·exact zAP (zo (zBJ (f:=(·.2)) h1)) (zAP (zBg _ _) (zBV _ _))
   ·subst h1;simp only [V.top,tops];omega
 have hcur:max (Blk.map es).top (V.tup [kv,v]).top<=s.H.blks.length:=zBP.2 ⟨zBP.2 ⟨e3,e4⟩,by simp only [V.top,tops];omega⟩
 have fin:∀ (es2:List (V×V)) (en2:Array MapEntry) (clock:Nat),(∀ p∈es2,p∈es\/p=(kv,v))->RelEs g es2 en2.toList ->
   Rel B g { s with H:=(s.H.set b (.map es2)).edge b (.tup [kv,v]) } a { w with heap:=w.heap.setIfInBounds (g.blk b) (.map en2 clock) }:=fun es2 en2 clock hp hre=>by
  have:=h.write (l:=s.lk) (b:=b) (x0:=.map es) (x:=.map es2) (v:=.tup [kv,v]) (w':={ w with heap:=w.heap.setIfInBounds (g.blk b) (.map en2 clock) }) rfl hb (fun c hc=>zcH hc) (by simp) rfl rfl rfl
   ⟨en2,clock,yZ e1,by simpa using hre.len,fun j y e hy he=>hre.rel j y e hy (by simpa using he)⟩ (zAP (htop es2 hp) hcur) (.inr (.inr (.inr (htop es2 hp)))) (fun off hl=>absurd hl (hlk off)) h.lkl
  exact this
 have hg:(getObj (g.blk b)).run P w=.ok (.map en ck) w:=by simp [getObj,Sem.run,e1]
 have hset:∀ o,(setObj (g.blk b) o).run P w=.ok () { w with heap:=w.heap.setIfInBounds (g.blk b) o }:=fun o=>by simp [setObj,Sem.run,e1]
 have hck:=zcG (P:=P) hkd hkt k1 false w;rcases ziT hkt k1 v1 0 e2 hs with ⟨h3,h4⟩|⟨j,e,cv,h3,h4,h5,h6,h7⟩
 ·subst h4;refine ⟨{ w with heap:=w.heap.setIfInBounds (g.blk b) (.map (en.push { key:=a.eval k,val:=a.eval x,born:=ck }) (ck+1)) },?_,fin _ _ _ (fun p hp=>?_) (by simpa using e2.push (x:=(kv,v)) (e:={ key:=a.eval k,val:=a.eval x,born:=ck }) k1 v1)⟩
  ·unfold Instr.mapUpdate;simp [run_underlying ht,hg,hck,Instr.findKey,run_underlying hkd,h3,hset]
  ·rcases zAt.1 hp with hp|hp
   ·exact .inl hp
   ·exact .inr (by simpa using hp)
 ·subst h6;rw [zAT] at h3;have hje:en[j]?=some e:=by simpa using h4
  have hjlt:j<en.size:=(zAj.1 hje).1;refine ⟨{ w with heap:=w.heap.setIfInBounds (g.blk b) (.map (en.modify j fun e=>{ e with key:=a.eval k,val:=a.eval x }) ck) },?_,fin _ _ _ (fun p hp=>List.mem_or_eq_of_mem_set hp) ?_⟩
  ·have hkeep:(Instr.keyThatStays e.key (a.eval k)).run P w=.ok (a.eval k) w:=by unfold Instr.keyThatStays;simp [h5]
   unfold Instr.mapUpdate;simp [run_underlying ht,hg,hck,Instr.findKey,run_underlying hkd,h3,hset,hje,hkeep]
  ·refine ⟨by simp [e2.len],fun i y f hy hf=>?_⟩
   have hf':(en.modify j fun e=>{ e with key:=a.eval k,val:=a.eval x })[i]?=some f:=by rw [<- zBb];exact hf
   rw [Array.getElem?_modify] at hf'
   by_cases hij:j=i
   ·subst hij;rw [zBN h7] at hy;cases hy;rw [if_pos rfl,hje] at hf';simp only [zAC,zAA] at hf';subst hf';exact ⟨k1,v1⟩
   ·rw [zBG hij] at hy;rw [if_neg hij] at hf';exact e2.rel i y f hy (by simpa using hf')
theorem zj4 {l:List Nat} {pos:Nat} (hl:∀ b:Nat,b∈l->b<256) (hp:pos<l.length):Utf8.decode (bytes l) pos=zbr (l.drop pos):=by
 have hat:∀ k,((bytes l).get! (pos+k)).toNat=(l.drop pos).getD k 0:=by
  intro k;have e1:(bytes l).get! (pos+k)=(bytes l).data[pos+k]!:=by cases l<;>rfl
  rw [e1]
  by_cases hk:pos+k<l.length
  ·have hb:=hl _ (List.getElem_mem hk);simp [bytes,List.getD,hk,UInt8.toNat_ofNat',zBY hb]
  ·simp [bytes,List.getD,zAu (by omega:l.length<=pos+k)]
   rfl
 have hcont:∀ k,(decide (pos+k<(bytes l).size) && ((bytes l).get! (pos+k)).toNat / 64 == 2)=(Nat.blt k (l.drop pos).length && Nat.beq ((l.drop pos).getD k 0 / 64) 2):=by
  intro k;rw [hat]
  congr 1
  ·rw [jO,List.length_drop,zBe,decide_eq_true_iff,zBq];omega
  ·rw [zBe,beq_iff_eq,Nat.beq_eq]
 have hat0:=hat 0;rw [zAv] at hat0;have hcont':∀ k,(decide (pos+k<(bytes l).size) && (l.drop pos).getD k 0 / 64 == 2)=(Nat.blt k (l.drop pos).length && Nat.beq ((l.drop pos).getD k 0 / 64) 2):=fun k=>by
  have:=hcont k;rw [hat] at this;exact this
 unfold Utf8.decode zbr;simp only [zAv,hat,hat0,hcont']
theorem zmX (h:Rel B g s a w) {it:Operand} {b pos:Nat} {l:List Nat} (hi:peek s.env it=some (.ptr b 0)) (hb:s.H.get b=some (.iter l pos)) (ty:TypeId) :
  if Nat.blt pos l.length=true then
   ∃ cv w',(Instr.next (a.eval it) true ty).run P w=.ok cv w'/\RelV g (.tup [.bool true,.int .i64 pos,.int .i32 (zbr (l.drop pos)).1]) cv/\Rel B g { s with H:=(s.H.set b (.iter l (pos+(zbr (l.drop pos)).2))).edge b .nilp } a w'
  else ∃ cv,(Instr.next (a.eval it) true ty).run P w=.ok cv w/\RelV g (.tup [.bool false]) cv:=by
 have i1:=(zL h hi).1;generalize hie:a.eval it=ci at i1;cases i1;have hb2:s.H.blks[b]?=some (.iter l pos):=by simpa [Hp.get,zq] using hb
 obtain ⟨e1,e2⟩:=h.wok.ok b _ hb2;have hg:(getObj (g.blk b)).run P w=.ok (.stringIter (bytes l) pos) w:=by simp [getObj,Sem.run,e1]
 have hset:∀ o,(setObj (g.blk b) o).run P w=.ok () { w with heap:=w.heap.setIfInBounds (g.blk b) o }:=fun o=>by simp [setObj,Sem.run,e1]
 have hlk:∀ off,¬ zdv B b off:=fun off hl=>by
  obtain ⟨cs,t2,sz,xs,c1,_⟩:=h.lks b off hl;rw [hb2] at c1;cases c1
 split
 ·rename_i hlt;rw [zBq] at hlt;refine ⟨.tuple #[.bool true,goInt pos,.int .i32 (zbr (l.drop pos)).1],{ w with heap:=w.heap.setIfInBounds (g.blk b) (.stringIter (bytes l) (pos+(zbr (l.drop pos)).2)) },?_,?_,?_⟩
  ·unfold Instr.next
   simp [hg,jO,hlt,zj4 e2 hlt,hset]
  ·refine .tup rfl fun j x u hx hu=>?_;rcases j with _|_|_|j
   ·simp at hx hu;subst hx;subst hu;exact .bool true
   ·simp at hx hu;subst hx;subst hu;exact .int _ _
   ·simp at hx hu;subst hx;subst hu;exact .int _ _
   ·simp at hx
  ·exact h.write (l:=s.lk) (b:=b) (x0:=.iter l pos) (x:=.iter l (pos+(zbr (l.drop pos)).2)) (v:=.nilp) (w':={ w with heap:=w.heap.setIfInBounds (g.blk b) (.stringIter (bytes l) (pos+(zbr (l.drop pos)).2)) }) rfl hb (fun c hc=>zcH hc) (by simp) rfl rfl rfl
    ⟨yZ e1,e2⟩ (zAU _) (.inl (zAU _)) (fun off hl=>absurd hl (hlk off)) h.lkl
 ·rename_i hlt;rw [zBq] at hlt;refine ⟨.tuple #[.bool false],?_,?_⟩
  ·unfold Instr.next
   simp [hg,jO,hlt]
  ·refine .tup rfl fun j x u hx hu=>?_;rcases j with _|j
   ·simp at hx hu;subst hx;subst hu;exact .bool false
   ·simp at hx
end Go.Vm
namespace Go.Vm
open Go
variable {P:Program} {B:Base} {g:Gh} {s:St} {a:Act} {w:World}
theorem vy {t ty e:TypeId} {n:Nat} (ht:P.underlying t=some (.slice e)) (hn:qc P e=some n) (v:Value) (base:Option Addr) (sLen sCap:Nat) (hv:v=.slice base sLen sCap) (hle:sLen<=sCap) (ad:Option Addr) (c:Nat) (w:World) :
  (Builtin.append_ #[t,t] ty #[v,.slice ad 0 c]).run P w=.ok v w:=by
 subst hv;simp only [qc,zAd] at hn;obtain ⟨i,hi,rfl⟩:=hn;cases ad<;>cases base<;>simp [Builtin.append_,run_underlying ht,sizeOf,typeInfo,hi,Builtin.lenOf,Builtin.firstCells,hle,loadCells,loadCellsFrom,Go.storeCells]
def Gh.grown (g:Gh) (c:Nat) (vs:List Value) (l:Option Loc):Gh :=
 {g with M:=fun c' o=>if c'=c then vs[o]? else g.M c' o,own:=fun c'=>if c'=c then l else g.own c' }
theorem Rel.growRow (h:Rel B g s a w) {c:Nat} {t0:Nat} (ht0:s.env.length<=t0) (ht1:t0<=s.env.length) (hown:g.own c=some (.slot B.d t0)) (hc:c<w.heap.size) (vs:List Value) (l:Option Loc) {w':World}
  (hold:∀ c',c'≠c->w'.heap[c']?=w.heap[c']?) (hsz:w'.heap.size=w.heap.size) (hcell:∀ o v,vs[o]?=some v->w'.cell? ⟨c,o,none⟩=some v) (hext:∀ o v,g.M c o=some v->vs[o]?=some v)
  (hos:w'.os=w.os) (ht:w'.tape=w.tape) (hout:w'.output=w.output):Rel B (g.grown c vs l) s a w':=by
 have hne:∀ c',(∀ l',some (Loc.slot B.d t0)=some l'->g.own c'≠some l')->c'≠c:=fun c' h' e=>h' _ rfl (e ▸ hown);have hvar:∀ b,b<s.H.blks.length->g.blk b≠c:=fun b hb e=>by
  have:=h.wok.unowned b hb;rw [e,hown] at this;cases this
 refine h.master (b0:=none) (l0:=some (.slot B.d t0)) ?_ (zAR _) (fun _ _ _=>rfl) (fun b x hb hx=>?_) (fun b h1 h2=>?_) (fun b b' h1 h2=>?_) (fun c' o v hv=>?_) (fun c' l' hc'=>?_) (fun b j e=>by cases e) rfl rfl
  (fun t x hx=>⟨x,hx,.inl ⟨rfl,fun e=>?_⟩⟩) h.edges h.lks h.lkl (fun t e=>by cases e;exact ht1)
 ·refine ⟨⟨fun c' o v hv=>?_,fun _ _=>rfl,rfl,fun _ _ _ _ e=>e⟩,fun c' _ _ h2=>hold c' (hne c' h2),fun c' _ h2=>?_,fun c' _ h2 o=>?_,by omega,fun _ _ _=>rfl,fun l' hl'=>?_,fun b hb=>(by cases hb),fun _ _ _ _=>rfl,hos,ht,hout⟩
  ·simp only [Gh.grown];split
   ·rename_i e;subst e;exact hext o v hv
   ·exact hv
  ·simp only [Gh.grown];rw [if_neg (hne c' h2)]
  ·simp only [Gh.grown];rw [if_neg (hne c' h2)]
  ·cases hl';exact .inl ⟨t0,rfl⟩
 ·rcases hb with hb|hb
  ·cases hb
  ·have:=(zAG.1 hx).1;omega
 ·omega
 ·omega
 ·simp only [Gh.grown] at hv;split at hv
  ·rename_i e;subst e;exact hcell o v hv
  ·rename_i e;rw [yX (hold c' e)];exact h.wok.mem c' o v hv
 ·simp only [Gh.grown] at hc';split at hc'
  ·rename_i e;omega
  ·have:=h.wok.ownlt c' l' hc';omega
 ·cases e;have:=(zAG.1 hx).1;omega
theorem zgJ {isAgg:Bool} {sz:Nat} (h1:isAgg=false->sz=1):∀ {n:Nat} {cs:List V},n * sz<=cs.length->(∀ x∈cs,x.one=true)->zV (zbq isAgg sz n cs)=cs.take (n * sz)/\(∀ y∈zbq isAgg sz n cs,y.cells.length=sz)/\(zbq isAgg sz n cs).length=n
 | 0,cs,_,_=>by simp [zbq,zV]
 | n+1,cs,hl,ho=>by
  have hl':n * sz<=(cs.drop sz).length:=by rw [zBW] at hl;simp;omega
  obtain ⟨i1,i2,i3⟩:=zgJ h1 (n:=n) (cs:=cs.drop sz) hl' (fun x hx=>ho x (zBB hx));have hsz:sz<=cs.length:=by rw [zBW] at hl;omega
  have e:cs.take ((n+1) * sz)=cs.take sz++(cs.drop sz).take (n * sz):=by
   rw [show (n+1) * sz=sz+n * sz by rw [zBW];omega,List.take_add]
  cases isAgg with
  | true =>
   simp only [zbq,if_true,zV,zBK,V.cells] at *;refine ⟨by rw [i1,e],fun y hy=>?_,by simp [i3]⟩
   rcases zAO.1 hy with rfl|hy
   ·simp;omega
   ·exact i2 y hy
  | false =>
   have h1':=h1 rfl;subst h1';cases cs with
   | nil=>simp at hsz
   | cons x cs =>
    have hx:=ho x (zAL ..);have hxc:x.cells=[x]:=by cases x<;>first|rfl|(simp [V.one,oneV] at hx)
    simp only [zbq,zAD,if_false,List.headD_cons,zV,zBK] at *;refine ⟨by rw [i1,e,hxc];simp,fun y hy=>?_,by rw [zAS,i3]⟩
    rcases zAO.1 hy with rfl|hy
    ·rw [hxc];rfl
    ·exact i2 y hy
structure Src (g:Gh) (n:Nat) (w:World) (sz:Nat) (ys:List V) (cy:Value):Prop where
 form:∃ ad cap,cy=.slice ad ys.length cap/\(ys≠[]->∃ a0 news,ad=some a0/\RelCs g (zV ys) news/\∀ j v,news[j]?=some v->w.cell? (a0.add j)=some v)
 sized:∀ y:V,y∈ys->y.cells.length=sz
 tops:tops ys<=n
theorem zaC (h:Rel B g s a w) {e:TypeId} {sz:Nat} {y:V} {ys:List V} {cy:Value} (hsz:qc P e=some sz) (hy:vr P s.H e y=some ys) (hr:RelV g y cy) (ht:y.top<=s.H.blks.length):Src g s.H.blks.length w sz ys cy:=by
 unfold vr at hy;split at hy
 ·simp only [zAA] at hy;subst hy;cases hr;exact ⟨⟨none,0,rfl,fun hn=>absurd rfl hn⟩,fun y hy=>by simp at hy,zAU _⟩
 ·rename_i sz' xs ow;simp only [Option.bind_eq_bind,zAM] at hy;obtain ⟨n,hn,hy⟩:=hy;rw [hsz] at hn;cases hn;split at hy<;>simp only [zAA,reduceCtorEq] at hy;rename_i e';subst e';subst hy;cases hr with
  | sl f h1 h2 h3 h4 h5 h6 =>
   rename_i ad cap c o;refine ⟨⟨ad,cap,rfl,fun hn=>⟨⟨c,o,none⟩,(List.range (zV xs).length).map f,h3 hn,⟨by simp,h4,fun j x v hx hv=>?_⟩,fun j v hv=>?_⟩⟩,h1,ht⟩
   ·have hj:=(zAG.1 hx).1;simp [hj] at hv;subst hv;exact h6 j x hx
   ·have hj:j<(zV xs).length:=by have:=(zAG.1 hv).1;simpa using this
    have e':f j=v:=by simpa [hj] using hv
    rw [Addr.add_lit,<- e'];exact h.wok.mem _ _ _ (h5 j _ (zAV hj))
 ·rename_i b off len;simp only [Option.bind_eq_bind,zAM] at hy;obtain ⟨x,hx,hy⟩:=hy;split at hy<;>try (cases hy;done)
  rename_i cs ty;simp only [zAM] at hy;obtain ⟨n,hn,ag,hag,hy⟩:=hy;rw [hsz] at hn;cases hn;split at hy<;>simp only [zAA,reduceCtorEq] at hy;rename_i hc;simp only [zAF,zAZ] at hc;obtain ⟨hle,hag1⟩:=hc;have hle':off+len * sz<=cs.length:=zAk hle;obtain ⟨arr,a1,a2,a3,_⟩:=zaB h hx;have hdl:((cs.drop off).map clr).length=cs.length - off:=by simp
  obtain ⟨f1,f2,f3⟩:=zgJ (isAgg:=ag) (sz:=sz) (n:=len) (cs:=(cs.drop off).map clr) (fun e=>hag1.elim (fun h1=>by rw [e] at h1;cases h1) zAQ) (by rw [hdl];omega) (fun x hx=>by
   simp only [zA4] at hx;obtain ⟨y,hy,rfl⟩:=hx;rw [zfu];obtain ⟨j,hj⟩:=List.getElem?_of_mem (zBB hy)
   exact a2.one j y hj)
  subst hy;cases hr with
  | sr hlc =>
   rename_i cap;refine ⟨⟨some ⟨g.blk b,off,none⟩,cap,by rw [f3],fun _=>⟨_,(arr.toList.drop off).take (len * sz),rfl,?_,fun j v hv=>?_⟩⟩,f2,?_⟩
   ·rw [f1];refine ⟨?_,fun j x hx=>?_,fun j x v hx hv=>?_⟩
    ·have:=a2.len;simp at this ⊢;omega
    ·simp only [zA9] at hx;split at hx<;>try (cases hx;done)
     simp only [zAl,zBU,zAd] at hx;obtain ⟨y,hy,rfl⟩:=hx;rw [zfu];exact a2.one _ _ hy
    ·simp only [zA9] at hx hv;split at hx<;>try (cases hx;done)
     rename_i hj;rw [if_pos hj] at hv;simp only [zAl,zBU,zAd] at hx hv;obtain ⟨y,hy,rfl⟩:=hx;exact (a2.rel _ _ _ hy hv).clr
   ·simp only [zA9] at hv;split at hv<;>try (cases hv;done)
    simp only [zBU] at hv;rw [Addr.add_lit,cell_of_row w _ _ arr _ _ a1];simpa using hv
   ·refine qS fun y hy=>?_;have hfl:∀ z∈zV (zbq ag sz len ((cs.drop off).map clr)),z.top<=s.H.blks.length:=fun z hz=>by
     rw [f1] at hz;have:=zA3 hz;simp only [zA4] at this;obtain ⟨u,hu,rfl⟩:=this;rw [top_clr];exact zAP (zo (zBB hu)) a3
    cases y with
    | agg us=>exact qS fun z hz=>hfl z (List.mem_flatMap.2 ⟨_,hy,hz⟩)
    | _=>exact hfl _ (List.mem_flatMap.2 ⟨_,hy,zBh.2 rfl⟩)
 ·cases hy
end Go.Vm
namespace Go.Vm
open Go
variable {P:Program} {B:Base} {g:Gh} {s:St} {a:Act} {w:World}
theorem zeM (h:Rel B g s a w) {e sz:Nat} {xs:List V} {ow:Own} {cv:Value} {vs:List Value} (hr:RelV g (.sl sz xs ow) cv) (ho:w.ownsRow 0 e sz cv xs.length vs):RelCs g (zV xs) vs:=by
 cases hr with
 | sl f h1 h2 h3 h4 h5 h6 =>
  rename_i ad cap c o;refine ⟨by rw [qu h1,ho.1],h4,fun j x v hx hv=>?_⟩
  have hne:xs≠[]:=by rintro rfl;simp [zV] at hx
  have e1:=h3 hne;subst e1;have ho':=ho;obtain ⟨_,ho2⟩:=ho';rcases ho2 with ⟨e2,_⟩|⟨c',cap',cur,e2,_⟩
  ·cases e2
  ·cases e2;have:=ho.cells (g:=c) rfl j v hv;rw [Addr.add_lit] at this;have hm:=h.wok.mem _ _ _ (h5 j x hx);rw [hm] at this;cases this;exact h6 j x hx
theorem Gh.row_le (n:Nat) {g:Gh} {w:World} (hm:∀ c o v,g.M c o=some v->w.cell? ⟨c,o,none⟩=some v) (vs:List Value) (l:Option Loc):Gh.Le n g (g.row w.heap.size vs l):=by
 refine ⟨fun c o v hv=>?_,fun _ _=>rfl,rfl,fun _ _ _ _ e=>e⟩;have:=wB (hm c o v hv);simp only [Gh.row];rw [if_neg (by omega)]
 exact hv
theorem zgK (h:Rel B g s a w) {e sz:Nat} {z:Value} {zs:List V} {vs:List Value} (hzs:∀ y:V,y∈zs->y.cells.length=sz) (hcs:RelCs g (zV zs) vs) (ht:tops zs<=s.H.blks.length) (hz:z.cells.size=sz) (hmax:zs.length<=maxLen) (old:Nat) (l:Loc) {arr:Array Value} (harr:arr.toList=vs) :
  ∃ g',Rel B g' s a (w.drew.alloc (.cells (arr++Builtin.zeroCells z.cells (grownCap w zs.length old e - zs.length)) e))/\RelV g' (.sl sz zs (.yes e)) (.slice (some ⟨w.heap.size,0,none⟩) zs.length (grownCap w zs.length old e)) /\
   OwnAt g' s.H.blks.length (w.drew.alloc (.cells (arr++Builtin.zeroCells z.cells (grownCap w zs.length old e - zs.length)) e)) l e sz zs.length (.slice (some ⟨w.heap.size,0,none⟩) zs.length (grownCap w zs.length old e)):=by
 have hlen:vs.length=zs.length * sz:=by rw [<- hcs.len,qu hzs]
 have hasz:arr.size=zs.length * sz:=by rw [<- hlen,<- harr];simp
 have hge:=grownCap_ge w zs.length old e;generalize hcap:grownCap w zs.length old e=cap at hge ⊢;have hcm:cap<=maxLen:=by rw [<- hcap];exact grownCap_le_maxLen w _ old e hmax
 generalize hcur:arr++Builtin.zeroCells z.cells (cap - zs.length)=cur;have hnew:(w.drew.alloc (.cells cur e)).heap[w.heap.size]?=some (.cells cur e (0,0)):=heap_alloc_new w.drew _;have hcell:∀ o v,vs[o]?=some v->(w.drew.alloc (.cells cur e)).cell? ⟨w.heap.size,o,none⟩=some v:=fun o v hv=>by
  rw [cell_of_row _ _ _ cur _ _ hnew,<- hcur];have ho:o<arr.size:=by rw [hasz,<- hlen];exact (zAG.1 hv).1
  rw [Array.getElem?_append_left ho,<- zBb,harr];exact hv
 have hR:=h.settle vs (some l) (w':=w.drew.alloc (.cells cur e)) (by simp) (fun c hc=>Go.heap_alloc_old w.drew _ hc) hcell rfl rfl rfl
 refine ⟨_,hR,RelV.settled (n:=s.H.blks.length) hzs hge hcs (zAP yY ht) (Gh.row_le _ h.wok.mem _ _),vs,⟨hlen,.inr ⟨w.heap.size,cap,cur,rfl,zAU _,hnew,hge,hcm,?_,?_⟩⟩,fun c hc=>?_⟩
 ·rw [<- hcur,Array.size_append,hasz,size_zeroCells,hz,<- zBW];congr 1;omega
 ·rw [<- hcur,Array.toList_append,List.take_append_of_le_length (by simp;omega),harr]
  exact zBM (by omega)
 ·simp only [Value.ownBlock,zAA] at hc;subst hc;refine ⟨by simp [Gh.row],fun o ho=>?_,fun b hb e=>?_⟩
  ·simp only [Gh.row,if_true];exact zAu (by omega)
  ·have:=h.wok.lt b hb;simp only [Gh.row] at e;omega
theorem RelCs.append {xs ys:List V} {vs news:List Value} (hold:RelCs g (zV xs) vs) (hcs:RelCs g (zV ys) news):RelCs g (zV (xs++ys)) (vs++news):=by
 simp only [zV,List.flatMap_append] at *;refine ⟨by simp only [zAi,hold.len,hcs.len],fun j x hx=>?_,fun j x v hx hv'=>?_⟩
 ·rcases zAg j (xs.flatMap V.cells).length with h1|h1
  ·rw [zAe h1] at hx;exact hold.one j x hx
  ·rw [zAf h1] at hx;exact hcs.one _ x hx
 ·rcases zAg j (xs.flatMap V.cells).length with h1|h1
  ·rw [zAe h1] at hx;rw [zAe (by rw [<- hold.len];exact h1)] at hv'
   exact hold.rel j x v hx hv'
  ·rw [zAf h1] at hx;rw [zAf (by rw [<- hold.len];exact h1),<- hold.len] at hv'
   exact hcs.rel _ x v hx hv'
theorem zh2 (h:Rel B g s a w) {e sz:Nat} {xs ys:List V} {news:List Value} {cv:Value} (hv:RelV g (.sl sz xs (.yes e)) cv) {t0:Nat} (ht0:s.env.length<=t0) (ht1:t0<=s.env.length) (ho:OwnAt g s.H.blks.length w (.slot B.d t0) e sz xs.length cv)
  (hzs:∀ y:V,y∈xs++ys->y.cells.length=sz) (hcs:RelCs g (zV ys) news) (ht:tops (xs++ys)<=s.H.blks.length) (l:Loc) {c cap:Nat} {cur:Array Value} (hcv:cv=.slice (some ⟨c,0,none⟩) xs.length cap)
  (hcur:w.heap[c]?=some (.cells cur e (0,0))) (hroom:xs.length+ys.length<=cap) :
  ∃ g',Rel B g' s a (w.setRow c (cur.toList.take (xs.length * sz)++news++cur.toList.drop (xs.length * sz+news.length)).toArray)/\RelV g' (.sl sz (xs++ys) (.yes e)) (.slice (some ⟨c,0,none⟩) (xs.length+ys.length) cap) /\
   OwnAt g' s.H.blks.length (w.setRow c (cur.toList.take (xs.length * sz)++news++cur.toList.drop (xs.length * sz+news.length)).toArray) l e sz (xs.length+ys.length) (.slice (some ⟨c,0,none⟩) (xs.length+ys.length) cap):=by
 subst hcv;obtain ⟨vs,ho1,ho2⟩:=ho;have hold:=zeM h hv ho1;obtain ⟨hvl,ho3⟩:=ho1;rcases ho3 with ⟨e2,_⟩|⟨c',cap',cur',e2,_,hc2,hn,hcm,hsz,htake⟩
 ·cases e2
 cases e2;rw [hcur] at hc2;cases hc2;obtain ⟨own1,own2,own3⟩:=ho2 c rfl;have hnl:news.length=ys.length * sz:=by rw [<- hcs.len,qu fun y hy=>hzs y (zA6 _ hy)]
 have hbig:xs.length * sz+ys.length * sz<=cap * sz:=by rw [<- zBW];exact zBk _ hroom
 generalize hcu:cur.toList.take (xs.length * sz)++news++cur.toList.drop (xs.length * sz+news.length)=L;have hL:L=(vs++news)++cur.toList.drop (xs.length * sz+news.length):=by rw [<- hcu,htake]
 have hlt:c<w.heap.size:=(zAj.1 hcur).1;have hnew:(w.setRow c L.toArray).heap[c]?=some (.cells L.toArray e (0,0)):=setRow_heap w c _ _ _ _ hcur;have hoth:∀ c',c'≠c->(w.setRow c L.toArray).heap[c']?=w.heap[c']?:=fun c' hne=>setRow_other w c c' _ hne;have hsize:(w.setRow c L.toArray).heap.size=w.heap.size:=setRow_size w c _
 have hcell:∀ o v,(vs++news)[o]?=some v->(w.setRow c L.toArray).cell? ⟨c,o,none⟩=some v:=fun o v hv'=>by
  rw [cell_of_row _ _ _ _ _ _ hnew,List.getElem?_toArray,hL,zAe (zAG.1 hv').1];exact hv'
 have hext:∀ o v,g.M c o=some v->(vs++news)[o]?=some v:=fun o v hm=>by
  have hlt:o<vs.length:=by
   rcases zAg o (xs.length * sz) with h1|h1
   ·omega
   ·rw [own2 o h1] at hm;cases hm
  rw [zAe hlt];have:=h.wok.mem _ _ _ hm;rw [cell_of_row w _ _ _ _ _ hcur] at this;rw [<- htake,zA9,if_pos (by omega)]
  simpa using this
 have hR:=h.growRow ht0 ht1 own1 hlt (vs++news) (some l) hoth hsize hcell hext rfl rfl rfl
 have hle:Gh.Le s.H.blks.length g (g.grown c (vs++news) (some l)):=⟨fun c' o v hm=>by
  simp only [Gh.grown];split
  ·rename_i e;subst e;exact hext o v hm
  ·exact hm,fun _ _=>rfl,rfl,fun _ _ _ _ e=>e⟩
 have hall:RelCs g (zV (xs++ys)) (vs++news):=hold.append hcs;refine ⟨_,hR,?_,vs++news,⟨by rw [zAi,hvl,hnl,zBW],.inr ⟨c,cap,L.toArray,rfl,zAU _,hnew,hroom,hcm,?_,?_⟩⟩,fun c' hc'=>?_⟩
 ·rw [show xs.length+ys.length=(xs++ys).length by simp]
  refine .sl (c:=c) (o:=0) (fun j=>(vs++news).getD j .nilFunc) hzs (by simpa using hroom) (fun _=>rfl) hall.one (fun j x hj=>?_) (fun j x hj=>?_)
  ·obtain ⟨v,hv',_⟩:=hall.get hj;simp [Gh.grown,hv',List.getD]
  ·obtain ⟨v,hv',hr⟩:=hall.get hj;have:=hr.le hle (zAP (zo (zH hj)) (zAP yY ht));simpa [List.getD,hv'] using this
 ·rw [<- hsz];simp only [List.size_toArray,<- hcu,zAi,zA7,List.length_drop,zBD];omega
 ·rw [zBW,<- hnl,<- hvl];simp only [hL];rw [List.take_append_of_le_length (by simp)]
  exact zBM (by simp)
 ·simp only [Value.ownBlock,zAA] at hc';subst hc';refine ⟨by simp [Gh.grown],fun o ho=>?_,fun b hb e=>own3 b hb e⟩
  simp only [Gh.grown,if_true];exact zAu (by rw [zAi,hvl,hnl,<- zBW];exact ho)
end Go.Vm
