/- The abstract machine Vm: Go data by value, a small heap for variables and maps, an interpreter over the model's own Code. Conditions: none but those named. -/
import GoSem.Step
import Derived.Calls
import Derived.Laws.AppendOwn
import Derived.Laws.OwnMore
import Derived.Laws.MakeOwn
import Derived.Laws.NewBlocks
import Derived.Laws.Rows
import Derived.Deep.Draws
import Derived.Tactics
import Derived.Laws.Cells
import Derived.Laws.Entries
import Derived.Laws.CopyRow
import Derived.Laws.StructEq
import Derived.Laws.Cover3
import Derived.WalkKit
import Derived.Laws.BytesString
import Derived.Laws.RangeString
import Derived.Laws.IdiomStrings
namespace Go
theorem aV:∀{α:Type _}{as bs:List α},List.length (as++bs)=List.length as+List.length bs:=@List.length_append
theorem aU:∀{α:Type _}{β:Type _}(a:α)(f:α->Option β),Option.bind (some a) f=f a:=@Option.bind_some
theorem aY:∀{α:Type _}(as bs cs:List α),as++bs++cs=as++(bs++cs):=@List.append_assoc
theorem aS:∀{α:Type _}{β:Type _}(a:α)(f:α->β),Option.map f (some a)=some (f a):=@Option.map_some
theorem aZ:∀{α:Type _}{a:α}{as:List α},List.length (a::as)=List.length as+1:=@List.length_cons
theorem bh:∀{α:Type _}{a:α}{as bs:List α},a::as++bs=a::(as++bs):=@List.cons_append
theorem bu:∀{α:Type _}(val A_:α),(some val=some A_)=(val=A_):=@Option.some.injEq
theorem bg:∀{α:Type _}(as:List α),[]++as=as:=@List.nil_append
theorem a_:∀{α:Type _}{β:Type _}{f:α->β}{a:α}{l:List α},List.map f (a::l)=f a::List.map f l:=@List.map_cons
theorem bt:∀{α:Type _}{β:Type _}{f:α->β},List.map f []=[]:=@List.map_nil
theorem bG:∀{α:Type _}{as:List α}{i:Nat}{a:α},List.length (List.set as i a)=List.length as:=@List.length_set
theorem cP:∀{α:Type _}{i:Nat}{a:α}{l:List α},l[i]?=some a↔∃h,l[i]=a:=@List.getElem?_eq_some_iff
theorem bS:∀{α:Type _}{x:α}{xs:List α}{a:α},List.set (x::xs) 0 a=a::xs:=@List.set_cons_zero
theorem bU:∀{α:Type _}{x:α}{xs:List α}{i:Nat}{a:α},List.set (x::xs) (i+1) a=x::List.set xs i a:=@List.set_cons_succ
theorem eM:∀{α:Type _}{l₁ l₂:List α}{i:Nat},List.length l₁<=i->(l₁++l₂)[i]?=l₂[i - List.length l₁]?:=@List.getElem?_append_right
theorem cw:∀{α:Type _}{β:Type _}(fst:α)(snd:β)(JA:α)(JB:β),((fst,snd)=(JA,JB))=(fst=JA/\snd=JB):=@Prod.mk.injEq
theorem d_:∀{α:Type _}(y:α){a:α}{l:List α},a∈l->a∈y::l:=@List.mem_cons_of_mem
theorem eL:∀{α:Type _}{b:α}{E6:Type _}{x:Option E6}{f:E6->Option α},Option.bind x f=some b↔∃a,x=some a/\f a=some b:=@Option.bind_eq_some_iff
theorem fI:∀{α:Type _}{l₁ l₂:List α}{i:Nat},i<List.length l₁->(l₁++l₂)[i]?=l₁[i]?:=@List.getElem?_append_left
theorem eR:∀{n m:Nat},Nat.beq n m=true->n=m:=@Nat.eq_of_beq_eq_true
theorem fQ:∀{α:Type _}{l:List α}{i:Nat}(h:i<List.length l),l[i]?=some l[i]:=@List.getElem?_eq_getElem
theorem cU:∀{n m k:Nat},n<=m->m<=k->n<=k:=@Nat.le_trans
theorem ei:∀(a b:Bool),((a&&b)=true)=(a=true/\b=true):=@Bool.and_eq_true
theorem eT:∀{α:Type _}{a:α}{l:List α},a∈a::l:=@List.mem_cons_self
theorem dN:∀{α:Type _}{b:α}{l:List α}{a:α},a∈b::l↔a=b\/a∈l:=@List.mem_cons
theorem dB:∀(n:Nat),n<=n:=@Nat.le_refl
theorem f_:(false=true)=False:=@Bool.false_eq_true
theorem gj:∀{α:Type _}{β:Type _}{f:α->β}{l:List α}{i:Nat},(List.map f l)[i]?=Option.map f l[i]?:=@List.getElem?_map
theorem dU:∀(n:Nat),0<=n:=@Nat.zero_le
theorem ga:∀{α:Type _}{a b:α},Option.getD (some a) b=a:=@Option.getD_some
theorem eI:∀(n m:Nat),n<m\/n ≥ m:=@Nat.lt_or_ge
theorem gk:∀{α:Type _}{β:Type _}{as:List α}(f:α->β),List.length (List.map f as)=List.length as:=@List.length_map
theorem mA:∀{α:Type _}{b:α}{E6:Type _}{x:Option E6}{f:E6->α},Option.map f x=some b↔∃a,x=some a/\f a=b:=@Option.map_eq_some_iff
theorem m8:∀{α:Type _}{l:List α}{i:Nat}{a:α},l[i]?=some a->a∈l:=@List.mem_of_getElem?
theorem mF:∀{α:Type _}{a b:α},a∈[b]↔a=b:=@List.mem_singleton
theorem iW:∀{α:Type _}{l:List α},List.drop 0 l=l:=@List.drop_zero
theorem iH:∀{α:Type _}{β:Type _}{b:β}{f:α->β}{l:List α},b∈List.map f l↔∃a,a∈l/\f a=b:=@List.mem_map
theorem mT:∀{α:Type _}(as:List α),as++[]=as:=@List.append_nil
theorem sH:∀{α:Type _}{i:Nat}{b:α}{xs:Array α},xs[i]?=some b↔∃h,xs[i]=b:=@Array.getElem?_eq_some_iff
theorem rM:∀{α:Type _}{i:Nat}{l:List α},List.length l<=i->List.take i l=l:=@List.take_of_length_le
theorem lu:∀(a:Nat),Nat.beq a a=true:=@Nat.beq_refl
theorem mG:(!true)=false:=@Bool.not_true
theorem r8:∀{n m:Nat},Nat.ble n m=true->n<=m:=@Nat.le_of_ble_eq_true
theorem su:∀{α:Type _}{l:List α}{i j:Nat},i ≠ j->∀{a:α},(List.set l i a)[j]?=l[j]?:=@List.getElem?_set_ne
theorem oM:∀{α:Type _}{a:α}{s t:List α},a∈s++t↔a∈s\/a∈t:=@List.mem_append
theorem r9:∀{n m k:Nat},n<m->m<=k->n<k:=@Nat.lt_of_lt_of_le
theorem tW:∀{α:Type _}{s t:List α}(i:Nat)(x:α),List.length s<=i->List.set (s++t) i x=s++List.set t (i - List.length s) x:=@List.set_append_right
theorem oN:(!false)=true:=@Bool.not_false
theorem nC:∀(n:Nat),n+0=n:=@Nat.add_zero
theorem nI:∀(n:Nat),0+n=n:=@Nat.zero_add
theorem uF:∀{α:Type _}{l:List α}{i:Nat},List.length l<=i->l[i]?=none:=@List.getElem?_eq_none
theorem oO:∀(n m k:Nat),n+m+k=n+(m+k):=@Nat.add_assoc
theorem mh:∀{α:Sort _}(a b:α),(bif true then a else b)=a:=@cond_true
theorem uG:∀{i n:Nat},i<n->(List.range n)[i]?=some i:=@List.getElem?_range
theorem w_:∀{α:Type _}{a:α}{as:List α}(bs:List α),a∈as->a∈as++bs:=@List.mem_append_left
theorem uH:∀{α:Type _}{a:α}{l:List α}{i:Nat},List.drop (i+1) (a::l)=List.drop i l:=@List.drop_succ_cons
theorem tC:∀{α:Type _}{l:List α}{i j:Nat}{a:α},(List.set l i a)[j]?=if i=j then if i<List.length l then some a else none else l[j]?:=@List.getElem?_set
theorem lU:∀(p:Prop),(True/\p)=p:=@true_and
theorem x_:∀{α:Type _}{a:α}{as:List α}{i:Nat},List.take (i+1) (a::as)=a::List.take i as:=@List.take_succ_cons
theorem nD:∀{α:Sort _}(a b:α),(bif false then a else b)=b:=@cond_false
theorem Ba:∀{α:Type _}{b:α}(as:List α){bs:List α},b∈bs->b∈as++bs:=@List.mem_append_right
theorem AM:∀{α:Type _}{xs:Array α},List.length (Array.toList xs)=Array.size xs:=@Array.length_toList
theorem uI:(¬False)=True:=@not_false_eq_true
theorem Ct:∀{α:Type _}{l:List α}{i:Nat}{a:α},i<List.length l->(List.set l i a)[i]?=some a:=@List.getElem?_set_self
theorem AN:∀{α:Type _}{l:List α}{i j:Nat},(List.take i l)[j]?=if j<i then l[j]? else none:=@List.getElem?_take
theorem y_:∀(n:Nat),Int.toNat ↑n=n:=@Int.toNat_natCast
theorem uJ:∀{α:Type _}{i:Nat}{l:List α},List.length (List.take i l)=min i (List.length l):=@List.length_take
theorem Cu:∀{α:Type _}(i:Nat)(l:List α),List.take i l++List.drop i l=l:=@List.take_append_drop
theorem tX:∀(a b:Bool),((a||b)=true)=(a=true\/b=true):=@Bool.or_eq_true
theorem EJ:∀{α:Type _}{xs:Array α}{i:Nat}(h:i<Array.size xs),xs[i]?=some xs[i]:=@Array.getElem?_eq_getElem
theorem Cv:∀{α:Type _}{a:α}{i:Nat}{l:List α},a∈List.drop i l->a∈l:=@List.mem_of_mem_drop
theorem Cw:∀{α:Type _}{i:Nat}{a:α}{l:List α},a∈List.take i l->a∈l:=@List.mem_of_mem_take
theorem tE:∀(b:Bool),(true&&b)=b:=@Bool.true_and
theorem E7:∀{α:Type _}{i:Nat}{l:List α}(h:i<List.length l),List.drop i l=l[i]::List.drop (i+1) l:=@List.drop_eq_getElem_cons
theorem HM:∀{α:Type _}{l:List α},List.length l=0->l=[]:=@List.eq_nil_of_length_eq_zero
theorem Cc:∀{α:Type _}{a:α},¬a∈[]:=@List.not_mem_nil
theorem E8:∀(n m:Nat),n+m - n=m:=@Nat.add_sub_cancel_left
theorem AO:∀(x y i:Nat),Nat.testBit (x||| y) i=(Nat.testBit x i||Nat.testBit y i):=@Nat.testBit_or
theorem AP:∀{α:Type _}{l:List α},List.take 0 l=[]:=@List.take_zero
theorem z_:∀(b:Bool),(false||b)=b:=@Bool.false_or
theorem Cy:∀{α:Type _}{p:α->Bool}{l:List α},List.all l p=true↔∀(x:α),x∈l->p x=true:=@List.all_eq_true
theorem t_:∀(n m k:Nat),(n+m) * k=n * k+m * k:=@Nat.add_mul
theorem E9:∀{α:Type _}{xs:Array α}{i:Nat},(Array.toList xs)[i]?=xs[i]?:=@Array.getElem?_toList
theorem Dh:∀{α:Type _}{l:List α},List.take (List.length l) l=l:=@List.take_length
theorem Cd:∀{m n:Nat},m∈List.range n↔m<n:=@List.mem_range
theorem D3:∀{α:Type _}{β:Type _}{x:α}{xs:List α}{f:α->List β},List.flatMap f (x::xs)=f x++List.flatMap f xs:=@List.flatMap_cons
theorem ua:∀{a b c:Nat},max a b<=c↔a<=c/\b<=c:=@Nat.max_le
theorem E_:∀{n m:Nat},Nat.testBit (2 ^ n) m=decide (n=m):=@Nat.testBit_two_pow
theorem Bb:∀(n:Nat),n - n=0:=@Nat.sub_self
theorem EK:∀(b:Bool),((!b)=true)=(b=false):=@Bool.not_eq_true'
theorem GO:∀{α:Type _}{s t:List α}(i:Nat)(x:α),i<List.length s->List.set (s++t) i x=List.set s i x++t:=@List.set_append_left
theorem D4:∀(a b:Nat),a<=max a b:=@Nat.le_max_left
theorem D5:∀{α:Type _}{val A_:α},some val=some A_->val=A_:=@Option.some.inj
theorem Fa:∀{α:Type _}{l₁ l₂:List α},(∀(i:Nat),l₁[i]?=l₂[i]?)->l₁=l₂:=@List.ext_getElem?
theorem K5:∀{α:Type _}{l:List α}{i:Nat}{a:α},List.getD l i a=Option.getD l[i]? a:=@List.getD_eq_getElem?_getD
theorem HN:∀{x y:Bool},(x||y)=false↔x=false/\y=false:=@Bool.or_eq_false_iff
theorem HO:∀{a m n:Nat},1<a->m<n->a ^ m<a ^ n:=@Nat.pow_lt_pow_right
theorem Fb:∀{a b:Nat},a<b->a % b=a:=@Nat.mod_eq_of_lt
theorem HP:∀{α:Type _}{β:Type _}{l:List α}{a:α}{f:α->β},a∈l->f a∈List.map f l:=@List.mem_map_of_mem
theorem HQ:∀{α:Type _}{a:α}{n:Nat},List.replicate (n+1) a=a::List.replicate n a:=@List.replicate_succ
theorem JC:∀{α:Type _}{a:α},List.length [a]=1:=@List.length_singleton
theorem Fc:∀{a b:Bool},a=b↔(a=true↔b=true):=@Bool.eq_iff_iff
theorem HR:∀{α:Type _}{xs:List α}{i j:Nat},(List.drop i xs)[j]?=xs[i+j]?:=@List.getElem?_drop
theorem K6:∀{α:Type _}{l:List α},List.length l=0↔l=[]:=@List.length_eq_zero_iff
theorem K7:∀{α:Type _}{a:α}{l:List α},(a::l)[0]?=some a:=@List.getElem?_cons_zero
theorem Fe:∀(b:Bool),(false&&b)=false:=@Bool.false_and
theorem K8:∀{n m:Nat},n<=m->Nat.ble n m=true:=@Nat.ble_eq_true_of_le
theorem HS:∀(a b:Nat),b<=max a b:=@Nat.le_max_right
theorem JD:∀(n:Nat),n=0\/n > 0:=@Nat.eq_zero_or_pos
theorem JE:∀{n m k:Nat},n<=m->m<k->n<k:=@Nat.lt_of_le_of_lt
theorem HT:∀(n:Nat),n<Nat.succ n:=@Nat.lt_succ_self
theorem K9:∀{n m:Nat}(k:Nat),n<=m->n * k<=m * k:=@Nat.mul_le_mul_right
theorem Bc:∀(p:Prop),(p\/False)=p:=@or_false
theorem JF:∀{x y n:Nat},x<2 ^ n->y<2 ^ n->x||| y<2 ^ n:=@Nat.or_lt_two_pow
theorem K_:∀{α:Type _}{l:List α},0<List.length l↔l ≠ []:=@List.length_pos_iff
theorem NO:∀{x i:Nat},x<2 ^ i->Nat.testBit x i=false:=@Nat.testBit_lt_two_pow
theorem Ce:∀(p:Prop),(p/\True)=p:=@and_true
theorem JG:∀(b:Bool),(¬b=true)=(b=false):=@Bool.not_eq_true
theorem La:∀{n m:Nat},n<=m->n<=Nat.succ m:=@Nat.le_succ_of_le
theorem Lb:∀{n:Nat},List.length (List.range n)=n:=@List.length_range
theorem HU:∀(n m:Nat),Nat.succ n * m=n * m+m:=@Nat.succ_mul
theorem JH:∀(n m:Nat),n+m=m+n:=@Nat.add_comm
theorem Lc:∀(b:Bool),(b&&true)=b:=@Bool.and_true
theorem Pf:(true=false)=False:=@Bool.true_eq_false
theorem JI:∀(n:Nat),n * 1=n:=@Nat.mul_one
end Go
namespace Go.Vm
open Go
section
theorem aF{α:Sort _}{h:Decidable True}(t e:α):@ite α True h t e=t:=if_true ..
theorem bz{α:Sort _}{h:Decidable False}(t e:α):@ite α False h t e=e:=if_false ..
inductive tG where
 |no|yes (e:TypeId)|lock
 deriving DecidableEq,Inhabited
inductive V where
 |bool (b:Bool)
 |int (k:IntKind) (n:Int)
 |str (s:List Nat)
 |fE|ptr (b off:Nat)|eN (g off:Nat)|obj (k:Nat)|vp (cs:List V)
 |aG|sl (sz:Nat) (xs:List V) (o:tG)|sr (b off len cap:Nat)
 |iX|map (b:Nat)
 |nt|fn (f:Fn) (first cap:List V)
 |bT|ec (t:TypeId) (v:V)
 |dw (b u len:Nat)|gm (b u k:Nat)
 |agg (cs:List V)
 |br (vs:List V)
 |ee
 deriving Inhabited
abbrev aN:=List (Nat×Nat)
abbrev bP:=List (V×List V)
abbrev oP:=Option (Nat×Bool)
abbrev dA:=List Value
abbrev dF:=Array Value
abbrev r_:=Array Operand
abbrev cg:=List Tmp
abbrev fJ:=Option Tmp
abbrev aC:=List V
abbrev bY:=Option V
abbrev bL:=List Nat
abbrev aB:=TypeId
abbrev aQ:=Program
abbrev aP:=World
abbrev bw:=Value
abbrev aX:=Operand
def dD:V->Bool
 | .br _|.ee=>false
 | _=>true
def V.cells:V->aC
 | .agg cs=>cs
 | v=>[v]
def aW:V->V
 | .sl sz xs _=>.sl sz xs .no
 | v=>v
def V.laid:V->aC
 | .agg cs=>cs.map aW
 | v=>[v]
mutual
def V.top:V->Nat
 | .ptr b _|.sr b _ _ _|.map b=>b+1
 | .dw b _ _|.gm b _ _=>b+1
 | .vp cs|.sl _ cs _|.agg cs|.br cs=>aI cs
 | .fn _ a c=>max (aI a) (aI c)
 | .ec _ v=>v.top
 | _=>0
def aI:aC->Nat
 | []=>0
 | v::vs=>max v.top (aI vs)
end
def nth{α:Type}:List α->Nat->Option α
 | [],_=>none
 | x::_,0=>some x
 | _::xs,n+1=>nth xs n
def wP{β:Type}(n:Nat)(k:Nat->β):β :=
 match n with
 | 0=>k 0
 | m+1=>k (m+1)
def VM{β:Type}(n:Int)(k:Int->β):β :=
 match n with
 | .ofNat m=>wP m λm=>k (.ofNat m)
 | .negSucc m=>wP m λm=>k (.negSucc m)
def S_{β:Type}:bL->(bL->β)->β
 | [],k=>k []
 | x::xs,k=>wP x λx=>S_ xs λys=>k (x::ys)
def fL{α β:Type}:List α->(List α->β)->β
 | [],k=>k []
 | x::xs,k=>fL xs λys=>k (x::ys)
def fC{β:Type}(v:V)(k:V->β):β :=
 match v with
 | .bool true=>k (.bool true)
 | .bool false=>k (.bool false)
 | .int kd n=>VM n λn=>k (.int kd n)
 | .str s=>S_ s λs=>k (.str s)
 | .ptr b o=>wP b λb=>wP o λo=>k (.ptr b o)
 | .sr b o n c=>wP b λb=>wP o λo=>wP n λn=>wP c λc=>k (.sr b o n c)
 | .map b=>wP b λb=>k (.map b)
 | .dw b u n=>wP b λb=>wP u λu=>wP n λn=>k (.dw b u n)
 | .gm b u j=>wP b λb=>wP u λu=>wP j λj=>k (.gm b u j)
 | .sl sz xs o=>fL xs λxs=>k (.sl sz xs o)
 | .vp cs=>fL cs λcs=>k (.vp cs)
 | v=>k v
def Be{β:Type}:aC->(aC->β)->β
 | [],k=>k []
 | x::xs,k=>fC x λx=>Be xs λys=>k (x::ys)
def fV{β:Type}(v:V)(k:V->β):β :=
 match v with
 | .agg cs=>Be cs λcs=>k (.agg cs)
 | .br cs=>Be cs λcs=>k (.br cs)
 | .fn f a c=>Be a λa=>Be c λc=>k (.fn f a c)
 | v=>fC v k
def JJ{α β:Type}:List α->Nat->α->(List α->β)->β
 | [],_,_,k=>k []
 | _::xs,0,v,k=>k (v::xs)
 | x::xs,n+1,v,k=>JJ xs n v λys=>k (x::ys)
inductive aT where
 |cells (cs:aC) (t:aB)
 |map (es:List (V×V))
 |iter (s:bL) (pos:Nat)
 |ul (eO sz:Nat) (cs:aC) (e:aB)
 deriving Inhabited
structure Hp where
 au:List aT
 bC:aN
 deriving Inhabited
def Hp.push(H:Hp)(b:aT):Hp:={ H with au:=H.au++[b] }
def Hp.get(H:Hp)(b:Nat):Option aT:=nth H.au b
def Hp.set(H:Hp)(b:Nat)(x:aT):Hp:={ H with au:=H.au.set b x }
def Hp.bQ(H:Hp)(b:Nat)(v:V):Hp:=if v.top<=b+1 then H else { H with bC:=(b,v.top)::H.bC }
inductive Out where
 |ret (v:V)
 |p_ (v:V)
inductive Ex where
 |normal|exit (id:Nat)|goto (l:Nat)|ret|p_ (v:V)
inductive OR where
 |val (v:V)
 |skip
 |p_ (v:V)
def Cz:V->Bool
 | .agg _|.br _|.ee=>false
 | _=>true
mutual
def aj:bw->bY
 | .bool b=>some (.bool b)
 | .int k n=>some (.int k n)
 | .string s=>some (.str (s.data.toList.map UInt8.toNat))
 | .pointer none=>some .fE
 | .slice none 0 0=>some .aG
 | .map none=>some .iX
 | .nilFunc=>some .nt
 | .func f ⟨[]⟩ ⟨[]⟩=>some (.fn f [] [])
 | .nilIface=>some .bT
 | .agg ⟨cs⟩=>(nJ cs).bind λl=>if l.all Cz then some (.agg l) else none
 | .tuple ⟨[]⟩=>some (.br [])
 | _=>none
def nJ:dA->Option aC
 | []=>some []
 | v::vs=>match aj v,nJ vs with
  | some x,some xs=>some (x::xs)
  | _,_=>none
end
section
variable(P:aQ)
def z8(t:aB):Option Nat:=(P.info? t).map (·.size)
def qC(t:aB):Option Bool:=(P.underlying t).map λ|.struct _|.array _ _=>true|_=>false
def qP(t:aB):bY:=(P.info? t).bind λi=>i.zero.bind aj
def kT(t:aB)(cs:aC)(off:Nat):bY:=do
 if <- qC P t then
  let n <- z8 P t
  if off+n<=cs.length then some (.agg ((cs.drop off).take n)) else none
 else nth cs off
def xc(isAgg:Bool)(sz:Nat):Nat->aC->aC
 | 0,_=>[]
 | n+1,cs=>(if isAgg then .agg (cs.take sz) else cs.headD .ee)::xc isAgg sz n (cs.drop sz)
def kU(H:Hp)(elem:aB):V->Option aC
 | .aG=>some []
 | .sl sz xs _=>do
  let n <- z8 P elem
  if n=sz then some xs else none
 | .sr b off len _=>do
  let .cells cs _ <- H.get b|none
  let n <- z8 P elem
  let ag <- qC P elem
  if Nat.ble (off+len * n) cs.length && (ag || Nat.beq n 1) then some (xc ag n len ((cs.drop off).map aW)) else none
 | _=>none
def nK:aC->Option bL
 | []=>some []
 | .int .u8 n::r=>(nK r).map ((n.toNat % 256)::·)
 | _=>none
def om:bL->bL->Bool
 | [],[]=>true
 | a::x,b::y=>Nat.beq a b && om x y
 | _,_=>false
def Ld:bL->bL->Bool
 | _,[]=>false
 | [],_::_=>true
 | a::x,b::y=>Nat.blt a b || (Nat.beq a b && Ld x y)
def Pg(eq:aB->V->V->Option Bool):List Field->aC->aC->Option Bool
 | [],_,_=>some true
 | f::fs,xs,ys =>
  if f.name= "_" then none else do
   let a <- kT P f.type xs f.offset
   let b <- kT P f.type ys f.offset
   if <- eq f.type a b then Pg eq fs xs ys else some false
def NP(eq:aB->V->V->Option Bool)(e:aB)(n:Nat)(xs ys:aC):Nat->Nat->Option Bool
 | _,0=>some true
 | i,k+1=>do
  let a <- kT P e xs (i * n)
  let b <- kT P e ys (i * n)
  if <- eq e a b then NP eq e n xs ys (i+1) k else some false
def Lf(ds:TypeDesc)(x y:V):Option Bool :=
 match ds with
 | .bool=>match x,y with
  | .bool a,.bool b=>some (a == b)
  | _,_=>none
 | .int _=>match x,y with
  | .int k a,.int k' b=>if k=k' then some (a == b) else none
  | _,_=>none
 | .string=>match x,y with
  | .str a,.str b=>some (om a b)
  | _,_=>none
 | .pointer _=>match x,y with
  | .fE,.fE=>some true
  | .fE,.ptr _ _=>some false
  | .ptr _ _,.fE=>some false
  | .fE,.obj _=>some false
  | .obj _,.fE=>some false
  | _,_=>none
 | .interface _=>match x,y with
  | .bT,.bT=>some true
  | .bT,.ec _ _=>some false
  | .ec _ _,.bT=>some false
  | .ec tx _,.ec ty _=>if tx=ty then none else some false
  | _,_=>none
 | .slice _=>match x,y with
  | .aG,.aG=>some true
  | .aG,.sl _ (_::_) _=>some false
  | .sl _ (_::_) _,.aG=>some false
  | .aG,.sr _ _ _ _=>some false
  | .sr _ _ _ _,.aG=>some false
  | _,_=>none
 | .map _ _=>match x,y with
  | .iX,.iX=>some true
  | .iX,.map _=>some false
  | .map _,.iX=>some false
  | _,_=>none
 | .func _ _ _=>match x,y with
  | .nt,.nt=>some true
  | .nt,.fn _ _ _=>some false
  | .fn _ _ _,.nt=>some false
  | _,_=>none
 | _=>none
def Bf:Nat->aB->V->V->Option Bool
 | 0,_,_,_=>none
 | d+1,t,x,y=>match P.underlying t with
  | none=>none
  | some ds=>match x,y with
   | .agg xs,.agg ys=>match ds with
    | .struct fs=>if P.stoodInHeld t then none else Pg P (Bf d) fs.toList xs ys
    | .array len e=>match z8 P e with
     | some n=>NP P (Bf d) e n xs ys 0 len
     | none=>none
    | _=>none
   | x,y=>Lf ds x y
def isConst:aX->Bool
 | .const _=>true
 | _=>false
def v8(t:aB)(x y:aX)(u v:V):Bool :=
 match u,v with
 | .bT,.bT=>isConst x || isConst y
 | .agg _,.agg _=>!P.eqGuardType P.depth t
 | .ee,_=>false
 | _,.ee=>false
 | _,_=>true
def jv(op:BinOp)(t:aB)(x y:aX)(u v:V):Bool :=
 match op with
 | .eql=>v8 P t x y u v
 | .neq=>v8 P t x y u v
 | _=>true
def Lg(op:BinOp)(k:IntKind)(x y:Int):bY :=
 if y<0 then none else
 let n:=min y.toNat k.bits
 match op with
 | .shl=>some (.int k (k.wrap (x * 2 ^ n)))
 | .shr=>some (.int k (x.fdiv (2 ^ n)))
 | _=>none
def j4(op:BinOp)(k:IntKind)(x y:Int):bY :=
 match op with
 | .add=>some (.int k (k.wrap (x+y)))
 | .sub=>some (.int k (k.wrap (x - y)))
 | .mul=>some (.int k (k.wrap (x * y)))
 | .quo=>if y=0 then none else some (.int k (k.wrap (x.tdiv y)))
 | .rem=>if y=0 then none else some (.int k (x.tmod y))
 | .and=>some (.int k (k.wrap ((BitVec.ofInt k.bits x &&& BitVec.ofInt k.bits y).toNat)))
 | .or=>some (.int k (k.wrap ((BitVec.ofInt k.bits x ||| BitVec.ofInt k.bits y).toNat)))
 | .xor=>some (.int k (k.wrap ((BitVec.ofInt k.bits x ^^^ BitVec.ofInt k.bits y).toNat)))
 | .andNot=>some (.int k (k.wrap ((BitVec.ofInt k.bits x &&& ~~~ (BitVec.ofInt k.bits y)).toNat)))
 | .eql=>some (.bool (x == y))
 | .neq=>some (.bool (x != y))
 | .lss=>some (.bool (x<y))
 | .leq=>some (.bool (x<=y))
 | .gtr=>some (.bool (x > y))
 | .geq=>some (.bool (x ≥ y))
 | _=>none
def Ph(op:BinOp)(x y:bL):bY :=
 match op with
 | .add=>if x.length+y.length<=140737488355328 then some (.str (x++y)) else none
 | .eql=>some (.bool (om x y))
 | .neq=>some (.bool !(om x y))
 | .lss=>some (.bool (Ld x y))
 | .leq=>some (.bool (Ld x y || om x y))
 | .gtr=>some (.bool !(Ld x y || om x y))
 | .geq=>some (.bool !(Ld x y))
 | _=>none
def w9(op:BinOp)(t:aB)(x y:V):bY :=
 match op,x,y with
 | .shl,.int k a,.int _ b|.shr,.int k a,.int _ b=>Lg op k a b
 | _,.int k a,.int k' b=>if k=k' then j4 op k a b else none
 | _,.str a,.str b=>Ph op a b
 | .eql,x,y=>(Bf P 100 t x y).map .bool
 | .neq,x,y=>(Bf P 100 t x y).map λb=>.bool !b
 | _,_,_=>none
def iI(op:UnOp)(x:V):bY :=
 match op,x with
 | .neg,.int k n=>some (.int k (k.wrap (0 - n)))
 | .xor,.int k n=>j4 .xor k (if k.signed then -1 else k.max) n
 | .not,.bool b=>some (.bool !b)
 | _,_=>none
def vB(src dst:aB)(x:V):bY:=do
 match <- P.underlying src,<- P.underlying dst,x with
 | _,.int k,.int _ n=>some (.int k (k.wrap n))
 | _,.string,.int _ n=>some (.str ((Utf8.encode n).data.toList.map UInt8.toNat))
 | _,.string,.str s=>some (.str s)
 | .slice e,.string,.aG=>do
  let .int .u8 <- P.underlying e|none
  some (.str [])
 | .slice e,.string,.sl 1 xs _=>do
  let .int .u8 <- P.underlying e|none
  (nK xs).map .str
 | .string,.slice e,.str s=>do
  let .int .u8 <- P.underlying e|none
  some (.sl 1 (s.map λ(b:Nat)=>.int .u8 b) .no)
 | _,_,_=>none
def ke(v:bY)(d:Nat):Option Nat :=
 match v with
 | none=>some d
 | some (.int _ n)=>if 0<=n then some n.toNat else none
 | _=>none
def yX(t:aB)(x:V)(lo hi:bY):bY:=do
 match <- P.underlying t,x with
 | .string,.str s=>do
  let h <- ke hi s.length
  let l <- ke lo 0
  if l<=h/\h<=s.length then some (.str ((s.take h).drop l)) else none
 | .slice e,.sl sz xs _=>do
  let h <- ke hi xs.length
  let l <- ke lo 0
  let n <- z8 P e
  if l<=h/\h<=xs.length/\n=sz then some (.sl sz ((xs.take h).drop l) .no) else none
 | .slice e,.aG=>do
  let h <- ke hi 0
  let l <- ke lo 0
  let _ <- z8 P e
  if l=0/\h=0 then some .aG else none
 | .slice e,.sr b off len cap=>do
  let h <- ke hi len
  let l <- ke lo 0
  let n <- z8 P e
  if l<=h/\h<=cap/\l<cap then some (.sr b (off+l * n) (h - l) (cap - l)) else
  if l=h/\h<=cap then some (.sl n [] .no) else none
 | _,_=>none
def zl(H:Hp)(gl:Nat->Nat->bY)(t:aB)(a:V):bY:=do
 match a with
 | .ptr b off=>do
  let .cells cs _ <- H.get b|none
  kT P t cs off
 | .vp cs=>kT P t cs 0
 | .gm b u k=>do
  let .ul eO _ cs _ <- H.get b|none
  if Nat.beq eO u then kT P t cs k else none
 | .eN g off=>if <- qC P t then none else gl g off
 | _=>none
def JK(a b:V):Option Bool :=
 match a,b with
 | .int k x,.int k' y=>if k=k' then some (x == y) else none
 | .str x,.str y=>some (om x y)
 | .bool x,.bool y=>some (x == y)
 | _,_=>none
def ya(ds:TypeDesc)(k:V):Bool :=
 match ds,k with
 | .int _,.int _ _=>true
 | .string,.str _=>true
 | .bool,.bool _=>true
 | _,_=>false
def JL(k:V):List (V×V)->Option bY
 | []=>some none
 | (a,v)::r=>match JK k a with
  | some true=>some (some v)
  | some false=>JL k r
  | none=>none
def HV(k x:V):List (V×V)->Option (List (V×V))
 | []=>some [(k,x)]
 | (a,v)::r=>match JK k a with
  | some true=>some ((k,x)::r)
  | some false=>(HV k x r).map ((a,v)::·)
  | none=>none
def HW(l:bL):Nat×Nat :=
 let at' (k:Nat):Nat:=l.getD k 0
 let cont (k:Nat):Bool:=Nat.blt k l.length && Nat.beq (at' k / 64) 2
 let b0:=at' 0
 if b0<0x80 then (b0,1)
 else if b0 / 32 == 6 && cont 1 then
  let c:=(b0 % 32) * 64+at' 1 % 64
  if c ≥ 0x80 then (c,2) else (Utf8.runeError,1)
 else if b0 / 16 == 14 && cont 1 && cont 2 then
  let c:=(b0 % 16) * 4096+(at' 1 % 64) * 64+at' 2 % 64
  if c ≥ 0x800 && Utf8.valid c then (c,3) else (Utf8.runeError,1)
 else if b0 / 8 == 30 && cont 1 && cont 2 && cont 3 then
  let c:=(b0 % 8) * 262144+(at' 1 % 64) * 4096+(at' 2 % 64) * 64+at' 3 % 64
  if c ≥ 0x10000 && Utf8.valid c then (c,4) else (Utf8.runeError,1)
 else (Utf8.runeError,1)
def VN(t:aB)(v:V)(name:String):Option (FuncId×V):=do
 let i <- P.info? t
 let m <- i.methods.find? (·.name == name)
 if !m.path.isEmpty then none else
 let (f,pr) <- m.func
 match <- P.underlying t,pr with
 | .pointer _,true=>some (f,v)
 | .pointer _,false=>none
 | _,true=>none
 | _,false=>some (f,v)
def storeCells{α:Type}(cs:List α)(off:Nat):List α->List α
 | []=>cs
 | v::vs=>storeCells (cs.set off v) (off+1) vs
def locked:V->Bool
 | .sl _ _ .lock=>true
 | _=>false
def VO(name:String)(args:aC):bY :=
 match name,args with
 | "internal/bytealg.IndexByteString",[.str s,.int .u8 c]=>if 0<=c/\c<256 then some (.int .i64 (match s.findIdx? (λ(b:Nat)=>Nat.beq b c.toNat) with|some i=>i|none=>-1)) else none
 | _,_=>none
end
def D6:List Oper->cg
 | [a,b]=>match a.dst,b.dst,b.op with
  | some k,some r,.assign (.tmp x)=>match Nat.beq k 19 && Nat.beq x 19 && Nat.beq r 2 with
   | true=>[k]
   | false=>[]
  | _,_,_=>[]
 | _=>[]
def D7:List Oper->cg
 | [a,b,c]=>match a.dst,a.op,b.dst,b.op,c.op with
  | some k,.load _ _,some r,.slice _ (.tmp x) (some _) none none,.store _ _ (.tmp y)=>match Nat.beq k x && Nat.beq r y with
   | true=>[k,1048576+k]
   | false=>[]
  | _,_,_,_,_=>[]
 | _=>[]
def jM(ops:Array Oper):cg :=
 (ops.toList.filterMap λo=>match o.op with
  | .call { callee:=.builtin .append,args,.. }=>match (args[0]?:Option aX) with
   | some (.tmp t)=>some t
   | _=>none
  | _=>none)++D6 ops.toList++D7 ops.toList
structure Cx where
 P:aQ
 gl:Nat->Nat->bY
 call:FuncId->aC->Hp->Option (Out×Hp)
 uq:aB->Bool
def ak(env:aC):aX->bY
 | .tmp t=>match nth env t with
  | some v=>some (aW v)
  | none=>none
 | .const v=>aj v
 | .global g=>some (.eN g 0)
 | .func f=>some (.fn (.func f) [] [])
def cX(env:aC):Option aX->Option bY
 | none=>some none
 | some x=>match ak env x with
  | some v=>some (some v)
  | none=>none
def take(env:aC):aX->Option (V×aC)
 | .tmp t=>match nth env t with
  | some (.sl sz xs (.yes e))=>JJ env t (.sl sz xs .no) λenv=>some (.sl sz xs (.yes e),env)
  | some v=>some (aW v,env)
  | none=>none
 | x=>(ak env x).map (·,env)
def az(env:aC):List aX->Option aC
 | []=>some []
 | x::xs=>match ak env x with
  | none=>none
  | some v=>fV v λv=>match az env xs with
   | none=>none
   | some vs=>some (v::vs)
structure St where
 env:aC
 H:Hp
 lk:aN
 defers:bP
def xT{β:Type}(H:Hp)(b:aT)(k:Nat->Hp->β):β :=
 match H with
 | ⟨bs,es⟩=>wP bs.length λn=>fL (bs++[b]) λbs=>k n ⟨bs,es⟩
def Ff{β:Type}(H:Hp)(b:Nat)(x:aT)(v:V)(k:Hp->β):β :=
 match H with
 | ⟨bs,es⟩=>JJ bs b x λbs=>if v.top<=b+1 then k ⟨bs,es⟩ else wP v.top λt=>k ⟨bs,(b,t)::es⟩
def HX:Out×Hp->OR×Hp
 | (.ret v,H)=>(.val v,H)
 | (.p_ v,H)=>(.p_ v,H)
def Cx.bD(cx:Cx)(f:FuncId)(args:aC)(H:Hp):Option (OR×Hp) :=
 match cx.P.funcs[f]? with
 | none=>none
 | some fn=>match fn.body with
  | none=>match VO fn.name args with
   | none=>none
   | some v=>some (.val v,H)
  | some _=>match cx.call f args H with
   | none=>none
   | some r=>some (HX r)
def Cx.mI(cx:Cx)(fv:V)(args:aC)(H:Hp):Option (OR×Hp) :=
 match fv with
 | .fn (.func f) first cap=>fL ((first++args++cap).map aW) λargs=>cx.bD f args H
 | .fn (.method name) first _ =>
  match first++args with
  | .ec t v::rest=>match VN cx.P t v name with
   | none=>none
   | some (f,r)=>fL ((r::rest).map aW) λargs=>cx.bD f args H
  | _=>none
 | _=>none
def kA(n bytes:Nat):Bool:=Nat.ble n 140737488355328 && Nat.ble (n * bytes) 140737488355328
def kf(P:aQ)(H:Hp)(t:aB)(v y:V):bY:=do
 let .slice e <- P.underlying t|none
 let n <- z8 P e
 let i <- P.info? e
 let z <- i.zero
 if !Nat.beq z.cells.size n then none else
 let ys <- kU P H e y
 match v with
 | .aG=>match ys with
  | []=>some .aG
  | ys=>if kA ys.length i.bytes && !Nat.beq n 0 then some (.sl n ys (.yes e)) else none
 | .sl sz xs (.yes e')=>if Nat.beq e e' && Nat.beq n sz && !Nat.beq n 0 && kA (xs.length+ys.length) i.bytes then some (.sl n (xs++ys) (.yes e)) else none
 | _=>none
def qV(P:aQ)(H:Hp)(t:aB)(v:V):Option Int :=
 match P.underlying t,v with
 | some .string,.str l=>some l.length
 | some (.slice _),.aG=>some 0
 | some (.slice _),.sl _ xs _=>some xs.length
 | some (.slice _),.sr _ _ n _=>some n
 | some (.slice _),.dw _ _ n=>some n
 | some (.map _ _),.iX=>some 0
 | some (.map _ _),.map b=>match H.get b with
  | some (.map es)=>some es.length
  | _=>none
 | _,_=>none
def Cx.builtin(cx:Cx)(b:Builtin)(argTypes:Array aB)(args:r_)(env:aC)(H:Hp):Option (OR×aC) :=
 match b,args.toList,argTypes.toList with
 | .len,[x],[t]=>do some (.val (.int .i64 (<- qV cx.P H t (<- ak env x))),env)
 | .append,[x,y],[t,u]=>do
  if !Nat.beq t u then none else
  let y <- ak env y
  let (v,env) <- take env x
  some (.val (<- kf cx.P H t v y),env)
 | .min,[x,y],_=>do
  match <- ak env x,<- ak env y with
  | .int k a,.int _ b=>some (.val (.int k (if b<a then b else a)),env)
  | _,_=>none
 | .max,[x,y],_=>do
  match <- ak env x,<- ak env y with
  | .int k a,.int _ b=>some (.val (.int k (if b > a then b else a)),env)
  | _,_=>none
 | _,_,_=>none
def xN(cells:aC)(place:Nat->Option (Nat×Nat))(env:aC):List (Nat×aX)->Option aC
 | []=>some cells
 | (i,x)::r=>do
  let v <- ak env x
  let (off,n) <- place i
  if dD v && Nat.beq v.cells.length n && Nat.ble (off+n) cells.length then xN (storeCells cells off v.cells) place env r else none
def Ta(P:aQ)(fs:Array Field):Option aN:=fs.toList.mapM (λf=>(P.info? f.type).map λi=>(f.offset,i.size))
def kB(P:aQ)(t:aB)(parts:Array (Nat×aX))(env:aC):bY :=
 match qP P t with
 | none=>none
 | some z=>if !dD z then none else match P.underlying t with
  | some (.struct fs)=>match Ta P fs with
   | some ps=>(xN z.cells (nth ps) env parts.toList).map .agg
   | none=>none
  | some (.array _ e)=>match P.info? e with
   | some ie=>(xN z.cells (λi=>some (i * ie.size,ie.size)) env parts.toList).map .agg
   | none=>none
  | _=>none
def D8(n len:Nat)(env:aC):aC->List (Nat×aX)->Option aC
 | xs,[]=>some xs
 | xs,(i,x)::r=>do
  let v <- ak env x
  if dD v && Nat.beq v.cells.length n && Nat.blt i len then fV v λv=>JJ xs i v λxs=>D8 n len env xs r else none
def NQ(P:aQ)(t:aB)(k:V):Bool :=
 match P.underlying t with
 | some (.map kt _)=>match P.underlying kt with
  | some kd=>ya kd k
  | none=>false
 | _=>false
def zp(P:aQ)(t:aB)(x:V)(i:Int):bY :=
 match P.underlying t with
 | some (.array len e)=>match z8 P e with
  | none=>none
  | some n=>match x with
   | .ptr b off=>if 0<=i/\i<len then some (.ptr b (off+i.toNat * n)) else none
   | .eN g off=>if 0<=i/\i<len then some (.eN g (off+i.toNat * n)) else none
   | .gm b u k=>if 0<=i/\i<len then some (.gm b u (k+i.toNat * n)) else none
   | .vp cs=>if 0<=i/\i<len then some (.vp (cs.drop (i.toNat * n))) else none
   | _=>none
 | some (.slice e)=>match z8 P e with
  | none=>none
  | some n=>match x with
   | .sl sz xs _=>if Nat.beq n sz then (if i<0 then none else match nth xs i.toNat with
    | some x=>some (.vp x.cells)
    | none=>none) else none
   | .sr b off len _=>if 0<=i/\i<len then some (.ptr b (off+i.toNat * n)) else none
   | .dw b u len=>if 0<=i/\i<len then some (.gm b u (i.toNat * n)) else none
   | _=>none
 | _=>none
def Pj(P:aQ)(t:aB)(x:V)(i:Int):bY :=
 match P.underlying t with
 | some (.array len e)=>match z8 P e with
  | none=>none
  | some n=>match x with
   | .agg cs=>if 0<=i/\i<len then (kT P e cs (i.toNat * n)).map aW else none
   | _=>none
 | some .string=>match x with
  | .str l=>if i<0 then none else match nth l i.toNat with
   | some b=>some (.int .u8 b)
   | none=>none
  | _=>none
 | _=>none
def aa:V->bY
 | .ptr b o=>some (.ptr b o)
 | .eN b o=>some (.eN b o)
 | .gm b u k=>some (.gm b u k)
 | .vp cs=>some (.vp cs)
 | .obj k=>some (.obj k)
 | .fn (.func f) a c=>some (.fn (.func f) a c)
 | .ec t v=>some (.ec t v)
 | _=>none
def Tb(P:aQ)(t:aB):Bool :=
 match P.underlying t with
 | none=>true
 | some (.interface _)=>true
 | _=>false
def xd(H:Hp):V->Option (List (V×V))
 | .iX=>some []
 | .map b=>match H.get b with
  | some (.map es)=>some es
  | _=>none
 | _=>none
def NR(P:aQ)(e:aB)(k:V)(es:List (V×V)):Option (V×Bool) :=
 match JL k es with
 | some (some v)=>some (v,true)
 | some none=>(qP P e).map (·,false)
 | none=>none
def Lh(P:aQ)(H:Hp)(a:aB)(v:V):bY :=
 match P.underlying a,v with
 | some (.slice e),.sr b o l c=>match kU P H e (.sr b o l c) with
  | some xs=>some (.sl 1 xs .no)
  | none=>none
 | _,v=>some v
def vg(a:aB):aB:=549755813888+a
def Li(P:aQ)(H:Hp)(a b:aB)(v:bY):bY :=
 match v with
 | none=>none
 | some v=>match Lh P H a v with
  | none=>none
  | some v=>vB P a b v
def qZ(P:aQ)(gl:Nat->Nat->bY)(o:Oper)(env:aC)(H:Hp):bY:=do
 let ρ:=ak env
 match o.op with
 | .move x=>ρ x
 | .pick c a b=>do
  let .bool t <- ρ c|none
  match t with
  | true=>ρ a
  | false=>ρ b
 | .build t parts=>kB P t parts env
 | .buildSlice t len parts=>do
  let .slice e <- P.underlying t|none
  let n <- z8 P e
  let z <- qP P e
  if Nat.beq n 0 || Nat.blt 16777216 (len * n) || !Nat.beq z.cells.length n || !dD z then none else
  let xs <- D8 n len env (List.replicate len z) parts.toList
  some (.sl n xs (.yes e))
 | .load t a=>do
  let v <- zl P H gl t (<- ρ a)
  some (aW v)
 | .nilCheck x=>do
  aa (<- ρ x)
 | .binOp op t x y _=>do
  let u <- ρ x
  let v <- ρ y
  if jv P op t x y u v then w9 P op t u v else none
 | .unOp op _ x=>do iI op (<- ρ x)
 | .convert a b x=>do vB P a b (<- ρ x)
 | .makeInterface t x=>do
  let v <- ρ x
  if Tb P t then none else some (.ec t v)
 | .makeFunc fn first cap=>do some (.fn fn (<- az env first.toList) (<- az env cap.toList))
 | .slice t x lo hi mx=>do
  let Tc <- cX env lo
  let uc <- cX env hi
  let v <- ρ x
  match mx with
  | none=>yX P t v Tc uc
  | some m=>match <- ρ m,v,uc with
   | .int _ k,.sl sz xs o,some (.int _ h)=>if h<=k/\k<=xs.length then yX P t (.sl sz xs o) Tc uc else none
   | _,_,_=>none
 | .fieldAddr t x f=>do
  let .struct fs <- P.underlying t|none
  let fd <- fs[f]?
  if Nat.beq (<- z8 P fd.type) 0 then none else
  match <- ρ x with
  | .ptr b off=>some (.ptr b (off+fd.offset))
  | .eN g off=>some (.eN g (off+fd.offset))
  | .gm b u k=>some (.gm b u (k+fd.offset))
  | .vp cs=>some (.vp (cs.drop fd.offset))
  | _=>none
 | .field t x f=>do
  let .struct fs <- P.underlying t|none
  let fd <- fs[f]?
  let .agg cs <- ρ x|none
  (kT P fd.type cs fd.offset).map aW
 | .indexAddr t x ix=>do
  let .int _ i <- ρ ix|none
  zp P t (<- ρ x) i
 | .index t x ix=>do
  let .int _ i <- ρ ix|none
  Pj P t (<- ρ x) i
 | .lookup t m k ok=>do
  let .map kt e <- P.underlying t|none
  let kd <- P.underlying kt
  let k <- ρ k
  if !ya kd k then none else
  let es <- xd H (<- ρ m)
  let (v,f) <- NR P e k es
  some (if ok then .br [aW v,.bool f] else aW v)
 | .typeAssert x _ t ok=>do
  if Tb P t then none else
  match <- ρ x with
  | .bT=>if ok then do some (.br [<- qP P t,.bool false]) else none
  | .ec u v=>if Nat.beq u t then some (if ok then .br [aW v,.bool true] else aW v) else if ok then do some (.br [<- qP P t,.bool false]) else none
  | _=>none
 | .extract x i=>do
  let .br vs <- ρ x|none
  match nth vs i with
  | some v=>some (aW v)
  | none=>none
 | _=>none
def wz(lk:aN)(b:Nat):Nat->Nat->aC->Bool
 | _,0,_=>true
 | _,_,[]=>false
 | off,n+1,c::cs=>(!locked c || lk.any λp=>Nat.beq p.1 b && Nat.beq p.2 off) && wz lk b (off+1) n cs
def bX:aC->aC
 | []=>[]
 | v::vs=>v.cells++bX vs
def q_(P:aQ)(uq:aB->Bool)(t:aB):Bool :=
 match P.underlying t with
 | some (.slice e)=>uq e
 | _=>false
def yb(P:aQ)(a b:aB)(x:aX)(env:aC):Option (V×aC) :=
 match Nat.beq a b,P.underlying a with
 | true,some (.slice e)=>match P.underlying e,take env x with
  | some (.int .u8),some (.sl sz (y::ys) (.yes _),env)=>some (.sl sz (y::ys) .no,env)
  | _,_=>none
 | _,_=>none
def xy(takes:cg)(x:aX)(lo hi:Option aX):Bool :=
 match x,lo,hi with
 | .tmp k,some _,none=>takes.any (Nat.beq (1048576+k))
 | _,_,_=>false
def Lj(P:aQ)(t:aB)(x:aX)(lo:Option aX)(env:aC):Option (V×aC) :=
 match P.underlying t,take env x,cX env lo with
 | some (.slice e'),some (.sl sz xs (.yes e),env),some (some (.int _ i))=>match z8 P e' with
  | some n=>match Nat.beq n sz && decide (0<=i) && Nat.ble i.toNat xs.length with
   | true=>some (.sl sz (xs.drop i.toNat) (.yes e),env)
   | false=>none
  | none=>none
 | _,_,_=>none
def Cx.mV(cx:Cx)(t:aB)(x y:aX)(env:aC)(H:Hp)(lk:aN)(df:bP):Option (OR×St):=do
 let .slice e <- cx.P.underlying t|none
 let n <- z8 cx.P e
 let i <- cx.P.info? e
 let z <- i.zero
 let ys <- kU cx.P H e (<- ak env y)
 if !Nat.beq z.cells.size n || Nat.beq n 0 then none else
 match <- ak env x with
 | .aG=>match ys with
  | []=>some (.val .aG,⟨env,H,lk,df⟩)
  | _=>if kA ys.length i.bytes then Be (bX ys) λcs=>wP ys.length λlen=>xT H (.ul 0 n cs e) λb H=>some (.val (.dw b 0 len),⟨env,H,lk,df⟩) else none
 | .dw b u len=>match H.get b with
  | some (.ul eO sz cs e') =>
   if Nat.beq e e' && Nat.beq n sz && Nat.beq eO u && kA (len+ys.length) i.bytes then
    Be (cs++bX ys) λcs=>wP (eO+1) λu=>wP (len+ys.length) λlen=>Ff H b (.ul u sz cs e) (.br ys) λH=>some (.val (.dw b u len),⟨env,H,lk,df⟩)
   else none
  | _=>none
 | .sr b off len cap=>match H.get b with
  | some (.cells cs ty) =>
   let new:=(bX ys).map aW
   if Nat.beq off 0 && Nat.beq n 1 && Nat.beq ty e && Nat.beq new.length ys.length && Nat.ble (len+ys.length) cap && Nat.ble (len+ys.length) cs.length && wz lk b len ys.length (cs.drop len) then
    Be (storeCells cs len new) λcs=>wP (len+ys.length) λlen=>Ff H b (.cells cs ty) (.br new) λH=>some (.val (.sr b 0 len cap),⟨env,H,lk,df⟩)
   else match kU cx.P H e (.sr b off len cap) with
    | some xs =>
     if Nat.beq xs.length len && Nat.ble 1 len && Nat.ble (cap+1) (len+ys.length) && kA (len+ys.length) i.bytes then
      Be (bX xs++bX ys) λcs=>wP (len+ys.length) λlen=>xT H (.ul 0 n cs e) λb H=>some (.val (.dw b 0 len),⟨env,H,lk,df⟩)
     else none
    | none=>none
  | _=>none
 | _=>none
def Cx.oQ(cx:Cx)(t:aB)(x:aX)(lo hi:Option aX)(env:aC)(H:Hp)(lk:aN)(df:bP):Option (OR×St) :=
 match cx.P.underlying t,ak env x,cX env lo,cX env hi with
 | some (.slice e'),some (.dw b u len),some none,some (some (.int _ h))=>match z8 cx.P e',H.get b with
  | some _,some (.ul eO sz cs e) =>
   if Nat.beq eO u && decide (0<=h) && Nat.ble h.toNat len then
    fL (cs.take (h.toNat * sz)) λcs=>wP (eO+1) λu=>wP h.toNat λlen=>Ff H b (.ul u sz cs e) .fE λH=>some (.val (.dw b u len),⟨env,H,lk,df⟩)
   else none
  | _,_=>none
 | _,some (.sr b off len cap),some lo,some hi=>match yX cx.P t (.sr b off len cap) lo hi with
  | some v=>some (.val v,⟨env,H,lk,df⟩)
  | none=>none
 | _,_,_,_=>none
def Cx.sI(cx:Cx)(t:aB)(x y:aX)(env:aC)(H:Hp)(lk:aN)(df:bP):Option (OR×St):=do
 let .slice e <- cx.P.underlying t|none
 let n <- z8 cx.P e
 let ys <- kU cx.P H e (<- ak env y)
 match <- ak env x with
 | .sr b off len _=>match H.get b with
  | some (.cells cs ty) =>
   let m:=min len ys.length
   let new:=(bX (ys.take m)).map aW
   if Nat.beq n 1 && Nat.beq new.length m && Nat.ble (off+m) cs.length && wz lk b off m (cs.drop off) then
    Be (storeCells cs off new) λcs=>Ff H b (.cells cs ty) (.br new) λH=>some (.val (.int .i64 (m:Nat)),⟨env,H,lk,df⟩)
   else none
  | _=>none
 | _=>none
def Cx.op(cx:Cx)(takes:cg)(o:Oper)(env:aC)(H:Hp)(lk:aN)(df:bP):Option (OR×St) :=
  let P:=cx.P
  let taken:=match o.dst with
    | some d=>takes.any (Nat.beq d)
    | none=>false
  let read (_:Unit):Option (OR×St):=match qZ P cx.gl o env H with
    | none=>none
    | some v=>some (.val v,⟨env,H,lk,df⟩)
  match o.op with
  | .move x=>match taken with
    | true=>match take env x with
      | none=>none
      | some (v,env)=>some (.val v,⟨env,H,lk,df⟩)
    | false=>read ()
  | .assign x=>match take env x with
    | none=>none
    | some (v,env)=>some (.val v,⟨env,H,lk,df⟩)
  | .load t a=>match taken with
    | false=>read ()
    | true=>match qC P t,ak env a with
      | some false,some (.ptr b off)=>match H.get b with
        | some (.cells cs ty)=>match nth cs off with
          | some (.sl sz xs (.yes e))=>JJ cs off (.sl sz xs .lock) λcs=>Ff H b (.cells cs ty) .fE λH=>some (.val (.sl sz xs (.yes e)),⟨env,H,(b,off)::lk,df⟩)
          | some .aG=>some (.val .aG,⟨env,H,lk,df⟩)
          | some (.dw c u n)=>some (.val (.dw c u n),⟨env,H,lk,df⟩)
          | _=>none
        | _=>none
      | some false,some (.vp cs)=>match nth cs 0 with
        | some (.sr c o l k)=>some (.val (.sr c o l k),⟨env,H,lk,df⟩)
        | _=>none
      | _,_=>none
  | .alloc t=>match qP P t with
    | none=>none
    | some z=>if !dD z then none else fV z λz=>xT H (.cells z.cells t) λn H=>some (.val (.ptr n 0),⟨env,H,lk,df⟩)
  | .box t x=>match take env x with
    | none=>none
    | some (v,env)=>if !dD v then none else fV v λv=>Be v.laid λcs=>xT H (.cells cs t) λn H=>some (.val (.ptr n 0),⟨env,H,lk,df⟩)
  | .store t a x=>match ak env a with
    | some (.ptr b off)=>match take env x,z8 P t,H.get b with
      | some (v,env),some n,some (.cells cs ty) =>
        fV v λv=>Be v.laid λvs =>
          if dD v && Nat.beq vs.length n && Nat.ble (off+n) cs.length && wz lk b off n (cs.drop off) then
            fL (storeCells cs off vs) λcs=>Ff H b (.cells cs ty) v λH=>some (.skip,⟨env,H,lk,df⟩)
          else none
      | _,_,_=>none
    | some (.gm b u k)=>match take env x,z8 P t,H.get b with
      | some (x,env),some n,some (.ul eO sz cs e) =>
        fV (aW x) λx=>if Nat.beq eO u && dD x && Nat.beq x.cells.length n && Nat.ble (k+n) cs.length then
          fL (storeCells cs k x.cells) λcs=>Ff H b (.ul eO sz cs e) x λH=>some (.skip,⟨env,H,lk,df⟩)
        else none
      | _,_,_=>none
    | _=>none
  | .makeMap _ r=>match r with
    | some _=>none
    | none=>xT H (.map []) λn H=>some (.val (.map n),⟨env,H,lk,df⟩)
  | .makeSlice t l c=>match P.underlying t,ak env l,ak env c with
    | some (.slice e),some (.int _ l),some (.int _ c)=>match z8 P e,P.info? e,qP P e with
      | some n,some i,some z =>
        if Nat.beq n 0 || l<0 || c<l || !kA c.toNat i.bytes || !Nat.beq z.cells.length n || !dD z then none else
        match cx.uq e && Nat.blt 0 c.toNat with
        | true=>Be (List.replicate c.toNat z.cells).flatten λcs=>xT H (.cells cs e) λn H=>wP l.toNat λl=>wP c.toNat λc=>some (.val (.sr n 0 l c),⟨env,H,lk,df⟩)
        | false =>
        if l=0 then some (.val (.sl n [] (.yes e)),⟨env,H,lk,df⟩) else
        if l=c then Be (List.replicate c.toNat z.cells).flatten λcs=>xT H (.cells cs e) λn H=>some (.val (.sr n 0 l.toNat c.toNat),⟨env,H,lk,df⟩) else none
      | _,_,_=>none
    | _,_,_=>none
  | .mapUpdate t m k x|.insert t m k x=>match ak env m,ak env k,ak env x with
    | some (.map b),some k,some x=>if !NQ P t k then none else fV k λk=>fV x λx=>match H.get b with
      | some (.map es)=>match HV k x es with
        | some es=>fL es λes=>Ff H b (.map es) (.br [k,x]) λH=>some (.skip,⟨env,H,lk,df⟩)
        | none=>none
      | _=>none
    | _,_,_=>none
  | .range t x=>match P.underlying t,ak env x with
    | some .string,some (.str l)=>xT H (.iter l 0) λn H=>some (.val (.ptr n 0),⟨env,H,lk,df⟩)
    | _,_=>none
  | .next it true=>match ak env it with
    | some (.ptr b 0)=>match H.get b with
      | some (.iter l pos) =>
        if Nat.blt pos l.length then
          let (c,w):=HW (l.drop pos)
          wP (pos+w) λq=>Ff H b (.iter l q) .fE λH=>some (.val (.br [.bool true,.int .i64 pos,.int .i32 c]),⟨env,H,lk,df⟩)
        else some (.val (.br [.bool false]),⟨env,H,lk,df⟩)
      | _=>none
    | _=>none
  | .convert a b x=>match yb P a b x env with
    | some (v,env)=>some (.val v,⟨env,H,lk,df⟩)
    | none=>match cx.uq (vg a) with
      | true=>match Li P H a b (ak env x) with
        | some v=>some (.val v,⟨env,H,lk,df⟩)
        | none=>none
      | false=>read ()
  | .slice t x lo hi none=>match xy takes x lo hi with
    | true=>match Lj P t x lo env with
      | some (v,env)=>some (.val v,⟨env,H,lk,df⟩)
      | none=>none
    | false=>match q_ P cx.uq t with
      | true=>cx.oQ t x lo hi env H lk df
      | false=>read ()
  | .call c=>match c.callee with
    | .builtin b=>match b,c.args.toList,c.argTypes.toList with
     | .copy,[x,y],t::_=>cx.sI t x y env H lk df
     | .append,[x,y],[t,u]=>match q_ P cx.uq t with
       | true=>if Nat.beq t u then cx.mV t x y env H lk df else none
       | false=>match cx.builtin b c.argTypes c.args env H with
        | none=>none
        | some (r,env)=>some (r,⟨env,H,lk,df⟩)
     | _,_,_=>match cx.builtin b c.argTypes c.args env H with
      | none=>none
      | some (r,env)=>some (r,⟨env,H,lk,df⟩)
    | .value f=>match ak env f,az env c.args.toList with
      | some f,some args=>match cx.mI f args H with
        | none=>none
        | some (r,H)=>some (r,⟨env,H,lk,df⟩)
      | _,_=>none
    | .invoke r m=>match ak env r,az env c.args.toList with
      | some r,some args=>match cx.mI (.fn (.method m) [] []) (r::args) H with
        | none=>none
        | some (r,H)=>some (r,⟨env,H,lk,df⟩)
      | _,_=>none
  | .defer c=>match c.callee with
    | .value f=>match ak env f,az env c.args.toList with
      | some (.fn (.func f) first cap),some args=>some (.skip,⟨env,H,lk,(.fn (.func f) first cap,args)::df⟩)
      | _,_=>none
    | _=>none
  | .panic x=>match ak env x with
    | some (.ec t v)=>some (.p_ (.ec t v),⟨env,H,lk,df⟩)
    | _=>none
  | _=>read ()
def aq(env:aC)(dst:fJ)(v:V):aC :=
 match dst with
 | some d=>env.set d v
 | none=>env
def Fg{β:Type}(env:aC)(dst:fJ)(v:V)(k:aC->β):β :=
 match dst with
 | some d=>fV v λv=>JJ env d v k
 | none=>k env
def z0(ops:Array Oper)(o:Oper)(env:aC):Option Bool :=
 match o.guard with
 | none=>some true
 | some (j,want)=>match (ops[j]?).bind (·.dst) with
  | none=>none
  | some d=>match nth env d with
   | some (.bool b)=>some (b == want)
   | some (.br _)=>some false
   | _=>none
def Cx.ops(cx:Cx)(all:Array Oper)(takes:cg):List Oper->St->Option (Ex×St)
 | [],s=>some (.normal,s)
 | o::os,⟨env,H,lk,df⟩ =>
  match z0 all o env with
  | none=>none
  | some false=>Fg env o.dst (.br []) λenv=>cx.ops all takes os ⟨env,H,lk,df⟩
  | some true=>match cx.op takes o env H lk df with
   | none=>none
   | some (.val v,⟨env,H,lk,df⟩)=>Fg env o.dst v λenv=>cx.ops all takes os ⟨env,H,lk,df⟩
   | some (.skip,⟨env,H,lk,df⟩)=>Fg env o.dst (.br []) λenv=>cx.ops all takes os ⟨env,H,lk,df⟩
   | some (.p_ v,s)=>some (.p_ v,s)
mutual
def V.same:V->V->Bool
 | .bool a,.bool b=>a == b
 | .int k n,.int k' n'=>if k=k' then n == n' else false
 | .str a,.str b=>om a b
 | .fE,.fE=>true
 | .ptr a b,.ptr c d=>Nat.beq a c && Nat.beq b d
 | .eN a b,.eN c d=>Nat.beq a c && Nat.beq b d
 | .obj a,.obj b=>Nat.beq a b
 | .vp a,.vp b=>fB a b
 | .aG,.aG=>true
 | .sl s a o,.sl s' b o'=>Nat.beq s s' && (if o=o' then fB a b else false)
 | .sr a b c d,.sr a' b' c' d'=>Nat.beq a a' && Nat.beq b b' && Nat.beq c c' && Nat.beq d d'
 | .iX,.iX=>true
 | .map a,.map b=>Nat.beq a b
 | .nt,.nt=>true
 | .fn f a c,.fn f' a' c'=>(if f=f' then true else false) && fB a a' && fB c c'
 | .bT,.bT=>true
 | .ec t v,.ec t' v'=>Nat.beq t t' && V.same v v'
 | .agg a,.agg b=>fB a b
 | .br a,.br b=>fB a b
 | .ee,.ee=>true
 | .dw a b n,.dw c d m=>Nat.beq a c && Nat.beq b d && Nat.beq n m
 | .gm a b e,.gm c d f=>Nat.beq a c && Nat.beq b d && Nat.beq e f
 | _,_=>false
def fB:aC->aC->Bool
 | [],[]=>true
 | x::xs,y::ys=>V.same x y && fB xs ys
 | _,_=>false
end
def q9(P:aQ)(uq:aB->Bool)(takes:cg)(o:Oper):Bool :=
 match o.op with
 | .alloc _|.box ..|.store ..|.makeMap ..|.makeSlice ..|.mapUpdate ..|.insert ..|.range ..|.next ..|.defer _|.panic _=>true
 | .load ..=>match o.dst with
  | some d=>takes.any (Nat.beq d)
  | none=>false
 | .slice t _ _ _ none=>q_ P uq t
 | .call c=>match c.callee with
  | .builtin .copy=>true
  | .builtin .append=>match c.argTypes.toList with
   | t::_=>q_ P uq t
   | _=>false
  | .builtin _=>false
  | _=>true
 | _=>false
def kV(P:aQ)(uq:aB->Bool)(o:Oper):Bool :=
 match o.op with
 | .slice t _ _ _ none=>q_ P uq t
 | .convert a _ _=>uq (vg a)
 | .load ..|.lookup ..|.call _=>true
 | _=>false
def ko(takes:cg)(o:Oper):Option aX :=
 match o.op with
 | .move x=>if (match o.dst with|some d=>takes.any (Nat.beq d)|none=>false) then some x else none
 | .assign x|.box _ x|.store _ _ x=>some x
 | .convert a b x=>if Nat.beq a b then some x else none
 | .slice _ x lo hi none=>if xy takes x lo hi then some x else none
 | .call c=>match c.callee with
  | .builtin .append=>c.args.toList.head?
  | _=>none
 | _=>none
def gz:List aX->Nat
 | []=>0
 | .tmp t::xs=>Nat.lor (Nat.pow 2 t) (gz xs)
 | _::xs=>gz xs
structure Rec where
 idx:Nat
 o:Oper
 m:Nat
 tm:Nat
 lm:Nat
 hp:Bool
 free:Bool
 env:aC
 v:V
structure eD where
 D:Nat
 H:Hp
 lk:aN
 df:bP
def bit(m i:Nat):Bool:=Nat.beq (Nat.mod (Nat.shiftRight m i) 2) 1
def vO(a b:Nat):Bool:=Nat.beq (Nat.land a b) a
def maskAt:List Rec->Nat->Option Nat
 | [],_=>none
 | r::rs,j=>if Nat.beq r.idx j then some r.m else maskAt rs j
def wA(rs:List Rec):List Edge->Option Nat
 | []=>some 0
 | e::es=>match Region.binds .any e with
  | false=>wA rs es
  | true=>match maskAt rs e.on with
   | none=>none
   | some m=>match wA rs es with
    | none=>none
    | some k=>some (Nat.lor k (Nat.lor m (Nat.pow 2 e.on)))
def Cx.ej(cx:Cx)(takes:cg)(o:Oper)(env:aC)(c:eD)(D:Nat):Option (V×eD) :=
 match cx.op takes o env c.H c.lk c.df with
 | some (.val v,s)=>some (v,⟨D,s.H,s.lk,s.defers⟩)
 | some (.skip,s)=>some (.br [],⟨D,s.H,s.lk,s.defers⟩)
 | _=>none
def Cx.fu(cx:Cx)(takes:cg)(o:Oper)(env:aC)(v:V)(c:eD):Bool :=
 match cx.ej takes o env c 0 with
 | some (u,_)=>V.same u v
 | none=>false
def rN:List (V×V)->List (V×V)->Bool
 | [],[]=>true
 | (a,b)::x,(c,d)::y=>V.same a c && V.same b d && rN x y
 | _,_=>false
def gC:aT->aT->Bool
 | .cells a t,.cells b u=>Nat.beq t u && fB a b
 | .map a,.map b=>rN a b
 | .iter a i,.iter b j=>Nat.beq i j && om a b
 | .ul a b c d,.ul a' b' c' d'=>Nat.beq a a' && Nat.beq b b' && Nat.beq d d' && fB c c'
 | _,_=>false
def mW:List aT->List aT->Bool
 | [],[]=>true
 | a::x,b::y=>gC a b && mW x y
 | _,_=>false
def mB:aN->aN->Bool
 | [],[]=>true
 | (a,b)::x,(c,d)::y=>Nat.beq a c && Nat.beq b d && mB x y
 | _,_=>false
def nL:bP->bP->Bool
 | [],[]=>true
 | (a,b)::x,(c,d)::y=>V.same a c && fB b d && nL x y
 | _,_=>false
def yd(a b:eD):Bool:=mB a.lk b.lk && nL a.df b.df && mB a.H.bC b.H.bC && mW a.H.au b.H.au
def ye(D:Nat):List eD->Option eD
 | []=>none
 | c::cs=>if Nat.beq c.D D then some c else ye D cs
def eP:List Rec->Nat
 | []=>0
 | r::rs=>match r.hp with
  | true=>Nat.lor (Nat.pow 2 r.idx) (eP rs)
  | false=>eP rs
def kE{α:Type}(f:α->Bool):List α->Bool
 | []=>true
 | q::qs=>match f q with
  | true=>kE f qs
  | false=>false
def Ll(D:Nat)(q:Rec):List Rec->Bool
 | []=>false
 | c::cs=>(c.hp && bit D c.idx && bit c.m q.idx) || Ll D q cs
def kz(r q:Rec):Bool :=
 match bit r.m q.idx with
 | true=>true
 | false=>Nat.beq (Nat.land q.tm r.lm) 0 && Nat.beq (Nat.land r.tm q.lm) 0
def Cx.iJ(cx:Cx)(takes:cg)(o:Oper)(env:aC)(v:V)(m b:Nat):List eD->Option (List eD)
 | []=>some []
 | c::cs=>match vO m c.D with
  | false=>cx.iJ takes o env v m b cs
  | true=>match cx.ej takes o env c (Nat.lor c.D b) with
   | none=>none
   | some (u,c2)=>match V.same u v with
    | false=>none
    | true=>match cx.iJ takes o env v m b cs with
     | none=>none
     | some l=>some (c2::l)
def Cx.fR(cx:Cx)(takes:cg)(rs:List Rec)(Lm:Nat)(r:Rec)(all:List eD)(c:eD):Bool :=
 kE (λq=>match vO (Nat.land q.m Lm) c.D with
  | false=>true
  | true=>match q.hp with
   | true=>match bit c.D q.idx with
    | true=>true
    | false=>match cx.ej takes q.o q.env c 0,ye (Nat.lor c.D (Nat.pow 2 q.idx)) all with
     | some (u,c2),some c3=>V.same u q.v && yd c2 c3
     | _,_=>false
   | false=>q.free || bit r.m q.idx || Ll c.D q rs || cx.fu takes q.o q.env q.v c) rs
def zeB(all:Array Oper)(o:Oper):Nat :=
 match o.guard with
 | none=>0
 | some (j,_)=>match (all[j]?).bind (·.dst) with
  | none=>0
  | some d=>Nat.pow 2 d
def m9(takes:cg)(o:Oper):Nat :=
 match o.dst with
 | some d=>Nat.lor (Nat.pow 2 d) (gz (match ko takes o with|some x=>[x]|none=>[]))
 | none=>gz (match ko takes o with|some x=>[x]|none=>[])
def ud(all:Array Oper)(o:Oper):Nat:=Nat.lor (gz o.op.operands.toList) (zeB all o)
def Cx.fS(cx:Cx)(takes:cg)(rs:List Rec)(r:Rec)(c0 c1:eD)(cs:List eD)(k:List eD->Option (Ex×St)):Option (Ex×St) :=
 let Lm:=eP rs
 match r.hp with
 | false=>match r.free || kE (λc=>match vO (Nat.land r.m Lm) c.D with
   | true=>cx.fu takes r.o r.env r.v c
   | false=>true) cs with
  | true=>k (c0::cs)
  | false=>none
 | true=>match cx.iJ takes r.o r.env r.v (Nat.land r.m Lm) (Nat.pow 2 r.idx) cs with
  | none=>none
  | some l =>
   let all:=c1::l++c0::cs
   match kE (λc=>cx.fR takes rs Lm r all c) (c1::l) with
   | true=>k all
   | false=>none
def Cx.eU(cx:Cx)(all:Array Oper)(takes:cg):Nat->List Rec->List eD->List Oper->St->Option (Ex×St)
 | _,_,_,[],s=>some (.normal,s)
 | i,rs,cs,o::os,⟨env,H,lk,df⟩ =>
  match wA rs o.after.toList with
  | none=>none
  | some m=>wP m λm=>wP (m9 takes o) λtm=>wP (Nat.lor tm (ud all o)) λlm =>
   let next (hp free:Bool) (v:V) (s1:St):Option (Ex×St) :=
    match s1 with
    | ⟨cM,H1,eG,eF⟩=>fV v λv=>Fg cM o.dst v λcM =>
     match kE (kz ⟨i,o,m,tm,lm,hp,free,env,v⟩) rs,cs with
     | true,c0::cs=>cx.fS takes rs ⟨i,o,m,tm,lm,hp,free,env,v⟩ c0 ⟨Nat.lor c0.D (Nat.pow 2 i),H1,eG,eF⟩ cs λcs =>
      cx.eU all takes (i+1) (⟨i,o,m,tm,lm,hp,free,env,v⟩::rs) cs os ⟨cM,H1,eG,eF⟩
     | _,_=>none
   match z0 all o env with
   | none=>none
   | some false=>next false true (.br []) ⟨env,H,lk,df⟩
   | some true=>match cx.op takes o env H lk df with
    | none=>none
    | some (.val v,s1)=>next (q9 cx.P cx.uq takes o) (!kV cx.P cx.uq o) v s1
    | some (.skip,s1)=>next (q9 cx.P cx.uq takes o) false (.br []) s1
    | some (.p_ _,_)=>none
def Cx.drawn(cx:Cx)(ops:Array Oper):St->Option (Ex×St)
 | ⟨env,H,_,df⟩=>cx.eU ops (jM ops) 0 [] [⟨0,H,[],df⟩] ops.toList ⟨env,H,[],df⟩
def Di(after:Array Edge):Oper:=⟨none,.move (.const (.bool true)),0,"",after,none⟩
def Td(es:List Edge):Nat->Bool
 | 0=>true
 | n+1=>(es.any λe=>Nat.beq e.on n && Region.binds .any e) && Td es n
def Te(takes:cg)(d:Tmp)(o:Oper):Bool :=
 (match o.dst with|some k=>!(Nat.beq k d)|none=>true) && (match ko takes o with|some (.tmp k)=>!(Nat.beq k d)|_=>true) && (match o.guard with|none=>true|some _=>false)
def xO(ops:Array Oper):Option (List Oper×Tmp×aB×aX) :=
 match ops.toList.reverse with
 | ⟨none,.store t (.tmp d) x,_,_,after,none⟩::⟨some e,.alloc u,_,_,af,none⟩::os =>
  match Nat.beq d e && Nat.beq t u && Td after.toList (os.length+1) with
  | true=>some ((Di after::Di af::os).reverse,d,t,x)
  | false=>none
 | _=>none
def Cx.late(cx:Cx)(ops:Array Oper):St->Option (Ex×St)
 | ⟨env,H,_,df⟩=>match xO ops with
  | none=>none
  | some (os,d,t,x)=>match kE (Te (jM os.toArray) d) os && Nat.blt d env.length with
   | false=>none
   | true=>match cx.eU os.toArray (jM os.toArray) 0 [] [⟨0,H,[],df⟩] os ⟨env.set d .ee,H,[],df⟩ with
    | some (_,⟨env,H,lk,df⟩)=>match take env x,z8 cx.P t,qP cx.P t with
     | some (v,env),some n,some z =>
      match dD v && dD z && Nat.beq z.cells.length n with
      | true=>fV v λv=>Be v.laid λcs=>match Nat.beq cs.length n with
       | true=>xT H (.cells cs t) λn H=>some (.normal,⟨env.set d (.ptr n 0),H,lk,df⟩)
       | false=>none
      | false=>none
     | _,_,_=>none
    | none=>none
def mJ:Nat:=1099511627775
def Cx.draw(cx:Cx)(ops:Array Oper)(s:St):Option (Ex×St) :=
 match cx.uq mJ with
 | true=>match xO ops with
  | some _=>cx.late ops s
  | none=>cx.drawn ops s
 | false=>cx.drawn ops s
def Ln(step:St->Option (Ex×St)):Nat->St->Option (Ex×St)
 | 0,_=>none
 | n+1,s=>match step s with
  | none=>none
  | some (.normal,s)=>Ln step n s
  | some (e,s)=>some (e,s)
def xe(f:FuncId)(back:Bool)(t:aB):aB:=1099511627776+2 * (f * 1048576+t)+(if back then 1 else 0)
def Cx.code(cx:Cx)(n:Nat):Code->St->Option (Ex×St)
 | .skip,s=>some (.normal,s)
 | .label _,s=>some (.normal,s)
 | .region _ ops false,⟨env,H,_,df⟩=>cx.ops ops (jM ops) ops.toList ⟨env,H,[],df⟩
 | .region _ ops true,s=>cx.draw ops s
 | .seq a b,s=>match cx.code n a s with
  | none=>none
  | some (.normal,s)=>cx.code n b s
  | some (e,s)=>some (e,s)
 | .cond c a b,s=>match ak s.env c with
  | some (.bool true)=>cx.code n a s
  | some (.bool false)=>cx.code n b s
  | _=>none
 | .block id c,s=>match cx.code n c s with
  | none=>none
  | some (.exit i,s)=>some (if Nat.beq i id then .normal else .exit i,s)
  | some (e,s)=>some (e,s)
 | .loop c,s=>Ln (cx.code n c) n s
 | .exit id,s=>some (.exit id,s)
 | .ret,s=>some (.ret,s)
 | .scope c,s=>match cx.code n c s with
  | none=>none
  | some (.goto _,_)=>none
  | some (e,s)=>some (e,s)
 | _,_=>none
def zy(P:aQ)(H:Hp)(env:aC):List ResultVar->Option aC
 | []=>some []
 | .tmp t::r=>match nth env t,zy P H env r with
  | some v,some vs=>some (v::vs)
  | _,_=>none
 | .cell a t::r=>match nth env a with
  | some p=>match zl P H (λ_ _=>none) t p,zy P H env r with
   | some v,some vs=>some (aW v::vs)
   | _,_=>none
  | none=>none
def lz:aC->V
 | [v]=>v
 | vs=>.br (vs.map aW)
def Pk{β:Type}(n0:Nat)(es:aN)(top:Nat)(H:Hp)(k:Hp->β):β :=
 match H with
 | ⟨bs,new⟩ =>
  if Nat.ble top n0 && new.all (λe=>Nat.ble n0 e.1 || Nat.ble e.2 n0) then
   fL (bs.take n0) λbs=>fL (new.filter (λe=>Nat.blt e.1 n0)) λnew=>k ⟨bs,new++es⟩
  else k ⟨bs,new++es⟩
def zoU(o:Oper):Bool :=
 match o.op with
 | .call c=>match c.callee with
  | .builtin .recover=>true
  | _=>false
 | _=>false
def Cx.ue(cx:Cx)(iQ:bY)(all:Array Oper)(takes:cg):List Oper->Bool->St->Option (Ex×Bool×St)
 | [],r,s=>some (.normal,r,s)
 | o::os,r,⟨env,H,lk,df⟩ =>
  match z0 all o env with
  | none=>none
  | some false=>Fg env o.dst (.br []) λenv=>cx.ue iQ all takes os r ⟨env,H,lk,df⟩
  | some true=>match zoU o with
   | true=>match iQ,r with
    | some v,false=>Fg env o.dst (aW v) λenv=>cx.ue iQ all takes os true ⟨env,H,lk,df⟩
    | _,_=>Fg env o.dst .bT λenv=>cx.ue iQ all takes os r ⟨env,H,lk,df⟩
   | false=>match cx.op takes o env H lk df with
    | none=>none
    | some (.val v,⟨env,H,lk,df⟩)=>Fg env o.dst v λenv=>cx.ue iQ all takes os r ⟨env,H,lk,df⟩
    | some (.skip,⟨env,H,lk,df⟩)=>Fg env o.dst (.br []) λenv=>cx.ue iQ all takes os r ⟨env,H,lk,df⟩
    | some (.p_ v,s)=>some (.p_ v,r,s)
def Cx.m_(cx:Cx)(n:Nat)(iQ:bY):Code->Bool->St->Option (Ex×Bool×St)
 | .seq a b,r,s=>match cx.m_ n iQ a r s with
  | none=>none
  | some (.normal,r,s)=>cx.m_ n iQ b r s
  | some x=>some x
 | .cond c a b,r,s=>match ak s.env c with
  | some (.bool true)=>cx.m_ n iQ a r s
  | some (.bool false)=>cx.m_ n iQ b r s
  | _=>none
 | .region _ ops false,r,⟨env,H,_,df⟩=>cx.ue iQ ops (jM ops) ops.toList r ⟨env,H,[],df⟩
 | c,r,s=>match cx.code n c s with
  | none=>none
  | some (e,s)=>some (e,r,s)
def Lo(P:aQ)(gl:Nat->Nat->bY)(uq:aB->Bool)(call:FuncId->aC->Hp->Option (Out×Hp))(n:Nat)(iQ:bY)(f:FuncId)(args:aC)(H:Hp):Option (Bool×Hp) :=
 match H with
 | ⟨bs,es⟩ =>
  match P.funcs[f]? with
  | none=>none
  | some fn=>match fn.body with
   | none=>none
   | some body =>
    wP bs.length λn0 =>
    fL (args++List.replicate (fn.ntmps - args.length) (.br [])) λenv =>
    match Cx.m_ { P,gl,call,uq } n iQ body false ⟨env,⟨bs,[]⟩,[],[]⟩ with
    | some (.normal,r,⟨env,H,_,[]⟩)|some (.ret,r,⟨env,H,_,[]⟩)=>match zy P H env fn.results.toList with
     | none=>none
     | some _=>Pk n0 es 0 H λH=>some (r,H)
    | _=>none
def vk(call:bY->FuncId->aC->Hp->Option (Bool×Hp)):bY->bP->Hp->Option (bY×Hp)
 | iQ,[],H=>some (iQ,H)
 | iQ,(.fn (.func f) first cap,args)::ds,H=>fL ((first++args++cap).map aW) λargs=>match call iQ f args H with
  | none=>none
  | some (true,H)=>vk call none ds H
  | some (false,H)=>vk call iQ ds H
 | _,_,_=>none
def Tf(call:bY->FuncId->aC->Hp->Option (Bool×Hp))(iQ:bY)(ds:bP)(H:Hp):Option (bY×Hp):=vk call iQ ds H
def Bg:Ex->Option bY
 | .normal|.ret=>some none
 | .p_ v=>some (some v)
 | _=>none
structure Gl where
 g:Nat->Nat->bY
 hk:FuncId->aC->bY:=λ_ _=>none
 uq:aB->Bool:=λ_=>false
 eV:Nat->FuncId->aC->Hp->Option (Out×Hp):=λ_ _ _ _=>none
instance : CoeFun Gl (λ_=>Nat->Nat->bY):=⟨Gl.g⟩
instance : Coe Gl (Nat->Nat->bY):=⟨Gl.g⟩
def zk(P:aQ)(gl:Gl):Nat->FuncId->aC->Hp->Option (Out×Hp)
 | 0,_,_,_=>none
 | n+1,f,args,⟨bs,es⟩ =>
  match gl.hk f args with
  | some v=>some (.ret v,⟨bs,es⟩)
  | none =>
  match gl.eV n f args ⟨bs,es⟩ with
  | some r=>some r
  | none =>
  match P.funcs[f]? with
  | none=>none
  | some fn=>match fn.body with
   | none=>none
   | some body =>
    wP bs.length λn0 =>
    fL (args++List.replicate (fn.ntmps - args.length) (.br [])) λenv =>
    match Cx.code { P,gl:=gl.g,call:=zk P gl n,uq:=gl.uq } n body ⟨env,⟨bs,[]⟩,[],[]⟩ with
    | none=>none
    | some (ex,⟨env,H,_,df⟩)=>match Bg ex with
     | none=>none
     | some iQ=>match Tf (Lo P gl.g gl.uq (zk P gl n) n) iQ df H with
      | none=>none
      | some (some v,H)=>Pk n0 es v.top H λH=>some (.p_ v,H)
      | some (none,H)=>match zy P H env fn.results.toList with
       | none=>none
       | some vs=>fV (lz vs) λv=>Pk n0 es v.top H λH=>some (.ret v,H)
end
section
inductive Loc where
 |slot (d t:Nat)
 |cell (b off:Nat)
 |ret
 deriving DecidableEq
structure Ob where
 adr:Nat->Addr
 lo:Nat->Prop
instance : CoeFun Ob (λ_=>Nat->Addr):=⟨Ob.adr⟩
structure Gh where
 M:Nat->Nat->Option bw
 bO:Nat->Nat
 obj:Ob
 own:Nat->Option Loc
 lk:Nat->Nat->bw
 e_:Nat->Nat->Option bw
abbrev V.one(v:V):Bool:=Cz v
theorem zg{α:Type}:∀(l:List α)(n:Nat),nth l n=l[n]?
 | [],_=>by simp[nth]
 | _::_,0=>by simp[nth]
 | _::xs,n+1=>by simp[nth,zg xs n]
section force
variable{α β:Type}
theorem qA(n:Nat)(k:Nat->β):wP n k=k n:=by cases n<;>rfl
theorem znl(n:Int)(k:Int->β):VM n k=k n:=by cases n<;>simp[VM,qA]
theorem Bh:∀(l:bL)(k:bL->β),S_ l k=k l
 | [],_=>rfl
 | x::xs,k=>by simp[S_,qA,Bh xs]
theorem eJ:∀(l:List α)(k:List α->β),fL l k=k l
 | [],_=>rfl
 | x::xs,k=>by simp[fL,eJ xs]
theorem zoV(v:V)(k:V->β):fC v k=k v:=by
 unfold fC;split<;>simp[znl,Bh,qA,eJ]
theorem di:∀(l:aC)(k:aC->β),Be l k=k l
 | [],_=>rfl
 | x::xs,k=>by simp[Be,zoV,di xs]
theorem qm(v:V)(k:V->β):fV v k=k v:=by
 unfold fV;split<;>simp[di,zoV]
theorem eW:∀(l:List α)(n:Nat)(v:α)(k:List α->β),JJ l n v k=k (l.set n v)
 | [],_,_,_=>rfl
 | _::_,0,_,_=>rfl
 | x::xs,n+1,v,k=>by simp[JJ,eW xs]
theorem qn(H:Hp)(b:aT)(k:Nat->Hp->β):xT H b k=k H.au.length (H.push b):=by
 cases H;simp[xT,qA,eJ,Hp.push]
theorem jc(H:Hp)(b:Nat)(x:aT)(v:V)(k:Hp->β):Ff H b x v k=k ((H.set b x).bQ b v):=by
 cases H;simp only[Ff,eW,qA,Hp.set,Hp.bQ];split<;>rfl
theorem jN(env:aC)(dst:fJ)(v:V)(k:aC->β):Fg env dst v k=k (aq env dst v):=by
 cases dst<;>simp[Fg,aq,qm,eW]
end force
theorem ziT{P:aQ}{H:Hp}{a:aB}{v:V}(hv:∀b o l c,v≠.sr b o l c):Lh P H a v=some v:=by
 unfold Lh;split
 ·exact absurd rfl (hv _ _ _ _)
 ·rfl
theorem znm{P:aQ}{H:Hp}{a:aB}{sz:Nat}{xs:aC}{o:tG}:Lh P H a (.sl sz xs o)=some (.sl sz xs o):=ziT (by simp)
def zw(xs:aC):aC:=xs.flatMap V.cells
def bytes(s:bL):ByteArray:=⟨(s.map UInt8.ofNat).toArray⟩
inductive aR(g:Gh):V->bw->Prop where
 |bool (b:Bool):aR g (.bool b) (.bool b)
 |int (k:IntKind) (n:Int):aR g (.int k n) (.int k n)
 |str {s:bL}:(∀b:Nat,b∈s->b<256)->aR g (.str s) (.string (bytes s))
 |fE:aR g .fE (.pointer none)
 |ptr (b off:Nat):aR g (.ptr b off) (.pointer (some ⟨g.bO b,off,none⟩))
 |eN (k off:Nat):aR g (.eN k off) (.pointer (some ⟨k,off,none⟩))
 |obj (k:Nat):aR g (.obj k) (.pointer (some (g.obj k)))
 |vp {cs:aC} {c o:Nat} (f:Nat->bw):(∀(j:Nat)(x:V),cs[j]?=some x->x.one=true)->(∀(j:Nat)(x:V),cs[j]?=some x->g.M c (o+j)=some (f j))->(∀(j:Nat)(x:V),cs[j]?=some x->aR g x (f j)) ->
   aR g (.vp cs) (.pointer (some ⟨c,o,none⟩))
 |aG:aR g .aG (.slice none 0 0)
 |sl {sz:Nat} {xs:aC} {ow:tG} {a:Option Addr} {cap c o:Nat} (f:Nat->bw):(∀x:V,x∈xs->x.cells.length=sz)->xs.length<=cap->(xs≠[]->a=some ⟨c,o,none⟩) ->
   (∀(j:Nat)(x:V),(zw xs)[j]?=some x->x.one=true)->(∀(j:Nat)(x:V),(zw xs)[j]?=some x->g.M c (o+j)=some (f j))->(∀(j:Nat)(x:V),(zw xs)[j]?=some x->aR g x (f j)) ->
   aR g (.sl sz xs ow) (.slice a xs.length cap)
 |sr {b off len cap:Nat}:len<=cap->aR g (.sr b off len cap) (.slice (some ⟨g.bO b,off,none⟩) len cap)
 |iX:aR g .iX (.map none)
 |map (b:Nat):aR g (.map b) (.map (some (g.bO b)))
 |nt:aR g .nt .nilFunc
 |fn {f:Fn} {as cs:aC} {fa fc:dF}:as.length=fa.size->cs.length=fc.size->(∀(j:Nat)(x:V)(v:bw),as[j]?=some x->fa[j]?=some v->aR g x v) ->
   (∀(j:Nat)(x:V)(v:bw),cs[j]?=some x->fc[j]?=some v->aR g x v)->aR g (.fn f as cs) (.func f fa fc)
 |bT:aR g .bT .nilIface
 |ec {t:aB} {v:V} {cv:bw}:aR g v cv->aR g (.ec t v) (.iface t cv)
 |agg {cs:aC} {arr:dF}:cs.length=arr.size->(∀(j:Nat)(x:V),cs[j]?=some x->x.one=true)->(∀(j:Nat)(x:V)(v:bw),cs[j]?=some x->arr[j]?=some v->aR g x v)->aR g (.agg cs) (.agg arr)
 |br {cs:aC} {arr:dF}:cs.length=arr.size->(∀(j:Nat)(x:V)(v:bw),cs[j]?=some x->arr[j]?=some v->aR g x v)->aR g (.br cs) (.tuple arr)
 |dw {b u len cap c o:Nat}:g.e_ b u=some (.slice (some ⟨c,o,none⟩) len cap)->aR g (.dw b u len) (.slice (some ⟨c,o,none⟩) len cap)
 |gm {b u len cap c o:Nat} (k:Nat):g.e_ b u=some (.slice (some ⟨c,o,none⟩) len cap)->aR g (.gm b u k) (.pointer (some ⟨c,o+k,none⟩))
 |ee (v:bw):aR g .ee v
theorem zn{x:V}:∀{cs:aC},x∈cs->x.top<=aI cs
 | c::cs,h=>by
  simp only[aI];rcases dN.1 h with rfl|h
  ·exact D4 _ _
  ·exact cU (zn h) (HS _ _)
theorem qq{n:Nat}:∀{cs:aC},(∀x∈cs,x.top<=n)->aI cs<=n
 | [],_=>dU _
 | c::cs,h=>by
  simp only[aI];exact ua.2 ⟨h c (eT ..),qq λx hx=>h x (d_ _ hx)⟩
theorem Tg{x y:V}(h:y∈x.cells):y.top<=x.top:=by
 cases x<;>simp only[V.cells,mF] at h<;>try (subst h;exact dB _)
 simp only[V.top];exact zn h
theorem xU{xs:aC}{y:V}(h:y∈zw xs):y.top<=aI xs:=by
 obtain⟨x,hx,hy⟩:=List.mem_flatMap.1 h;exact cU (Tg hy) (zn hx)
theorem ji(v:V):(aW v).top=v.top:=by
 cases v<;>rfl
theorem eX:∀(cs:aC),aI (cs.map aW)=aI cs
 | []=>rfl
 | c::cs=>by simp[aI,ji,eX cs]
theorem VP(v:V):(aW v).one=v.one:=by cases v<;>rfl
theorem aR.aW{g:Gh}{v:V}{cv:bw}(h:aR g v cv):aR g (aW v) cv:=by
 cases h<;>first
  |constructor<;>assumption
  |(rename_i f h1 h2 h3 h4 h5 h6;exact .sl f h1 h2 h3 h4 h5 h6)
  |(rename_i f h1 h2 h3;exact .vp f h1 h2 h3)
structure Gh.Le(n:Nat)(g g':Gh):Prop where
 M:∀c o v,g.M c o=some v->g'.M c o=some v
 bO:∀b,b<n->g'.bO b=g.bO b
 obj:g'.obj=g.obj
 e_:∀b u v,b<n->g.e_ b u=some v->g'.e_ b u=some v
theorem Gh.Le.refl(n:Nat)(g:Gh):Gh.Le n g g:=⟨λ_ _ _ h=>h,λ_ _=>rfl,rfl,λ_ _ _ _ h=>h⟩
theorem Gh.Le.trans{n:Nat}{a b c:Gh}(h:Gh.Le n a b)(k:Gh.Le n b c):Gh.Le n a c :=
 ⟨λ_ _ _ e=>k.M _ _ _ (h.M _ _ _ e),λi hi=>(k.bO i hi).trans (h.bO i hi),k.obj.trans h.obj,λb u v hb e=>k.e_ b u v hb (h.e_ b u v hb e)⟩
theorem Gh.Le.mono{n m:Nat}{a b:Gh}(h:Gh.Le n a b)(hm:m<=n):Gh.Le m a b:=⟨h.M,λi hi=>h.bO i (r9 hi hm),h.obj,λb u v hb e=>h.e_ b u v (r9 hb hm) e⟩
theorem zv{α:Type}{l:List α}{j:Nat}{x:α}(h:l[j]?=some x):x∈l:=m8 h
theorem aR.le{n:Nat}{g g':Gh}(hg:Gh.Le n g g'){v:V}{cv:bw}(h:aR g v cv):v.top<=n->aR g' v cv:=by
 induction h with
 | bool b=>intro _;exact .bool b
 | int k m=>intro _;exact .int k m
 | str h=>intro _;exact .str h
 | fE=>intro _;exact .fE
 | ptr b off=>intro ht;simp only[V.top] at ht;rw[<- hg.bO b (by omega)];exact .ptr b off
 | eN k off=>intro _;exact .eN k off
 | obj k=>intro _;rw[<- hg.obj];exact .obj k
 | vp f h1 h2 _ ih=>intro ht;exact .vp f h1 (λj x hx=>hg.M _ _ _ (h2 j x hx)) λj x hx=>ih j x hx (cU (zn (zv hx)) ht)
 | aG=>intro _;exact .aG
 | sl f h1 h2 h3 h4 h5 _ ih=>intro ht;exact .sl f h1 h2 h3 h4 (λj x hx=>hg.M _ _ _ (h5 j x hx)) λj x hx=>ih j x hx (cU (xU (zv hx)) ht)
 | sr hl=>intro ht;simp only[V.top] at ht;rw[<- hg.bO _ (by omega)];exact .sr hl
 | iX=>intro _;exact .iX
 | map b=>intro ht;simp only[V.top] at ht;rw[<- hg.bO b (by omega)];exact .map b
 | nt=>intro _;exact .nt
 | fn h1 h2 _ _ iha ihc =>
  intro ht;simp only[V.top] at ht;have:=ua.1 ht;exact .fn h1 h2 (λj x v hx hv=>iha j x v hx hv (cU (zn (zv hx)) this.1)) (λj x v hx hv=>ihc j x v hx hv (cU (zn (zv hx)) this.2))
 | bT=>intro _;exact .bT
 | ec _ ih=>intro ht;exact .ec (ih ht)
 | agg h1 h2 _ ih=>intro ht;exact .agg h1 h2 λj x v hx hv=>ih j x v hx hv (cU (zn (zv hx)) ht)
 | br h1 _ ih=>intro ht;exact .br h1 λj x v hx hv=>ih j x v hx hv (cU (zn (zv hx)) ht)
 | dw h=>intro ht;simp only[V.top] at ht;exact .dw (hg.e_ _ _ _ (by omega) h)
 | gm k h=>intro ht;simp only[V.top] at ht;exact .gm k (hg.e_ _ _ _ (by omega) h)
 | ee v=>intro _;exact .ee v
theorem aR.n_{g:Gh}{v:V}{cv:bw}(h:aR g v cv)(h1:v.one=true):cv.oneCell'=true:=by
 cases h<;>first|rfl|(simp[V.one,Cz] at h1)
def rowAt(w:aP)(e sz:Nat)(cv:bw)(n:Nat)(xs:dA):Prop :=
 xs.length=n * sz/\((cv=.slice none 0 0/\n=0)\/∃c o cap cur,cv=.slice (some ⟨c,o,none⟩) n cap/\w.heap[c]?=some (.cells cur e (0,0))/\n<=cap/\cap<=maxLen/\(cap=0\/cur.size=o+cap * sz)/\(cur.toList.drop o).take (n * sz)=xs)
def pL(sz len:Nat)(M:Nat->Option bw):bw->Prop
 | .slice (some a) _ cap=>∀j,a.off+len * sz<=j->j<a.off+cap * sz->M j=none
 | _=>True
def fT(g:Gh)(n:Nat)(w:aP)(l:Loc)(e sz len:Nat)(cv:bw):Prop :=
 ∃xs,rowAt w e sz cv len xs/\∀c,cv.ownBlock=some c->g.own c=some l/\pL sz len (g.M c) cv/\(∀b,b<n->g.bO b≠c)
theorem pL.eq{sz len:Nat}{M M':Nat->Option bw}{cv:bw}(h:pL sz len M cv)(hm:∀j,M' j=M j):pL sz len M' cv:=by
 unfold pL at *;split
 next a _ cap=>intro j h1 h2;rw[hm];exact h j h1 h2
 ·trivial
theorem zgl{w:aP}{e sz n:Nat}{cv:bw}{xs:dA}(h:w.ownsRow 0 e sz cv n xs):rowAt w e sz cv n xs:=by
 obtain⟨h1,h|⟨c,cap,cur,h2,_,h3,h4,h5,h6,h7⟩⟩:=h
 ·exact⟨h1,.inl h⟩
 ·exact⟨h1,.inr ⟨c,0,cap,cur,h2,h3,h4,h5,.inr (by omega),by rw[iW];exact h7⟩⟩
theorem rowAt.lt{w:aP}{e sz n:Nat}{cv:bw}{xs:dA}(h:rowAt w e sz cv n xs):∀c,cv.ownBlock=some c->c<w.heap.size:=by
 obtain⟨_,⟨rfl,_⟩|⟨c,o,cap,cur,rfl,h3,_⟩⟩:=h
 ·intro c hc;cases hc
 ·intro c' hc;cases hc;exact(sH.1 h3).1
theorem rowAt.cells{w:aP}{e sz n:Nat}{c o cap:Nat}{xs:dA}(h:rowAt w e sz (.slice (some ⟨c,o,none⟩) n cap) n xs):∀j u,xs[j]?=some u->w.cell? ⟨c,o+j,none⟩=some u:=by
 obtain⟨_,⟨h,_⟩|⟨c,o,cap,cur,h,h3,_,_,_,rfl⟩⟩:=h
 ·cases h
 ·cases h;intro j u hu;rw[cell_of_row w _ _ cur _ _ h3];rw[AN] at hu;split at hu
  ·rw[HR] at hu;simpa using hu
  ·cases hu
def cN(g:Gh)(n:Nat)(w:aP)(l:Loc):V->bw->Prop
 | .sl sz xs (.yes e),cv=>fT g n w l e sz xs.length cv
 | _,_=>True
def Pm(g:Gh)(b off:Nat):V->bw->Prop
 | .sl _ _ .lock,cv=>cv=g.lk b off
 | _,_=>True
def aT.top:aT->Nat
 | .cells cs _=>aI cs
 | .map es=>max (aI (es.map (·.1))) (aI (es.map (·.2)))
 | .iter _ _=>0
 | .ul _ _ cs _=>aI cs
structure HY(g:Gh)(n:Nat)(w:aP)(b eO sz:Nat)(cs:aC)(e:aB)(c len cap:Nat)(vs:dA):Prop where
 e_:g.e_ b eO=some (.slice (some ⟨c,0,none⟩) len cap)
 pos:0<sz
 row:w.ownsRow 0 e sz (.slice (some ⟨c,0,none⟩) len cap) len vs
 CA:c=g.bO b\/g.own c=some (.cell b 0)
 M:∀o,g.M c o=none
 others:∀b',b'<n->b'≠b->g.bO b'≠c
 len:cs.length=vs.length
 cells:∀(j:Nat)(x:V)(v:bw),cs[j]?=some x->vs[j]?=some v->x.one=true/\aR g x v
 fresh:∀u,eO<u->g.e_ b u=none
def fU(g:Gh)(n:Nat)(w:aP)(b:Nat):aT->Prop
 | .cells cs t=>∃arr,w.heap[g.bO b]?=some (.cells arr t (0,0))/\cs.length=arr.size /\
   ∀(j:Nat)(x:V)(v:bw),cs[j]?=some x->arr[j]?=some v->x.one=true/\aR g x v/\cN g n w (.cell b j) x v/\Pm g b j x v
 | .map es=>∃en ck,w.heap[g.bO b]?=some (.map en ck)/\es.length=en.size/\∀(j:Nat)(x:V×V)(me:MapEntry),es[j]?=some x->en[j]?=some me->aR g x.1 me.key/\aR g x.2 me.val
 | .iter s pos=>w.heap[g.bO b]?=some (.stringIter (bytes s) pos)/\∀b:Nat,b∈s->b<256
 | .ul eO sz cs e=>∃c len cap vs,HY g n w b eO sz cs e c len cap vs
structure nu(g:Gh)(bs:List aT)(w:aP):Prop where
 mem:∀c o v,g.M c o=some v->w.cell? ⟨c,o,none⟩=some v
 lt:∀b,b<bs.length->g.bO b<w.heap.size
 inj:∀b b',b<bs.length->b'<bs.length->g.bO b=g.bO b'->b=b'
 apart:∀b,b<bs.length->∀o,g.M (g.bO b) o=none
 eo:∀c l,g.own c=some l->c<w.heap.size
 dj:∀b,b<bs.length->g.own (g.bO b)=none
 ok:∀(b:Nat)(x:aT),bs[b]?=some x->fU g bs.length w b x
 aI:∀(b:Nat)(x:aT),bs[b]?=some x->x.top<=bs.length
 laid:∀c,g.obj.lo c->(∃cs t,w.heap[c]?=some (.cells cs t (0,0)))/\g.own c=none/\∀b,b<bs.length->g.bO b≠c
def rq(d n:Nat)(g:Gh)(w:aP)(c:Nat):Prop :=
 c<w.heap.size/\(∀b,b<n->g.bO b≠c)/\(g.own c=none\/∃d' t,g.own c=some (.slot d' t)/\d<d')
def jo(bs:List aT)(b off:Nat):Prop:=∃cs t sz xs,bs[b]?=some (.cells cs t)/\cs[off]?=some (.sl sz xs .lock)
structure Fr(d:Nat)(bs:List aT)(g:Gh)(w:aP)(g':Gh)(w':aP):Prop where
 le:Gh.Le bs.length g g'
 heap:∀c,rq d bs.length g w c->w'.heap[c]?=w.heap[c]?
 own:∀c,rq d bs.length g w c->g'.own c=g.own c
 M:∀c,rq d bs.length g w c->∀o,g'.M c o=g.M c o
 size:w.heap.size<=w'.heap.size
 lk:∀b off,jo bs b off->g'.lk b off=g.lk b off
 os:w'.os=w.os
 tape:w'.tape=w.tape
 output:w'.output=w.output
theorem Fr.refl(d:Nat)(bs:List aT)(g:Gh)(w:aP):Fr d bs g w g w :=
 ⟨.refl _ _,λ_ _=>rfl,λ_ _=>rfl,λ_ _ _=>rfl,dB _,λ_ _ _=>rfl,rfl,rfl,rfl⟩
theorem Fr.trans{d:Nat}{EL bs:List aT}{g0 g g':Gh}{w0 w w':aP}(h1:Fr d EL g0 w0 g w)(hlen:EL.length<=bs.length)
  (eu:∀b,EL.length<=b->b<bs.length->w0.heap.size<=g.bO b) (ri:∀b off,jo EL b off->jo bs b off) (h2:Fr d bs g w g' w'):Fr d EL g0 w0 g' w':=by
 have hp:∀c,rq d EL.length g0 w0 c->rq d bs.length g w c:=λc hc=>by
  refine⟨r9 hc.1 h1.size,λb hb e=>?_,by rw[h1.own c hc];exact hc.2.2⟩
  rcases eI b EL.length with bR|Aa
  ·exact hc.2.1 b bR ((h1.le.bO b bR).symm.trans e)
  ·have:=eu b Aa hb;have:=hc.1;omega
 exact⟨h1.le.trans (h2.le.mono hlen),λc hc=>(h2.heap c (hp c hc)).trans (h1.heap c hc),λc hc=>(h2.own c (hp c hc)).trans (h1.own c hc),
  λc hc o=>(h2.M c (hp c hc) o).trans (h1.M c hc o),cU h1.size h2.size,λb off hl=>(h2.lk b off (ri b off hl)).trans (h1.lk b off hl),
  h2.os.trans h1.os,h2.tape.trans h1.tape,h2.output.trans h1.output⟩
def Pn(EL:List aT)(H:Hp):Prop :=
 ∀(b:Nat)(x:aT),H.au[b]?=some x->x.top<=b+1\/(∃m,(b,m)∈H.bC/\x.top<=m)\/∃y:aT,EL[b]?=some y/\x.top<=y.top
structure Lp where
 t:Nat
 v:V
 cv:bw
 at_:Option (Nat×Nat)
structure dY where
 d:Nat
 bs:List aT
 g:Gh
 w:aP
 cY:List Lp
def D9(B:dY)(b off:Nat):Prop:=jo B.bs b off\/∃q∈B.cY,q.at_=some (b,off)
def Dj(g:Gh)(n:Nat)(x:V×aC)(d:Deferred):Prop :=
 ∃(f:FuncId)(as cs:aC)(fc:dF),x.1=.fn (.func f) as cs/\d.target=.fn (.func f) fc/\(as++x.2).length=d.args.size/\cs.length=fc.size/\(∀(j:Nat)(y:V)(v:bw),(as++x.2)[j]?=some y->d.args[j]?=some v->aR g y v) /\
  (∀(j:Nat)(y:V)(v:bw),cs[j]?=some y->fc[j]?=some v->aR g y v)/\aI (as++x.2)<=n/\aI cs<=n
def Ab(g:Gh)(n:Nat)(x:V×aC)(d:Deferred):Prop:=Dj g n x d\/(x=(.fE,[])/\∃D,d={ target:=.collected D,args:=#[] })
def zq3(g:Gh)(n:Nat)(w:aP)(D:Nat):Prop:=w.heap[D]?=some (.deferred (some []))/\(∀b,b<n->g.bO b≠D)/\g.own D=none
structure Rel(B:dY)(g:Gh)(s:St)(a:Act)(w:aP):Prop where
 de:nu g s.H.au w
 len:s.env.length=a.tmps.size
 env:∀(t:Nat)(x:V)(v:bw),s.env[t]?=some x->a.tmps[t]?=some v->aR g x v/\cN g s.H.au.length w (.slot B.d t) x v
 dS:∀(t:Nat)(x:V),s.env[t]?=some x->x.top<=s.H.au.length
 n0:B.bs.length<=s.H.au.length
 bC:Pn B.bs s.H
 dV:∀b,B.bs.length<=b->b<s.H.au.length->B.w.heap.size<=g.bO b
 fr:Fr B.d B.bs B.g B.w g w
 lV:∀b off,D9 B b off->jo s.H.au b off
 oB:∀p∈s.lk,¬D9 B p.1 p.2
 cY:∀p∈B.cY,s.env.length<p.t/\aR g p.v p.cv/\cN g s.H.au.length w (.slot B.d p.t) p.v p.cv/\p.v.top<=s.H.au.length/\∀b off,p.at_=some (b,off)->g.lk b off=p.cv
 eK:s.defers.length=a.defers.length
 defers:∀(j:Nat)(x:V×aC)(d:Deferred),s.defers[j]?=some x->a.defers[j]?=some d->Ab g s.H.au.length x d
 marks:∀d∈a.defers,∀D,d.target=.collected D->B.w.heap.size<=D/\zq3 g s.H.au.length w D
 nM:a.defers.Pairwise λd d'=>∀D,d.target=.collected D->d'.target≠.collected D
structure gV(d:Nat)(b0:Option Nat)(l0:Option Loc)(n:Nat)(g:Gh)(w:aP)(g':Gh)(w':aP):Prop where
 le:Gh.Le n g g'
 heap:∀c,c<w.heap.size->(∀b,b0=some b->g.bO b≠c)->(∀l,l0=some l->g.own c≠some l)->w'.heap[c]?=w.heap[c]?
 own:∀c,c<w.heap.size->(∀l,l0=some l->g.own c≠some l)->g'.own c=g.own c
 M:∀c,c<w.heap.size->(∀l,l0=some l->g.own c≠some l)->∀o,g'.M c o=g.M c o
 size:w.heap.size<=w'.heap.size
 lk:∀b off,(∀l,l0=some l->l≠.cell b off)->g'.lk b off=g.lk b off
 Po:∀l,l0=some l->(∃t,l=.slot d t)\/∃b j,l=.cell b j/\b0=some b
 D_:∀b,b0=some b->b<n
 e_:∀b u,b<n->b0≠some b->g'.e_ b u=g.e_ b u
 os:w'.os=w.os
 tape:w'.tape=w.tape
 output:w'.output=w.output
theorem zcT{w w':aP}{base e sz:Nat}{cv:bw}{n:Nat}{xs:dA}(h:w.ownsRow base e sz cv n xs)(hh:∀c,cv.ownBlock=some c->w'.heap[c]?=w.heap[c]?) :
  w'.ownsRow base e sz cv n xs:=by
 refine⟨h.1,h.2.imp id ?_⟩;rintro⟨c,cap,cur,rfl,hb,hc,r⟩;exact⟨c,cap,cur,rfl,hb,by rw[hh c rfl];exact hc,r⟩
theorem za1{w w':aP}{e sz:Nat}{cv:bw}{n:Nat}{xs:dA}(h:rowAt w e sz cv n xs)(hh:∀c,cv.ownBlock=some c->w'.heap[c]?=w.heap[c]?):rowAt w' e sz cv n xs:=by
 refine⟨h.1,h.2.imp id ?_⟩;rintro⟨c,o,cap,cur,rfl,hc,r⟩;exact⟨c,o,cap,cur,rfl,by rw[hh c rfl];exact hc,r⟩
theorem fT.lt{g:Gh}{n:Nat}{w:aP}{l:Loc}{e sz len:Nat}{cv:bw}(h:fT g n w l e sz len cv):∀c,cv.ownBlock=some c->c<w.heap.size:=by
 obtain⟨xs,ho,_⟩:=h;exact λc hc=>ho.lt c hc
def NS(g:Gh)(l0:Option Loc)(w:aP)(c:Nat):Prop:=w.heap.size<=c\/∃l,l0=some l/\g.own c=some l
theorem fT.nN{d:Nat}{b0:Option Nat}{l0:Option Loc}{n n':Nat}{g g':Gh}{w w':aP}(hs:gV d b0 l0 n g w g' w'){l:Loc}(hl:l0≠some l)
  (hn:∀b,n<=b->b<n'->NS g l0 w (g'.bO b)) {e sz len:Nat} {cv:bw} (h:fT g n w l e sz len cv):fT g' n' w' l e sz len cv:=by
 have bR:=h.lt;obtain⟨xs,ho,hc⟩:=h;have b_:∀c,cv.ownBlock=some c->∀l',l0=some l'->g.own c≠some l':=λc rj l' mU e=>by
  rw[(hc c rj).1] at e;cases e;exact hl mU
 refine⟨xs,za1 ho λc rj=>hs.heap c (bR c rj) (λb hb=>(hc c rj).2.2 b (hs.D_ b hb)) (b_ c rj),λc rj=>⟨?_,?_,?_⟩⟩
 ·rw[hs.own c (bR c rj) (b_ c rj)];exact(hc c rj).1
 ·exact(hc c rj).2.1.eq λo=>hs.M c (bR c rj) (b_ c rj) o
 ·intro b hb e;rcases eI b n with h1|h1
  ·exact(hc c rj).2.2 b h1 ((hs.le.bO b h1).symm.trans e)
  ·have:=bR c rj;rcases hn b h1 hb with h2|⟨l',h2,h3⟩
   ·omega
   ·rw[e,(hc c rj).1] at h3;cases h3;exact hl h2
theorem fT.same{d:Nat}{b0:Option Nat}{l0:Option Loc}{n n':Nat}{g g':Gh}{w w':aP}(hs:gV d b0 l0 n g w g' w'){l:Loc}(hl:l0≠some l)
  (hn:∀b,n<=b->b<n'->w.heap.size<=g'.bO b) {e sz len:Nat} {cv:bw} (h:fT g n w l e sz len cv):fT g' n' w' l e sz len cv :=
 fT.nN hs hl (λb h1 h2=>.inl (hn b h1 h2)) h
theorem cN.nN{d:Nat}{b0:Option Nat}{l0:Option Loc}{n n':Nat}{g g':Gh}{w w':aP}(hs:gV d b0 l0 n g w g' w'){l:Loc}(hl:l0≠some l)
  (hn:∀b,n<=b->b<n'->NS g l0 w (g'.bO b)) {x:V} {cv:bw} (h:cN g n w l x cv):cN g' n' w' l x cv:=by
 unfold cN at *;split
 ·exact fT.nN hs hl hn h
 ·trivial
theorem cN.same{d:Nat}{b0:Option Nat}{l0:Option Loc}{n n':Nat}{g g':Gh}{w w':aP}(hs:gV d b0 l0 n g w g' w'){l:Loc}(hl:l0≠some l)
  (hn:∀b,n<=b->b<n'->w.heap.size<=g'.bO b) {x:V} {cv:bw} (h:cN g n w l x cv):cN g' n' w' l x cv :=
 cN.nN hs hl (λb h1 h2=>.inl (hn b h1 h2)) h
theorem vl(g:Gh)(n:Nat)(w:aP)(l:Loc)(x:V)(cv:bw):cN g n w l (aW x) cv:=by
 cases x<;>simp[aW,cN]
theorem fU.nN{d:Nat}{b0:Option Nat}{l0:Option Loc}{n n':Nat}{g g':Gh}{w w':aP}(hs:gV d b0 l0 n g w g' w'){b:Nat}(hb:b0≠some b)(NT:b<n)
  (bR:g.bO b<w.heap.size) (iK:g.own (g.bO b)=none) (CB:∀b',b0=some b'->g.bO b'≠g.bO b)
  (hn:∀b,n<=b->b<n'->NS g l0 w (g'.bO b)) {x:aT} (dy:x.top<=n) (h:fU g n w b x):fU g' n' w' b x:=by
 have b_:∀l,l0=some l->g.own (g.bO b)≠some l:=by
  intro l _;rw[iK];simp
 have oC:w'.heap[g'.bO b]?=w.heap[g.bO b]?:=by
  rw[hs.le.bO b NT];exact hs.heap _ bR CB b_
 have dL:∀j,l0≠some (.cell b j):=λj e=>by
  rcases hs.Po _ e with⟨t,ht⟩|⟨b',j',he,dg⟩
  ·cases ht
  ·cases he;exact hb dg
 cases x with
 | cells cs t =>
  obtain⟨arr,ha,hl,hj⟩:=h;refine⟨arr,oC.trans ha,hl,λj x v hx hv=>?_⟩;obtain⟨h1,h2,h3,h4⟩:=hj j x v hx hv;have Ea:x.top<=n:=cU (zn (zv hx)) dy;refine⟨h1,h2.le hs.le Ea,cN.nN hs (dL j) hn h3,?_⟩;unfold Pm at *;split
  ·rw[hs.lk b j λl hl e=>dL j (e ▸ hl)];exact h4
  ·trivial
 | map es =>
  obtain⟨en,ck,ha,hl,hj⟩:=h;have ht:=ua.1 (show max (aI (es.map (·.1))) (aI (es.map (·.2)))<=n from dy);refine⟨en,ck,oC.trans ha,hl,λj x me hx Lq=>?_⟩;obtain⟨h1,h2⟩:=hj j x me hx Lq;exact⟨h1.le hs.le (cU (zn (HP (f:=(·.1)) (zv hx))) ht.1),h2.le hs.le (cU (zn (HP (f:=(·.2)) (zv hx))) ht.2)⟩
 | iter s pos=>exact⟨oC.trans h.1,h.2⟩
 | ul eO sz cs e =>
  obtain⟨c,len,cap,vs,hu⟩:=h;have bR:c<w.heap.size:=(hu.row.lt c rfl).2;have eH:∀l,l0=some l->g.own c≠some l:=λl mU e'=>by
   rcases hu.CA with h1|h1
   ·exact b_ l mU (h1 ▸ e')
   ·rw[h1] at e';cases e';exact dL 0 mU
  have hnb:∀b',b0=some b'->g.bO b'≠c:=λb' dg=>hu.others b' (hs.D_ b' dg) λe'=>hb (e' ▸ dg);refine⟨c,len,cap,vs,?_,hu.pos,zcT hu.row λk hk=>?_,?_,λo=>?_,λb' dg VQ e'=>?_,hu.len,λj x v hx hv=>?_,λu hlu=>?_⟩
  ·rw[hs.e_ b eO NT hb];exact hu.e_
  ·cases hk;exact hs.heap c bR hnb eH
  ·rw[hs.le.bO b NT,hs.own c bR eH];exact hu.CA
  ·rw[hs.M c bR eH];exact hu.M o
  ·rcases eI b' n with h1|h1
   ·exact hu.others b' h1 VQ ((hs.le.bO b' h1).symm.trans e')
   ·rcases hn b' h1 dg with h2|⟨l,h2,h3⟩
    ·omega
    ·exact eH l h2 (e' ▸ h3)
  ·obtain⟨h1,h2⟩:=hu.cells j x v hx hv;exact⟨h1,h2.le hs.le (cU (zn (zv hx)) dy)⟩
  ·rw[hs.e_ b u NT hb];exact hu.fresh u hlu
theorem fU.same{d:Nat}{b0:Option Nat}{l0:Option Loc}{n n':Nat}{g g':Gh}{w w':aP}(hs:gV d b0 l0 n g w g' w'){b:Nat}(hb:b0≠some b)(NT:b<n)
  (bR:g.bO b<w.heap.size) (iK:g.own (g.bO b)=none) (CB:∀b',b0=some b'->g.bO b'≠g.bO b)
  (hn:∀b,n<=b->b<n'->w.heap.size<=g'.bO b) {x:aT} (dy:x.top<=n) (h:fU g n w b x):fU g' n' w' b x :=
 fU.nN hs hb NT bR iK CB (λb h1 h2=>.inl (hn b h1 h2)) dy h
theorem gV.fr{d:Nat}{b0:Option Nat}{l0:Option Loc}{bs:List aT}{g g':Gh}{w w':aP}(hs:gV d b0 l0 bs.length g w g' w')(hl:∀b j,l0=some (.cell b j)->¬jo bs b j) :
  Fr d bs g w g' w':=by
 have b_:∀c,rq d bs.length g w c->∀l,l0=some l->g.own c≠some l:=by
  intro c hc l mU e;rcases hc.2.2 with h0|⟨d',t,h1,hd⟩
  ·rw[h0] at e;cases e
  ·rw[h1] at e;cases e;rcases hs.Po _ mU with⟨t',ht⟩|⟨b,j,hj,_⟩
   ·cases ht;omega
   ·cases hj
 exact⟨hs.le,λc hc=>hs.heap c hc.1 (λb hb=>hc.2.1 b (hs.D_ b hb)) (b_ c hc),λc hc=>hs.own c hc.1 (b_ c hc),λc hc=>hs.M c hc.1 (b_ c hc),hs.size,
  λb off ri=>hs.lk b off λl mU e=>hl b off (e ▸ mU) ri,hs.os,hs.tape,hs.output⟩
theorem Dj.le{n n':Nat}{g g':Gh}(hg:Gh.Le n g g')(hn:n<=n'){x:V×aC}{d:Deferred}(h:Dj g n x d):Dj g' n' x d:=by
 obtain⟨f,as,cs,fc,h1,h2,h3,h4,h5,h6,h7,h8⟩:=h
 exact⟨f,as,cs,fc,h1,h2,h3,h4,λj y v hy hv=>(h5 j y v hy hv).le hg (cU (zn (zv hy)) h7),λj y v hy hv=>(h6 j y v hy hv).le hg (cU (zn (zv hy)) h8),
  cU h7 hn,cU h8 hn⟩
theorem Ab.le{n n':Nat}{g g':Gh}(hg:Gh.Le n g g')(hn:n<=n'){x:V×aC}{d:Deferred}(h:Ab g n x d):Ab g' n' x d:=h.imp (λh=>h.le hg hn) id
theorem Rel.Dk{B:dY}{g:Gh}{s:St}{a:Act}{w:aP}(h:Rel B g s a w){b0:Option Nat}{l0:Option Loc}{g':Gh}{w':aP}(hs:gV B.d b0 l0 s.H.au.length g w g' w'){s':St}
  (hlen:s.H.au.length<=s'.H.au.length)
  (hold:∀b,b<s.H.au.length->b0≠some b->s'.H.au[b]?=s.H.au[b]?)
  (HZ:∀(b:Nat)(x:aT),(b0=some b\/s.H.au.length<=b)->s'.H.au[b]?=some x->fU g' s'.H.au.length w' b x/\x.top<=s'.H.au.length)
  (eu:∀b,s.H.au.length<=b->b<s'.H.au.length->(NS g l0 w (g'.bO b)/\B.w.heap.size<=g'.bO b)/\g'.bO b<w'.heap.size/\g'.own (g'.bO b)=none/\∀o,g'.M (g'.bO b) o=none)
  (CB:∀b b',s.H.au.length<=b->b<s'.H.au.length->s.H.au.length<=b'->b'<s'.H.au.length->g'.bO b=g'.bO b'->b=b')
  (dG:∀c o v,g'.M c o=some v->w'.cell? ⟨c,o,none⟩=some v)
  (sJ:∀c l,g'.own c=some l->c<w'.heap.size)
  (GP:∀b j,l0=some (.cell b j)->¬jo s.H.au b j)
  (Dl:s'.env.length=s.env.length) (Eb:s'.defers=s.defers)
  (lC:∀(t:Nat)(x:V),s'.env[t]?=some x->∃y,s.env[t]?=some y/\(x=y/\l0≠some (.slot B.d t)\/x=aW y))
  (CC:Pn B.bs s'.H) (Ec:∀b off,D9 B b off->jo s'.H.au b off) (Lr:∀p∈s'.lk,¬D9 B p.1 p.2) (uf:∀t,l0=some (.slot B.d t)->∀p∈B.cY,p.t≠t):Rel B g' s' a w':=by
 have hn:∀b,s.H.au.length<=b->b<s'.H.au.length->NS g l0 w (g'.bO b):=λb h1 h2=>(eu b h1 h2).1.1;have Ac:∀b,s.H.au.length<=b->b<s'.H.au.length->∀c,c<w.heap.size->(∀l,l0=some l->g.own c≠some l)->g'.bO b≠c:=λb h1 h2 c h3 h4 e=>by
  rcases hn b h1 h2 with h5|⟨l,h5,h6⟩
  ·omega
  ·exact h4 l h5 (e ▸ h6)
 have b_:∀b,b<s.H.au.length->∀l,l0=some l->g.own (g.bO b)≠some l:=λb hb l _=>by rw[h.de.dj b hb];simp
 have lW:∀b,b<s.H.au.length->g'.bO b=g.bO b:=λb hb=>hs.le.bO b hb;refine { de:=?_,len:=Dl.trans h.len,env:=?_,dS:=?_,n0:=cU h.n0 hlen,bC:=CC,dV:=?_,fr:=?_,lV:=Ec,oB:=Lr,cY:=?_,eK:=by rw[Eb];exact h.eK,defers:=?_,marks:=λd hd D hD=>?_,nM:=h.nM }
 ·refine { mem:=dG,lt:=?_,inj:=?_,apart:=?_,eo:=sJ,dj:=?_,ok:=?_,aI:=?_,laid:=?_ }
  ·intro b hb;rcases eI b s.H.au.length with h1|h1
   ·rw[lW b h1];exact r9 (h.de.lt b h1) hs.size
   ·exact(eu b h1 hb).2.1
  ·intro b b' hb dg e;rcases eI b s.H.au.length with h1|h1<;>rcases eI b' s.H.au.length with h2|h2
   ·rw[lW b h1,lW b' h2] at e;exact h.de.inj b b' h1 h2 e
   ·rw[lW b h1] at e;exact absurd e.symm (Ac b' h2 dg _ (h.de.lt b h1) (b_ b h1))
   ·rw[lW b' h2] at e;exact absurd e (Ac b h1 hb _ (h.de.lt b' h2) (b_ b' h2))
   ·exact CB b b' h1 hb h2 dg e
  ·intro b hb o;rcases eI b s.H.au.length with h1|h1
   ·rw[lW b h1,hs.M _ (h.de.lt b h1) (b_ b h1)];exact h.de.apart b h1 o
   ·exact(eu b h1 hb).2.2.2 o
  ·intro b hb;rcases eI b s.H.au.length with h1|h1
   ·rw[lW b h1,hs.own _ (h.de.lt b h1) (b_ b h1)];exact h.de.dj b h1
   ·exact(eu b h1 hb).2.2.1
  ·intro b x hx
   by_cases hc:b0=some b\/s.H.au.length<=b
   ·exact(HZ b x hc hx).1
   ·have h1:b<s.H.au.length:=by omega
    have h2:b0≠some b:=λe=>hc (.inl e);rw[hold b h1 h2] at hx;exact fU.nN hs h2 h1 (h.de.lt b h1) (h.de.dj b h1) (λb' dg e=>h2 (by rw[dg,h.de.inj b' b (hs.D_ b' dg) h1 e])) hn (h.de.aI b x hx) (h.de.ok b x hx)
  ·intro b x hx
   by_cases hc:b0=some b\/s.H.au.length<=b
   ·exact(HZ b x hc hx).2
   ·have h1:b<s.H.au.length:=by omega
    rw[hold b h1 (λe=>hc (.inl e))] at hx;exact cU (h.de.aI b x hx) hlen
  ·intro c hc;rw[hs.le.obj] at hc;obtain⟨⟨cs,t,h1⟩,h2,h3⟩:=h.de.laid c hc;have bR:c<w.heap.size:=(sH.1 h1).1;have eH:∀l,l0=some l->g.own c≠some l:=λl _=>by rw[h2];simp
   refine⟨⟨cs,t,by rw[hs.heap c bR (λb hb=>h3 b (hs.D_ b hb)) eH];exact h1⟩,by rw[hs.own c bR eH];exact h2,λb hb e=>?_⟩
   rcases eI b s.H.au.length with h4|h4
   ·rw[lW b h4] at e;exact h3 b h4 e
   ·exact Ac b h4 hb c bR eH e
 ·intro t x v hx hv;obtain⟨y,hy,H_⟩:=lC t x hx;obtain⟨h1,h2⟩:=h.env t y v hy hv;have h3:=h.dS t y hy;rcases H_ with⟨rfl,hl⟩|rfl
  ·exact⟨h1.le hs.le h3,cN.nN hs hl hn h2⟩
  ·exact⟨(h1.le hs.le h3).aW,vl _ _ _ _ _ _⟩
 ·intro t x hx;obtain⟨y,hy,H_⟩:=lC t x hx;have h3:=h.dS t y hy;rcases H_ with⟨rfl,_⟩|rfl
  ·exact cU h3 hlen
  ·rw[ji];exact cU h3 hlen
 ·intro b h1 h2;rcases eI b s.H.au.length with h3|h3
  ·rw[lW b h3];exact h.dV b h1 h3
  ·exact(eu b h3 h2).1.2
 ·exact h.fr.trans h.n0 h.dV (λb off hl=>h.lV b off (.inl hl)) (hs.fr GP)
 ·intro p hp;obtain⟨p1,p2,p3,p4,p5⟩:=h.cY p hp;refine⟨by rw[Dl];exact p1,p2.le hs.le p4,cN.nN hs (λe=>?_) hn p3,cU p4 hlen,λb off e=>?_⟩
  ·exact uf _ e p hp rfl
  ·rw[hs.lk b off λl hl e'=>GP b off (e' ▸ hl) (h.lV b off (.inr ⟨p,hp,e⟩))];exact p5 b off e
 ·intro j x d hx hd;rw[Eb] at hx;exact(h.defers j x d hx hd).le hs.le hlen
 ·obtain⟨h0,h1,h2,h3⟩:=h.marks d hd D hD;have bR:D<w.heap.size:=(sH.1 h1).1;have eH:∀l,l0=some l->g.own D≠some l:=λl _=>by rw[h3];simp
  refine⟨h0,by rw[hs.heap D bR (λb hb=>h2 b (hs.D_ b hb)) eH];exact h1,λb hb e=>?_,by rw[hs.own D bR eH];exact h3⟩
  rcases eI b s.H.au.length with h4|h4
  ·rw[lW b h4] at e;exact h2 b h4 e
  ·exact Ac b h4 hb D bR eH e
theorem Rel.lE{B:dY}{g:Gh}{s:St}{a:Act}{w:aP}(h:Rel B g s a w){b0:Option Nat}{l0:Option Loc}{g':Gh}{w':aP}(hs:gV B.d b0 l0 s.H.au.length g w g' w'){s':St}
  (hlen:s.H.au.length<=s'.H.au.length)
  (hold:∀b,b<s.H.au.length->b0≠some b->s'.H.au[b]?=s.H.au[b]?)
  (HZ:∀(b:Nat)(x:aT),(b0=some b\/s.H.au.length<=b)->s'.H.au[b]?=some x->fU g' s'.H.au.length w' b x/\x.top<=s'.H.au.length)
  (eu:∀b,s.H.au.length<=b->b<s'.H.au.length->w.heap.size<=g'.bO b/\g'.bO b<w'.heap.size/\g'.own (g'.bO b)=none/\∀o,g'.M (g'.bO b) o=none)
  (CB:∀b b',s.H.au.length<=b->b<s'.H.au.length->s.H.au.length<=b'->b'<s'.H.au.length->g'.bO b=g'.bO b'->b=b')
  (dG:∀c o v,g'.M c o=some v->w'.cell? ⟨c,o,none⟩=some v)
  (sJ:∀c l,g'.own c=some l->c<w'.heap.size)
  (GP:∀b j,l0=some (.cell b j)->¬jo s.H.au b j)
  (Dl:s'.env.length=s.env.length) (Eb:s'.defers=s.defers)
  (lC:∀(t:Nat)(x:V),s'.env[t]?=some x->∃y,s.env[t]?=some y/\(x=y/\l0≠some (.slot B.d t)\/x=aW y))
  (CC:Pn B.bs s'.H) (Ec:∀b off,D9 B b off->jo s'.H.au b off) (Lr:∀p∈s'.lk,¬D9 B p.1 p.2) (uf:∀t,l0=some (.slot B.d t)->t<=s.env.length):Rel B g' s' a w' :=
 h.Dk hs hlen hold HZ (λb h1 h2=>⟨⟨.inl (eu b h1 h2).1,cU h.fr.size (eu b h1 h2).1⟩,(eu b h1 h2).2⟩) CB dG sJ GP Dl Eb lC CC Ec Lr
  λt e p hp e'=>by have:=uf t e;have:=(h.cY p hp).1;omega
end
section
mutual
theorem VR(g:Gh):∀(v:bw)(x:V),aj v=some x->aR g x v/\x.top=0
 | .bool b,x,h=>by simp only[aj,bu] at h;subst h;exact⟨.bool b,rfl⟩
 | .int k n,x,h=>by simp only[aj,bu] at h;subst h;exact⟨.int k n,rfl⟩
 | .float _ _,x,h=>by simp[aj] at h
 | .complex _ _ _,x,h=>by simp[aj] at h
 | .string s,x,h=>by
  simp only[aj,bu] at h;subst h;have e:s=bytes (s.data.toList.map UInt8.toNat):=by
   cases s;simp[bytes,Function.comp_def]
  refine⟨?_,rfl⟩
  conv=>rhs;rw[e]
  exact .str λb hb=>by
   obtain⟨c,_,rfl⟩:=iH.1 hb;exact c.toNat_lt
 | .pointer a,x,h=>by
  cases a with
  | none=>simp only[aj,bu] at h;subst h;exact⟨.fE,rfl⟩
  | some _=>simp[aj] at h
 | .slice a n c,x,h=>by
  unfold aj at h;split at h<;>first|(rename_i e;cases e;done)|skip
  all_goals first
   |(simp only[bu] at h;subst h;rename_i e;cases e;first|exact⟨.aG,rfl⟩)
   |(cases h;done)
   |(rename_i e;cases e)
 | .map r,x,h=>by
  cases r with
  | none=>simp only[aj,bu] at h;subst h;exact⟨.iX,rfl⟩
  | some _=>simp[aj] at h
 | .chan _,x,h=>by simp[aj] at h
 | .func f ⟨as⟩ ⟨cs⟩,x,h=>by
  cases as with
  | nil=>cases cs with
   | nil =>
    simp only[aj,bu] at h;subst h;exact⟨.fn rfl rfl (λj x v hx=>by simp at hx) (λj x v hx=>by simp at hx),rfl⟩
   | cons _ _=>simp[aj] at h
  | cons _ _=>simp[aj] at h
 | .nilFunc,x,h=>by simp only[aj,bu] at h;subst h;exact⟨.nt,rfl⟩
 | .iface _ _,x,h=>by simp[aj] at h
 | .nilIface,x,h=>by simp only[aj,bu] at h;subst h;exact⟨.bT,rfl⟩
 | .agg ⟨cs⟩,x,h=>by
  simp only[aj,eL] at h;obtain⟨l,hl,h⟩:=h;split at h
  ·rename_i dH;simp only[bu] at h;subst h;obtain⟨h1,h2,h3⟩:=zdn g cs l hl;refine⟨.agg (by simpa using h1) (λj x hx=>Cy.1 dH x (zv hx)) (λj x v hx hv=>h2 j x v hx (by simpa using hv)),?_⟩
   simp only[V.top];exact h3
  ·cases h
 | .tuple ⟨vs⟩,x,h=>by
  cases vs with
  | nil=>simp only[aj,bu] at h;subst h;exact⟨.br rfl (λj x v hx=>by simp at hx),rfl⟩
  | cons _ _=>simp[aj] at h
theorem zdn(g:Gh):∀(vs:dA)(xs:aC),nJ vs=some xs->xs.length=vs.length/\(∀(j:Nat)(x:V)(v:bw),xs[j]?=some x->vs[j]?=some v->aR g x v)/\aI xs=0
 | [],xs,h=>by simp only[nJ,bu] at h;subst h;exact⟨rfl,λj x v hx=>by simp at hx,rfl⟩
 | v::vs,xs,h=>by
  simp only[nJ] at h;split at h
  ·rename_i x ys hx tH;simp only[bu] at h;subst h;obtain⟨h1,h2⟩:=VR g v x hx;obtain⟨h3,h4,h5⟩:=zdn g vs ys tH;refine⟨by simp[h3],λj y u hy hu=>?_,by simp[aI,h2,h5]⟩
   cases j with
   | zero=>simp at hy hu;subst hy;subst hu;exact h1
   | succ j=>simp at hy hu;exact h4 j y u hy hu
  ·cases h
end
variable{B:dY}{g:Gh}{s:St}{a:Act}{w:aP}
theorem Rel.slot(h:Rel B g s a w){t:Nat}{x:V}(hx:s.env[t]?=some x):∃v,a.tmps[t]?=some v/\a.eval (.tmp t)=v:=by
 have bR:t<a.tmps.size:=by rw[<- h.len];exact(cP.1 hx).1
 refine⟨a.tmps[t],EJ bR,?_⟩;simp[Act.eval,Array.getD,bR]
theorem zeD{n:Nat}{l:Loc}{x:V}{v cv:bw}(h:aj v=some x):cN g n w l x cv:=by
 unfold cN;split
 ·unfold aj at h;split at h<;>try (simp at h;done)
  all_goals (simp only[eL] at h;obtain⟨l,_,h⟩:=h;split at h<;>simp at h)
 ·trivial
theorem zI(h:Rel B g s a w){x:aX}{v:V}(hp:ak s.env x=some v) :
  aR g v (a.eval x)/\v.top<=s.H.au.length/\∀n l,cN g n w l v (a.eval x):=by
 cases x with
 | tmp t =>
  simp only[ak,zg] at hp;split at hp<;>simp only[bu,reduceCtorEq] at hp;rename_i y hy;subst hp;obtain⟨cv,lf,he⟩:=h.slot hy;rw[he];exact⟨(h.env t y cv hy lf).1.aW,by rw[ji];exact h.dS t y hy,λ_ _=>vl _ _ _ _ _ _⟩
 | const c =>
  simp only[ak] at hp;obtain⟨h1,h2⟩:=VR g c v hp;exact⟨h1,by omega,λ_ _=>zeD hp⟩
 | global k =>
  simp only[ak,bu] at hp;subst hp;exact⟨.eN k 0,dU _,λ_ _=>trivial⟩
 | func f =>
  simp only[ak,bu] at hp;subst hp;exact⟨.fn rfl rfl (λj x v hx=>by simp at hx) (λj x v hx=>by simp at hx),dU _,λ_ _=>trivial⟩
theorem Rel.hand(h:Rel B g s a w){t:Nat}{v:V}(hv:s.env[t]?=some v)(c:Nat)(hc:g.own c=some (.slot B.d t))(hcw:c<w.heap.size)(l:Loc) :
  Rel B { g with own:=λx=>if x=c then some l else g.own x } { s with env:=s.env.set t (aW v) } a w:=by
 have ht:t<s.env.length:=(cP.1 hv).1;refine h.lE (b0:=none) (l0:=some (.slot B.d t)) ?_ (dB _) (λ_ _ _=>rfl) (λb x hb hx=>?_) (λb h1 h2=>?_) (λb b' h1 h2=>?_) h.de.mem (λc' l' ey=>?_) (λb j e=>by cases e) (by simp) rfl (λt' x hx=>?_) h.bC h.lV h.oB ?_
 ·refine⟨⟨λ_ _ _ e=>e,λ_ _=>rfl,rfl,λ_ _ _ _ e=>e⟩,λ_ _ _ _=>rfl,λc' _ h'=>?_,λ_ _ _ _=>rfl,dB _,λ_ _ _=>rfl,λl' mU=>?_,λb hb=>(by cases hb),λ_ _ _ _=>rfl,rfl,rfl,rfl⟩
  ·show(if c'=c then some l else g.own c')=g.own c'
   rw[if_neg];rintro rfl;exact h' _ rfl hc
  ·cases mU;exact .inl ⟨t,rfl⟩
 ·rcases hb with hb|hb
  ·cases hb
  ·have:=(cP.1 hx).1;simp only at this;omega
 ·simp only at h2;omega
 ·simp only at h2;omega
 ·simp only at ey;split at ey
  next e=>rw[e];exact hcw
  ·exact h.de.eo c' l' ey
 ·simp only[tC] at hx;split at hx
  next e=>subst e;simp only[bu] at hx;exact⟨v,hv,.inr hx.symm⟩
  next e=>exact⟨x,hx,.inl ⟨rfl,λe'=>e (by cases e';rfl)⟩⟩
 ·intro t' e;cases e;exact Nat.le_of_lt ht
theorem Rel.clear(h:Rel B g s a w){t:Nat}{v:V}(hv:s.env[t]?=some v):Rel B g { s with env:=s.env.set t (aW v) } a w:=by
 have ht:t<s.env.length:=(cP.1 hv).1;refine h.lE (b0:=none) (l0:=none) ?_ (dB _) (λ_ _ _=>rfl) (λb x hb hx=>?_) (λb h1 h2=>?_) (λb b' h1 h2=>?_) h.de.mem h.de.eo (λb j e=>by cases e) (by simp) rfl (λt' x hx=>?_) h.bC h.lV h.oB ?_
 ·exact⟨⟨λ_ _ _ e=>e,λ_ _=>rfl,rfl,λ_ _ _ _ e=>e⟩,λ_ _ _ _=>rfl,λ_ _ _=>rfl,λ_ _ _ _=>rfl,dB _,λ_ _ _=>rfl,λl' mU=>(by cases mU),λb hb=>(by cases hb),λ_ _ _ _=>rfl,rfl,rfl,rfl⟩
 ·rcases hb with hb|hb
  ·cases hb
  ·have:=(cP.1 hx).1;simp only at this;omega
 ·simp only at h2;omega
 ·simp only at h2;omega
 ·simp only[tC] at hx;split at hx
  next e=>subst e;simp only[bu] at hx;exact⟨v,hv,.inr hx.symm⟩
  ·exact⟨x,hx,.inl ⟨rfl,λe'=>by cases e'⟩⟩
 ·intro t' e;cases e
structure Gh.Alike(g g':Gh):Prop where
 M:g'.M=g.M
 bO:g'.bO=g.bO
 obj:g'.obj=g.obj
 lk:g'.lk=g.lk
 e_:g'.e_=g.e_
theorem Gh.Alike.refl(g:Gh):Gh.Alike g g:=⟨rfl,rfl,rfl,rfl,rfl⟩
theorem Gh.Alike.le{g g':Gh}(h:Gh.Alike g g')(n:Nat):Gh.Le n g g':=⟨λ_ _ _ e=>by rw[h.M];exact e,λ_ _=>by rw[h.bO],h.obj,λ_ _ _ _ e=>by rw[h.e_];exact e⟩
theorem Gh.Alike.rel{g g':Gh}(h:Gh.Alike g g'){v:V}{cv:bw}(hr:aR g v cv):aR g' v cv:=hr.le (h.le v.top) (dB _)
theorem vH(h:Rel B g s a w){x:aX}{v:V}{cZ:aC}(ht:take s.env x=some (v,cZ))(l:Loc) :
  ∃g',Rel B g' { s with env:=cZ } a w/\aR g' v (a.eval x)/\cN g' s.H.au.length w l v (a.eval x)/\v.top<=s.H.au.length/\Gh.Alike g g':=by
 have plain:∀y,(∀t,y≠.tmp t)->take s.env y=some (v,cZ)->∃g',Rel B g' { s with env:=cZ } a w/\aR g' v (a.eval y)/\cN g' s.H.au.length w l v (a.eval y)/\v.top<=s.H.au.length/\Gh.Alike g g':=by
  intro y hy sw;have hp:ak s.env y=some v/\s.env=cZ:=by
   cases y with
   | tmp t=>exact absurd rfl (hy t)
   | _ =>
    simp only[take,mA,cw] at sw;obtain⟨u,hu,rfl,rfl⟩:=sw;exact⟨hu,rfl⟩
  obtain⟨h1,h2,h3⟩:=zI h hp.1;rw[<- hp.2];exact⟨g,h,h1,h3 _ _,h2,.refl g⟩
 cases x with
 | tmp t =>
  simp only[take,zg,eW] at ht;split at ht<;>simp only[bu,cw,reduceCtorEq] at ht
  ·rename_i sz xs e hy;obtain⟨rfl,rfl⟩:=ht;obtain⟨cv,lf,he⟩:=h.slot hy;obtain⟨h1,h2⟩:=h.env t _ cv hy lf;have h3:=h.dS t _ hy;rw[he];have GQ:fT g s.H.au.length w (.slot B.d t) e sz xs.length cv:=h2;cases GR:cv.ownBlock with
   | none =>
    obtain⟨ys,ho,_⟩:=GQ;exact⟨g,h.clear hy,h1,⟨ys,ho,λc hc=>by rw[GR] at hc;cases hc⟩,h3,.refl g⟩
   | some c =>
    have bR:=GQ.lt c GR;obtain⟨ys,ho,hc⟩:=GQ;obtain⟨c1,c2,c3⟩:=hc c GR;refine⟨_,h.hand hy c c1 bR l,?_,⟨ys,ho,λc' ey=>?_⟩,h3,⟨rfl,rfl,rfl,rfl,rfl⟩⟩
    ·exact Gh.Alike.rel (g:=g) (g':={ g with own:=λx=>if x=c then some l else g.own x }) ⟨rfl,rfl,rfl,rfl,rfl⟩ h1
    ·rw[GR] at ey;cases ey;exact⟨by simp,c2,c3⟩
  next y _ hy=>obtain⟨rfl,rfl⟩:=ht;obtain⟨cv,lf,he⟩:=h.slot hy;obtain⟨h1,h2⟩:=h.env t _ cv hy lf;rw[he];exact⟨g,h,h1.aW,vl _ _ _ _ _ _,by rw[ji];exact h.dS t _ hy,.refl g⟩
 | const c=>exact plain _ (λt=>by simp) ht
 | global k=>exact plain _ (λt=>by simp) ht
 | func f=>exact plain _ (λt=>by simp) ht
structure Ed(B:dY)(g:Gh)(s:St)(a:Act)(w:aP)(dst:fJ)(v:V)(cv:bw):Prop where
 rel:Rel B g s a w
 val:aR g v cv
 own:∀t,dst=some t->cN g s.H.au.length w (.slot B.d t) v cv
 top:v.top<=s.H.au.length
theorem wX{dst:fJ}{v:V}{cv:bw}(h:Ed B g s a w dst v cv):Rel B g { s with env:=aq s.env dst v } (a.put dst cv) w:=by
 cases dst with
 | none=>exact h.rel
 | some t =>
  have hr:=h.rel;refine { de:=hr.de,len:=by simpa[aq,Act.put] using hr.len,env:=?_,dS:=?_,n0:=hr.n0,bC:=hr.bC,dV:=hr.dV,fr:=hr.fr,lV:=hr.lV,oB:=hr.oB,cY:=by simpa[aq] using hr.cY,eK:=hr.eK,defers:=hr.defers,marks:=hr.marks,nM:=hr.nM }
  ·intro t' x u hx hu;simp only[aq,tC] at hx;simp only[Act.put,Array.getElem?_setIfInBounds] at hu
   by_cases e:t=t'
   ·subst e;simp only[aF] at hx hu;split at hx
    ·simp only[bu] at hx;split at hu
     ·simp only[bu] at hu;subst hx;subst hu;exact⟨h.val,h.own t rfl⟩
     ·cases hu
    ·cases hx
   ·simp only[e,bz] at hx hu;exact hr.env t' x u hx hu
  ·intro t' x hx;simp only[aq,tC] at hx
   by_cases e:t=t'
   ·subst e;simp only[aF] at hx;split at hx
    ·simp only[bu] at hx;subst hx;exact h.top
    ·cases hx
   ·simp only[e,bz] at hx;exact hr.dS t' x hx
end
section
variable{P:aQ}{g:Gh}{w:aP}
theorem jx{t:aB}{n:Nat}(h:z8 P t=some n)(w:aP):(sizeOf t).run P w=.ok n w:=by
 simp only[z8,mA] at h;obtain⟨i,hi,rfl⟩:=h;simp[sizeOf,typeInfo,hi]
theorem Th{t:aB}{b:Bool}(h:qC P t=some b)(w:aP):(isAgg t).run P w=.ok b w:=by
 simp only[qC,mA] at h;obtain⟨d,hd,rfl⟩:=h;unfold isAgg;simp only[Sem.run_bind,run_underlying hd,Result.andThen_ok];cases d<;>rfl
structure bN(g:Gh)(cs:aC)(vs:dA):Prop where
 len:cs.length=vs.length
 one:∀(j:Nat)(x:V),cs[j]?=some x->x.one=true
 rel:∀(j:Nat)(x:V)(v:bw),cs[j]?=some x->vs[j]?=some v->aR g x v
theorem bN.get{cs:aC}{vs:dA}(h:bN g cs vs){j:Nat}{x:V}(hx:cs[j]?=some x):∃v,vs[j]?=some v/\aR g x v:=by
 have bR:j<vs.length:=by rw[<- h.len];exact(cP.1 hx).1
 exact⟨vs[j],fQ bR,h.rel j x _ hx (fQ bR)⟩
theorem bN.drop{cs:aC}{vs:dA}(h:bN g cs vs)(k:Nat):bN g (cs.drop k) (vs.drop k) :=
 ⟨by simp[h.len],λj x hx=>h.one (k+j) x (by simpa using hx),λj x v hx hv=>h.rel (k+j) x v (by simpa using hx) (by simpa using hv)⟩
theorem bN.take{cs:aC}{vs:dA}(h:bN g cs vs)(k:Nat):bN g (cs.take k) (vs.take k):=by
 refine⟨by simp[h.len],λj x hx=>?_,λj x v hx hv=>?_⟩
 ·rw[AN] at hx;split at hx
  ·exact h.one j x hx
  ·cases hx
 ·rw[AN] at hx hv;split at hx
  next hj=>rw[if_pos hj] at hv;exact h.rel j x v hx hv
  ·cases hx
theorem bN.agg{cs:aC}{arr:dF}(h:bN g cs arr.toList):aR g (.agg cs) (.agg arr) :=
 .agg (by simpa using h.len) h.one λj x v hx hv=>h.rel j x v hx (by simpa using hv)
theorem vm{cs:aC}{cv:bw}(h:aR g (.agg cs) cv):∃arr,cv=.agg arr/\bN g cs arr.toList:=by
 cases h with
 | agg h1 h2 h3=>exact⟨_,rfl,⟨by simpa using h1,h2,λj x v hx hv=>h3 j x v hx (by simpa using hv)⟩⟩
theorem bN.Ad{cs:aC}{vs:dA}(h:bN g cs vs):bN g (cs.map aW) vs:=by
 refine⟨by simp[h.len],λj x hx=>?_,λj x v hx hv=>?_⟩
 ·simp only[gj,mA] at hx;obtain⟨y,hy,rfl⟩:=hx;exact(VP y).trans (h.one j y hy)
 ·simp only[gj,mA] at hx;obtain⟨y,hy,rfl⟩:=hx;exact(h.rel j y v hy hv).aW
theorem NU{cs:aC}{arr:dF}(h:bN g cs arr.toList){t:aB}{off:Nat}{v:V}(hv:kT P t cs off=some v)(w:aP) :
  ∃cv,(part t arr off).run P w=.ok cv w/\aR g v cv/\v.top<=aI cs/\(∀ys,v=.agg ys->∃vs,cv=.agg vs/\vs=arr.extract off (off+ys.length)):=by
 simp only[kT,Option.bind_eq_bind,eL] at hv;obtain⟨b,hb,hv⟩:=hv;unfold part;simp only[Sem.run_bind,Th hb,Result.andThen_ok];cases b with
 | true =>
  simp only[aF,eL] at hv;obtain⟨n,hn,hv⟩:=hv;split at hv<;>simp only[bu,reduceCtorEq] at hv;rename_i hle;subst hv;simp only[aF,Sem.run_bind,jx hn,Result.andThen_ok,Sem.run_pure];have hl:(List.take n (List.drop off cs)).length=n:=by simp;omega
  refine⟨_,rfl,?_,?_,λys tH=>?_⟩
  ·refine bN.agg ?_;have:=(h.drop off).take n;simpa[List.take_drop] using this
  ·simp only[V.top];exact qq λx hx=>zn (Cv (Cw hx))
  ·cases tH;exact⟨_,rfl,by rw[hl]⟩
 | false =>
  simp only[f_,bz,zg] at hv;obtain⟨cv,lf,hr⟩:=h.get hv;simp only[f_,bz];have:arr[off]?=some cv:=by simpa using lf
  rw[this];refine⟨cv,rfl,hr,zn (zv hv),λys tH=>?_⟩;subst tH;have:=h.one off _ hv;simp[V.one,Cz] at this
theorem VS{cs:aC}{vs:dA}(h:bN g cs vs){c o:Nat}(hc:∀j v,vs[j]?=some v->w.cell? ⟨c,o+j,none⟩=some v){t:aB}{off:Nat}{v:V}(hv:kT P t cs off=some v) :
  ∃cv,(loadVar t ⟨c,o+off,none⟩).run P w=.ok cv w/\aR g v cv/\v.top<=aI cs:=by
 simp only[kT,Option.bind_eq_bind,eL] at hv;obtain⟨b,hb,hv⟩:=hv;unfold loadVar;simp only[Sem.run_bind,Th hb,Result.andThen_ok];cases b with
 | true =>
  simp only[aF,eL] at hv;obtain⟨n,hn,hv⟩:=hv;split at hv<;>simp only[bu,reduceCtorEq] at hv;rename_i hle;subst hv;have hr:=(h.drop off).take n;have hl:((vs.drop off).take n).length=n:=by simp;have:=h.len;omega
  have cj:=run_loadCells_list (P:=P) (w:=w) ⟨c,o+off,none⟩ ((vs.drop off).take n) (λj v hj=>by
   rw[AN] at hj;split at hj
   ·rw[Addr.add_lit];rw[HR] at hj;rw[oO];exact hc _ _ hj
   ·cases hj)
  rw[hl] at cj;simp only[aF,Sem.run_bind,jx hn,Result.andThen_ok,cj,Sem.run_pure];refine⟨_,rfl,bN.agg (by simpa using hr),?_⟩
  simp only[V.top];exact qq λx hx=>zn (Cv (Cw hx))
 | false =>
  simp only[f_,bz,zg] at hv;obtain⟨cv,lf,hr⟩:=h.get hv;refine⟨cv,?_,hr,zn (zv hv)⟩;simp[hc off cv lf]
end
section
variable{P:aQ}{g:Gh}{w:aP}
theorem zk0{op:BinOp}{k:IntKind}{x y:Int}{v:V}(t:aB)(h:j4 op k x y=some v)(w:aP) :
  ∃cv,(binOp op t (.int k x) (.int k y)).run P w=.ok cv w/\aR g v cv/\v.top=0/\∀m l,cN g m w l v cv:=by
 cases op<;>simp only[j4,bu,reduceCtorEq] at h
 case quo =>
  split at h<;>simp only[bu,reduceCtorEq] at h;rename_i hy;subst h;refine⟨.int _ _,?_,.int _ _,rfl,λ_ _=>trivial⟩;simp[binOp,Op.intDiv,hy]
 case rem =>
  split at h<;>simp only[bu,reduceCtorEq] at h;rename_i hy;subst h;refine⟨.int _ _,?_,.int _ _,rfl,λ_ _=>trivial⟩;simp[binOp,Op.intDiv,hy]
 all_goals subst h
 all_goals first
  | (refine⟨.int _ _,?_,.int _ _,rfl,λ_ _=>trivial⟩;simp[binOp,Op.intArith,Op.intBits];done)
  | (refine⟨.bool _,?_,.bool _,rfl,λ_ _=>trivial⟩;simp[binOp,Op.intCmp];done)
theorem zgo{op:BinOp}{k k':IntKind}{x y:Int}{v:V}(h:Lg op k x y=some v)(w:aP) :
  ∃cv,(Op.shift op k x k' y).run P w=.ok cv w/\aR g v cv/\v.top=0/\∀m l,cN g m w l v cv:=by
 simp only[Lg] at h;split at h
 ·cases h
 ·rename_i hy;cases op<;>simp only[bu,reduceCtorEq] at h
  all_goals
   subst h;refine⟨.int _ _,?_,.int _ _,rfl,λ_ _=>trivial⟩;simp[Op.shift,hy]
theorem pM:∀(x y:bL),(∀b:Nat,b∈x->b<256)->(∀b:Nat,b∈y->b<256)->(x.map UInt8.ofNat == y.map UInt8.ofNat)=om x y
 | [],[],_,_=>rfl
 | [],_::_,_,_=>rfl
 | _::_,[],_,_=>rfl
 | a::x,b::y,hx,hy=>by
  have ih:=pM x y (λc hc=>hx c (d_ _ hc)) (λc hc=>hy c (d_ _ hc));have ha:=hx a (eT ..);have hb:=hy b (eT ..);have e:(UInt8.ofNat a == UInt8.ofNat b)=Nat.beq a b:=by
   rw[Fc,beq_iff_eq,Nat.beq_eq];constructor
   ·intro h;have:=congrArg UInt8.toNat h;simpa[UInt8.toNat_ofNat',Fb ha,Fb hb] using this
   ·rintro rfl;rfl
  simp only[a_,om];rw[<- ih,<- e];rfl
theorem Dm:∀(x y:bL),(∀b:Nat,b∈x->b<256)->(∀b:Nat,b∈y->b<256)->Op.bytesLess (x.map UInt8.ofNat) (y.map UInt8.ofNat)=Ld x y
 | [],[],_,_=>rfl
 | [],_::_,_,_=>rfl
 | _::_,[],_,_=>rfl
 | a::x,b::y,hx,hy=>by
  have ih:=Dm x y (λc hc=>hx c (d_ _ hc)) (λc hc=>hy c (d_ _ hc));have ha:=hx a (eT ..);have hb:=hy b (eT ..);have e:(UInt8.ofNat a == UInt8.ofNat b)=Nat.beq a b:=by
   rw[Fc,beq_iff_eq,Nat.beq_eq];constructor
   ·intro h;have:=congrArg UInt8.toNat h;simpa[UInt8.toNat_ofNat',Fb ha,Fb hb] using this
   ·rintro rfl;rfl
  have e2:decide (UInt8.ofNat a<UInt8.ofNat b)=Nat.blt a b:=by
   rw[Fc,decide_eq_true_iff,UInt8.lt_iff_toNat_lt,UInt8.toNat_ofNat',UInt8.toNat_ofNat',Fb ha,Fb hb];simp only[Nat.blt,Nat.ble_eq];exact Nat.lt_iff_add_one_le
  simp only[a_,Op.bytesLess,Ld,ih,e,e2]
theorem vn(x:bL):(bytes x).toList=x.map UInt8.ofNat:=by
 rw[ByteArray.toList_eq];simp[bytes]
theorem kK(x:bL):(bytes x).size=x.length:=by simp[bytes,ByteArray.size]
theorem zfh(x y:bL):bytes x++bytes y=bytes (x++y):=by
 apply ByteArray.ext;simp[bytes,ByteArray.data_append]
theorem zk1{op:BinOp}{x y:bL}{v:V}(t:aB)(hx:∀b:Nat,b∈x->b<256)(hy:∀b:Nat,b∈y->b<256)(h:Ph op x y=some v)(w:aP) :
  ∃cv,(binOp op t (.string (bytes x)) (.string (bytes y))).run P w=.ok cv w/\aR g v cv/\v.top=0/\∀m l,cN g m w l v cv:=by
 have e1:=pM x y hx hy;have e2:=Dm x y hx hy;have e0:(binOp op t (.string (bytes x)) (.string (bytes y)))=Op.stringOp op (bytes x) (bytes y):=by
  cases op<;>rfl
 rw[e0];cases op<;>simp only[Ph,bu,reduceCtorEq] at h
 case add =>
  split at h<;>simp only[bu,reduceCtorEq] at h;rename_i hl;subst h;have hm:IntKind.i64.max=9223372036854775807:=by decide
  refine⟨.string (bytes (x++y)),?_,.str λb hb=>?_,rfl,λ_ _=>trivial⟩
  ·have:¬(((bytes x).size+(bytes y).size:Nat):Int) > IntKind.i64.max:=by rw[hm,kK,kK];omega
   simp only[Op.stringOp,if_neg this,zfh];rfl
  ·rcases oM.1 hb with hb|hb
   ·exact hx b hb
   ·exact hy b hb
 all_goals
  subst h;refine⟨.bool _,?_,.bool _,rfl,λ_ _=>trivial⟩;simp only[Op.stringOp,vn,e1,e2,Sem.run_pure]
def NV(P:aQ)(d:Nat)(e:aB)(n:Nat)(xs ys:dF):bL->Sem Bool
 | []=>pure true
 | i::is=>do
  let a <- part e xs (i * n)
  let b <- part e ys (i * n)
  let r <- Op.equalIn d e a b
  if (!r)=true then pure false else NV P d e n xs ys is
theorem zbr(d:Nat)(t e:aB)(len n:Nat)(xs ys:dF)(ht:P.underlying t=some (.array len e))(hn:z8 P e=some n)(w:aP) :
  (Op.equalIn (d+1) t (.agg xs) (.agg ys)).run P w=(NV P d e n xs ys (List.range' 0 len)).run P w:=by
 simp only[Op.equalIn,Sem.run_bind,run_underlying ht,jx hn,Result.andThen_ok];rw[Std.Legacy.Range.forIn_eq_forIn_range'];simp only[Std.Legacy.Range.size,Nat.sub_zero,Nat.add_sub_cancel,Nat.div_one];generalize List.range' 0 len=is
 induction is generalizing w with
 | nil=>simp[NV]
 | cons f fs ih =>
  simp only[List.forIn_cons,NV,Sem.run_bind,Sem.run_ite];generalize (part e xs (f * n)).run P w=r1;cases r1 with
  | ok a w1 =>
   simp only[Result.andThen_ok];generalize (part e ys (f * n)).run P w1=r2;cases r2 with
   | ok b w2 =>
    simp only[Result.andThen_ok];generalize (Op.equalIn d e a b).run P w2=r3;cases r3 with
    | ok r w3 =>
     cases r
     ·simp only[Result.andThen_ok,oN,aF,Sem.run_pure]
     ·simp only[Result.andThen_ok,mG,f_,bz,Sem.run_pure];exact ih w3
    | halt x w3=>simp[Result.andThen]
   | halt x w2=>simp[Result.andThen]
  | halt x w1=>simp[Result.andThen]
theorem ziU{eq:aB->V->V->Option Bool}{d:Nat}(heq:∀t x y b cx cy,eq t x y=some b->aR g x cx->aR g y cy->(Op.equalIn d t cx cy).run P w=.ok b w){xs ys:aC}{ax ay:dF}
  (hx:bN g xs ax.toList) (hy:bN g ys ay.toList):∀(fs:List Field)(b:Bool),Pg P eq fs xs ys=some b->(Op.eqFields d ax ay fs).run P w=.ok b w
 | [],b,h=>by simp only[Pg,bu] at h;subst h;rfl
 | f::fs,b,h=>by
  simp only[Pg] at h;split at h
  ·cases h
  ·rename_i hf;simp only[Option.bind_eq_bind,eL] at h;obtain⟨u,hu,v,hv,r,hr,h⟩:=h;obtain⟨cu,Fh,NW,_⟩:=NU hx hu w;obtain⟨cv,Fi,GU,_⟩:=NU hy hv w;simp only[Op.eqFields,ne_eq,hf,uI,aF,Sem.run_bind,Fh,Fi,heq _ _ _ _ _ _ hr NW GU,Result.andThen_ok];cases r with
   | true=>simp only[aF] at h;simpa using ziU heq hx hy fs b h
   | false=>simp only[f_,bz,bu] at h;subst h;simp
theorem ziV{eq:aB->V->V->Option Bool}{d:Nat}(heq:∀t x y b cx cy,eq t x y=some b->aR g x cx->aR g y cy->(Op.equalIn d t cx cy).run P w=.ok b w){xs ys:aC}{ax ay:dF}
  (hx:bN g xs ax.toList) (hy:bN g ys ay.toList) (e n:Nat):∀(k i:Nat)(b:Bool),NP P eq e n xs ys i k=some b->(NV P d e n ax ay (List.range' i k)).run P w=.ok b w
 | 0,i,b,h=>by simp only[NP,bu] at h;subst h;rfl
 | k+1,i,b,h=>by
  simp only[NP,Option.bind_eq_bind,eL] at h;obtain⟨u,hu,v,hv,r,hr,h⟩:=h;obtain⟨cu,Fh,NW,_⟩:=NU hx hu w;obtain⟨cv,Fi,GU,_⟩:=NU hy hv w;simp only[List.range'_succ,NV,Sem.run_bind,Fh,Fi,heq _ _ _ _ _ _ hr NW GU,Result.andThen_ok];cases r with
  | true=>simp only[aF] at h;simpa using ziV heq hx hy e n k (i+1) b h
  | false=>simp only[f_,bz,bu] at h;subst h;simp
theorem zpm{D:Nat}{t:aB}{ds:TypeDesc}(hd:P.underlying t=some ds){x y:V}{b:Bool}{cx cy:bw}(h:Lf ds x y=some b)(hx:aR g x cx)(hy:aR g y cy):(Op.equalIn (D+1) t cx cy).run P w=.ok b w:=by
 have hu:=run_underlying hd w;unfold Lf at h;split at h
 ·split at h<;>simp only[bu,reduceCtorEq] at h;subst h;cases hx;cases hy;exact run_equalIn_bool' w D t _ _ hd
 ·split at h<;>try (simp only[reduceCtorEq] at h;done)
  split at h<;>simp only[bu,reduceCtorEq] at h;rename_i e;subst h;subst e;cases hx;cases hy;exact run_equalIn_int w D t _ _ _ _ hd
 ·split at h<;>simp only[bu,reduceCtorEq] at h;subst h;cases hx with
  | str h1=>cases hy with
   | str h2 =>
    rw[run_equalIn_string w D t _ _ hd,vn,vn,pM _ _ h1 h2]
 ·split at h<;>simp only[bu,reduceCtorEq] at h
  all_goals (subst h;cases hx;cases hy;simp[Op.equalIn,hu];done)
 ·split at h<;>try (simp only[reduceCtorEq] at h;done)
  ·simp only[bu] at h;subst h;cases hx;cases hy;simp[Op.equalIn,hu]
  ·simp only[bu] at h;subst h;cases hx;cases hy;simp[Op.equalIn,hu]
  ·simp only[bu] at h;subst h;cases hx;cases hy;simp[Op.equalIn,hu]
  ·split at h<;>simp only[bu,reduceCtorEq] at h;rename_i e;subst h;cases hx;cases hy;simp[Op.equalIn,hu,e]
 ·split at h<;>simp only[bu,reduceCtorEq] at h
  ·subst h;cases hx;cases hy;simp[Op.equalIn,hu]
  ·subst h;cases hx;cases hy with
   | sl f h1 h2 h3=>rw[h3 (by simp)];simp[Op.equalIn,hu]
  ·subst h;cases hy;cases hx with
   | sl f h1 h2 h3=>rw[h3 (by simp)];simp[Op.equalIn,hu]
  ·subst h;cases hx;cases hy;simp[Op.equalIn,hu]
  ·subst h;cases hx;cases hy;simp[Op.equalIn,hu]
 ·split at h<;>simp only[bu,reduceCtorEq] at h
  all_goals (subst h;cases hx;cases hy;simp[Op.equalIn,hu];done)
 ·split at h<;>simp only[bu,reduceCtorEq] at h
  all_goals (subst h;cases hx;cases hy;simp[Op.equalIn,hu];done)
 ·cases h
theorem CD:∀(d D:Nat)(t:aB)(x y:V)(b:Bool)(cx cy:bw),d<=D->Bf P d t x y=some b->aR g x cx->aR g y cy->(Op.equalIn D t cx cy).run P w=.ok b w
 | 0,D,t,x,y,b,cx,cy,_,h,_,_=>by simp[Bf] at h
 | d+1,0,t,x,y,b,cx,cy,hD,h,_,_=>by omega
 | d+1,D+1,t,x,y,b,cx,cy,hD,h,hx,hy=>by
  have ih:=λt x y b cx cy=>CD d D t x y b cx cy (by omega)
  simp only[Bf] at h;split at h
  ·cases h
  ·rename_i ds hd;split at h
   ·obtain⟨ax,rfl,h1⟩:=vm hx;obtain⟨ay,rfl,h2⟩:=vm hy;split at h
    ·rename_i fs;split at h
     ·cases h
     ·rename_i hp;have hf:P.fieldsOf t=fs:=by simp[Program.fieldsOf,hd]
      rw[run_equalIn_struct w D t ax ay (by rw[hf];exact hd) (by simpa using hp),hf]
      exact ziU ih h1 h2 _ _ h
    ·split at h
     next n hn=>rw[zbr D t _ _ n ax ay hd hn];exact ziV ih h1 h2 _ _ _ _ _ h
     ·cases h
    ·cases h
   ·exact zpm hd h hx hy
theorem zk2{op:BinOp}{t:aB}{x y:V}{cx cy:bw}{ox oy:aX}(hg:jv P op t ox oy x y=true)(hx:aR g x cx)(hy:aR g y cy)(w:aP):(eqGuard op t ox oy cx cy).run P w=.ok () w:=by
 have key:(op=.eql\/op=.neq)->(eqGuard op t ox oy cx cy).run P w=.ok () w:=by
  intro ho;have NX:v8 P t ox oy x y=true:=by rcases ho with rfl|rfl<;>exact hg
  by_cases ha:∃xs ys,cx=.agg xs/\cy=.agg ys
  ·obtain⟨xs,ys,rfl,rfl⟩:=ha;refine run_eqGuard_agg w op t ox oy xs ys ?_;cases hx<;>cases hy<;>first|(simp[v8] at NX;done)|(simpa[v8] using NX)
  ·by_cases hn:cx=.nilIface/\cy=.nilIface
   ·obtain⟨rfl,rfl⟩:=hn;have hc:isConst ox=true\/isConst oy=true:=by
     cases hx<;>cases hy<;>first|(simp[v8] at NX;done)|(simpa[v8] using NX)
    rcases ho with rfl|rfl<;>rcases hc with hc|hc<;>(cases ox<;>cases oy<;>simp[isConst] at hc<;>simp[eqGuard])
   ·rcases ho with rfl|rfl
    all_goals
     cases cx<;>cases cy<;>first
      |rfl
      |exact absurd ⟨rfl,rfl⟩ hn
      |exact absurd ⟨_,_,rfl,rfl⟩ ha
 cases op<;>first
  |exact key (.inl rfl)
  |exact key (.inr rfl)
  |simp[eqGuard]
theorem ziW{d:Nat}{t:aB}{k:IntKind}{n:Int}{y:V}{b:Bool}(h:Bf P d t (.int k n) y=some b):∃k' m,y=.int k' m:=by
 cases d with
 | zero=>simp[Bf] at h
 | succ d =>
  simp only[Bf] at h;split at h
  ·cases h
  next ds _=>cases ds<;>cases y<;>simp[Lf] at h;exact⟨_,_,rfl⟩
theorem ziX{d:Nat}{t:aB}{s:bL}{y:V}{b:Bool}(h:Bf P d t (.str s) y=some b):∃s',y=.str s':=by
 cases d with
 | zero=>simp[Bf] at h
 | succ d =>
  simp only[Bf] at h;split at h
  ·cases h
  next ds _=>cases ds<;>cases y<;>simp[Lf] at h;exact⟨_,rfl⟩
theorem zgp{d:Nat}{t:aB}{y:V}{b:Bool}(h:Bf P d t .ee y=some b):False:=by
 cases d with
 | zero=>simp[Bf] at h
 | succ d =>
  simp only[Bf] at h;split at h
  ·cases h
  next ds _=>cases ds<;>simp[Lf] at h
theorem znn{op:BinOp}{t:aB}{x y:V}{v:V}{cx cy:bw}(h:w9 P op t x y=some v)(hx:aR g x cx)(hy:aR g y cy)(w:aP) :
  ∃cv,(binOp op t cx cy).run P w=.ok cv w/\aR g v cv/\v.top=0/\∀m l,cN g m w l v cv:=by
 unfold w9 at h;split at h
 next k1 a1 k2 b1=>cases hx;cases hy;exact zgo (k':=k2) h w
 next k1 a1 k2 b1=>cases hx;cases hy;exact zgo (k':=k2) h w
 ·split at h
  next e=>subst e;cases hx;cases hy;exact zk0 t h w
  ·cases h
 ·cases hx with
  | str h1=>cases hy with
   | str h2=>exact zk1 t h1 h2 h w
 ·rename_i n1 n2;simp only[mA] at h;obtain⟨b,hb,rfl⟩:=h;have e:binOp .eql t cx cy=(do pure (.bool (<- Op.equal t cx cy))):=by
   cases hx<;>first
    |rfl
    |(obtain⟨k',m,rfl⟩:=ziW hb;exact absurd rfl (n1 _ _ _ _ rfl))
    |(obtain⟨s',rfl⟩:=ziX hb;exact absurd rfl (n2 _ _ rfl))
    |exact(zgp hb).elim
  rw[e];refine⟨.bool b,?_,.bool b,rfl,λ_ _=>trivial⟩;simp only[Sem.run_bind,Op.equal,CD 100 Op.maxDepth t _ _ b cx cy (by decide) hb hx hy,Result.andThen_ok,Sem.run_pure]
 ·rename_i n1 n2;simp only[mA] at h;obtain⟨b,hb,rfl⟩:=h;have e:binOp .neq t cx cy=(do pure (.bool (!(<- Op.equal t cx cy)))):=by
   cases hx<;>first
    |rfl
    |(obtain⟨k',m,rfl⟩:=ziW hb;exact absurd rfl (n1 _ _ _ _ rfl))
    |(obtain⟨s',rfl⟩:=ziX hb;exact absurd rfl (n2 _ _ rfl))
    |exact(zgp hb).elim
  rw[e];refine⟨.bool (!b),?_,.bool _,rfl,λ_ _=>trivial⟩;simp only[Sem.run_bind,Op.equal,CD 100 Op.maxDepth t _ _ b cx cy (by decide) hb hx hy,Result.andThen_ok,Sem.run_pure]
 ·cases h
end
section
variable{P:aQ}{B:dY}{g:Gh}{s:St}{a:Act}{w:aP}
def Ls(P:aQ)(g:Gh)(n:Nat)(w:aP)(m:Sem bw)(v:V):Prop:=∃cv,m.run P w=.ok cv w/\aR g v cv/\v.top<=n/\∀k l,cN g k w l v cv
theorem ziY{n:Nat}{l:Loc}{v:V}{cv:bw}(h:∀sz xs e,v≠.sl sz xs (.yes e)):cN g n w l v cv:=by
 cases v with
 | sl sz xs o=>cases o with
  | yes e=>exact absurd rfl (h sz xs e)
  | _=>trivial
 | _=>trivial
def GV(g:Gh):bY->Option bw->Prop
 | none,none=>True
 | some x,some v=>aR g x v
 | _,_=>False
theorem VT{isSlice:Bool}{len cap:Nat}{lo hi:bY}{sK EM:Option bw}{l h:Nat}(iB:GV g lo sK)(AQ:GV g hi EM)(h1:ke hi len=some h)(h2:ke lo 0=some l)
  (hl:l<=h) (hh:h<=cap) (w:aP):(Instr.sliceBounds isSlice len cap sK EM none).run P w=.ok (l,h,cap) w:=by
 have e1:∀code,(match EM with|some v=>Instr.sliceBound v cap code|none=>pure len:Sem Nat).run P w=.ok h w:=by
  intro code;cases EM with
  | none=>cases hi with
   | none=>simp only[ke,bu] at h1;simp[h1]
   | some _=>exact AQ.elim
  | some cv=>cases hi with
   | none=>exact AQ.elim
   | some x =>
    simp only[ke] at h1;split at h1<;>first|(rename_i e;simp at e;done)|skip
    ·rename_i k m e;simp only[bu] at e;subst e;split at h1<;>simp only[bu,reduceCtorEq] at h1;rename_i hm;have hr:aR g (.int k m) cv:=AQ;cases hr;have:0<=m/\m<=(cap:Int):=⟨hm,by omega⟩
     simp[Instr.sliceBound,asIntOf,this,h1]
    ·cases h1
 have e2:∀code,(match sK with|some v=>Instr.sliceBound v h code|none=>pure 0:Sem Nat).run P w=.ok l w:=by
  intro code;cases sK with
  | none=>cases lo with
   | none=>simp only[ke,bu] at h2;simp[h2]
   | some _=>exact iB.elim
  | some cv=>cases lo with
   | none=>exact iB.elim
   | some x =>
    simp only[ke] at h2;split at h2<;>first|(rename_i e;simp at e;done)|skip
    ·rename_i k m e;simp only[bu] at e;subst e;split at h2<;>simp only[bu,reduceCtorEq] at h2;rename_i hm;have hr:aR g (.int k m) cv:=iB;cases hr;have:0<=m/\m<=(h:Int):=⟨hm,by omega⟩
     simp[Instr.sliceBound,asIntOf,this,h2]
    ·cases h2
 unfold Instr.sliceBounds;cases EM with
 | none =>
  have Ia:=e1 .sliceAcap;simp only[Sem.run_pure,Result.ok.injEq,Ce] at Ia;cases sK with
  | none=>have Fj:=e2 .sliceB;simp only[Sem.run_pure,Result.ok.injEq,Ce] at Fj;simp[Ia,Fj]
  | some cv=>have Fj:=e2 .sliceB;simp only at Fj;simp[Ia,Fj]
 | some cu =>
  have Ia:=e1 (if isSlice then .sliceAcap else .sliceAlen)
  simp only at Ia;cases sK with
  | none=>have Fj:=e2 .sliceB;simp only[Sem.run_pure,Result.ok.injEq,Ce] at Fj;simp[Ia,Fj]
  | some cv=>have Fj:=e2 .sliceB;simp only at Fj;simp[Ia,Fj]
theorem xf{isSlice:Bool}{len cap:Nat}{lo hi:bY}{sK EM:Option bw}{l h:Nat}(iB:GV g lo sK)(AQ:GV g hi EM)(h1:ke hi len=some h)(h2:ke lo 0=some l)
  (hl:l<=h) (hh:h<=len) (hc:len<=cap) (w:aP):(Instr.sliceBounds isSlice len cap sK EM none).run P w=.ok (l,h,cap) w:=VT iB AQ h1 h2 hl (cU hh hc) w
theorem zpn{lo:bY}{sK:Option bw}{l h:Nat}(iB:GV g lo sK)(h2:ke lo 0=some l)(hl:l<=h)(w:aP)(code:BoundsCode):(match sK with|some v=>Instr.sliceBound v h code|none=>pure 0:Sem Nat).run P w=.ok l w:=by
 cases sK with
 | none=>cases lo with
  | none=>simp only[ke,bu] at h2;simp[h2]
  | some _=>exact iB.elim
 | some cv=>cases lo with
  | none=>exact iB.elim
  | some x =>
   simp only[ke] at h2;split at h2<;>first|(rename_i e;simp at e;done)|skip
   ·rename_i k m e;simp only[bu] at e;subst e;split at h2<;>simp only[bu,reduceCtorEq] at h2;rename_i hm;have hr:aR g (.int k m) cv:=iB;cases hr;have:0<=m/\m<=(h:Int):=⟨hm,by omega⟩
    simp[Instr.sliceBound,asIntOf,this,h2]
   ·cases h2
theorem zhV{isSlice:Bool}{len cap:Nat}{lo:bY}{sK:Option bw}{k k':IntKind}{l:Nat}{h m:Int}(iB:GV g lo sK)(h2:ke lo 0=some l)(h0:0<=h)(hl:l<=h.toNat)(hm:h<=m)(hc:m<=cap)(w:aP) :
  (Instr.sliceBounds isSlice len cap sK (some (.int k h)) (some (.int k' m))).run P w=.ok (l,h.toNat,m.toNat) w:=by
 have a1:0<=m/\m<=(cap:Int):=⟨by omega,hc⟩
 have a2:0<=h/\h<=(m.toNat:Int):=⟨h0,by omega⟩
 have e2:=zpn (P:=P) iB h2 hl w .slice3C;have r:∀(kk:IntKind)(i:Int)(y:Nat)(code:BoundsCode),0<=i->i<=(y:Int)->(Instr.sliceBound (.int kk i) y code).run P w=.ok i.toNat w:=λkk i y code h1 h2=>by
  have:0<=i/\i<=(y:Int):=⟨h1,h2⟩;simp[Instr.sliceBound,asIntOf,this]
 unfold Instr.sliceBounds;cases sK with
 | none=>simp only[Sem.run_pure,Result.ok.injEq,Ce] at e2;simp[r _ _ _ _ a1.1 a1.2,r _ _ _ _ a2.1 a2.2,e2]
 | some cv=>simp only at e2;simp[r _ _ _ _ a1.1 a1.2,r _ _ _ _ a2.1 a2.2,e2]
theorem zes(x:bL)(l h:Nat):(bytes x).extract l h=bytes ((x.take h).drop l):=by
 apply ByteArray.ext;simp[bytes,ByteArray.data_extract,List.extract,<- List.map_take,<- List.map_drop,List.drop_take]
theorem zpo{op:UnOp}{x v:V}{cx:bw}(h:iI op x=some v)(hx:aR g x cx)(n:Nat)(w:aP):Ls P g n w (Op.unary op cx) v:=by
 unfold iI at h;split at h
 ·simp only[bu] at h;subst h;cases hx;exact⟨.int _ _,by simp[Op.unary,Op.intArith],.int _ _,dU _,λ_ _=>trivial⟩
 ·simp only[j4,bu] at h;subst h;cases hx;exact⟨.int _ _,by simp[Op.unary,Op.intBits],.int _ _,dU _,λ_ _=>trivial⟩
 ·simp only[bu] at h;subst h;cases hx;exact⟨.bool _,by simp[Op.unary],.bool _,dU _,λ_ _=>trivial⟩
 ·cases h
theorem vI{t:aB}{f:Nat}{fs:Array Field}{fd:Field}{sz:Nat}(ht:P.underlying t=some (.struct fs))(hf:fs[f]?=some fd)(hs:z8 P fd.type=some sz)(h0:Nat.beq sz 0=false)(c o:Nat)(w:aP) :
  (Instr.fieldAt t (.pointer (some ⟨c,o,none⟩)) f).run P w=.ok (.pointer (some ⟨c,o+fd.offset,none⟩)) w:=by
 have:sz≠0:=by intro e;subst e;simp at h0
 unfold Instr.fieldAt;simp[run_underlying ht,hf,Instr.sureAddr,fieldPlace,jx hs,this,Addr.add_lit]
theorem aR.Dn{cs:aC}{c o:Nat}(h:aR g (.vp cs) (.pointer (some ⟨c,o,none⟩)))(k:Nat):aR g (.vp (cs.drop k)) (.pointer (some ⟨c,o+k,none⟩)):=by
 cases h with
 | vp f h1 h2 h3 =>
  refine .vp (λj=>f (k+j)) (λj x hx=>h1 (k+j) x (by simpa using hx)) (λj x hx=>?_) (λj x hx=>h3 (k+j) x (by simpa using hx))
  rw[oO];exact h2 (k+j) x (by simpa using hx)
theorem zeE(cs:aC)(k:Nat):aI (cs.drop k)<=aI cs:=qq λ_ hx=>zn (Cv hx)
theorem Ti{sz:Nat}:∀{xs:aC}{i:Nat}{x:V},(∀y:V,y∈xs->y.cells.length=sz)->xs[i]?=some x->∀j y,x.cells[j]?=some y->(zw xs)[i * sz+j]?=some y
 | [],i,x,_,h,_,_,_=>by simp at h
 | z::xs,0,x,hs,h,j,y,hy=>by
  simp at h;subst h;simp only[zw,D3,Nat.zero_mul,nI];rw[fI (cP.1 hy).1];exact hy
 | z::xs,i+1,x,hs,h,j,y,hy=>by
  have hz:=hs z (eT ..);simp only[zw,D3];rw[eM (by rw[hz,t_];omega),hz]
  have:=Ti (xs:=xs) (i:=i) (λy hy=>hs y (d_ _ hy)) (by simpa using h) j y hy
  have e:(i+1) * sz+j - sz=i * sz+j:=by rw[t_];omega
  rw[e];exact this
theorem aR.elem{sz:Nat}{xs:aC}{ow:tG}{c o len cap:Nat}(h:aR g (.sl sz xs ow) (.slice (some ⟨c,o,none⟩) len cap)){i:Nat}{x:V}(hx:xs[i]?=some x) :
  aR g (.vp x.cells) (.pointer (some ⟨c,o+i * sz,none⟩)):=by
 cases h with
 | sl f h1 h2 h3 h4 h5 h6 =>
  have b_:xs≠[]:=by rintro rfl;simp at hx
  have he:=h3 b_;cases he;refine .vp (λj=>f (i * sz+j)) (λj y hy=>h4 _ _ (Ti h1 hx j y hy)) (λj y hy=>?_) (λj y hy=>h6 _ _ (Ti h1 hx j y hy));rw[oO];exact h5 _ _ (Ti h1 hx j y hy)
theorem aR.Dp{sz:Nat}{xs:aC}{ow:tG}{cv:bw}(h:aR g (.sl sz xs ow) cv):∃ad cap,cv=.slice ad xs.length cap/\xs.length<=cap/\(xs≠[]->∃c o,ad=some ⟨c,o,none⟩):=by
 cases h with
 | sl f h1 h2 h3=>exact⟨_,_,rfl,h2,λb_=>⟨_,_,h3 b_⟩⟩
theorem yY{t e:aB}{c o len cap sz:Nat}{k:IntKind}{i:Int}(ht:P.underlying t=some (.slice e))(hs:z8 P e=some sz)(h0:0<=i)(hi:i<len)(w:aP) :
  (Instr.indexAt t (.slice (some ⟨c,o,none⟩) len cap) (.int k i)).run P w=.ok (.pointer (some ⟨c,o+i.toNat * sz,none⟩)) w:=by
 unfold Instr.indexAt;simp[asIntOf,run_underlying ht,h0,hi,jx hs,Addr.add_lit]
theorem yf{t e:aB}{c o n sz:Nat}{k:IntKind}{i:Int}(ht:P.underlying t=some (.array n e))(hs:z8 P e=some sz)(h0:0<=i)(hi:i<n)(w:aP) :
  (Instr.indexAt t (.pointer (some ⟨c,o,none⟩)) (.int k i)).run P w=.ok (.pointer (some ⟨c,o+i.toNat * sz,none⟩)) w:=by
 unfold Instr.indexAt;simp[asIntOf,run_underlying ht,h0,hi,jx hs,Addr.add_lit,Instr.sureAddr]
theorem qK{sz:Nat}:∀{xs:aC},(∀y:V,y∈xs->y.cells.length=sz)->(zw xs).length=xs.length * sz
 | [],_=>by simp[zw]
 | z::xs,hs=>by
  have:=qK (xs:=xs) λy hy=>hs y (d_ _ hy);simp only[zw,D3,aV,aZ,hs z (eT ..)] at *;rw[this,t_];omega
theorem xV(xs ys:aC):zw (xs++ys)=zw xs++zw ys:=by simp[zw]
theorem yx{sz:Nat}{xs:aC}(hs:∀y:V,y∈xs->y.cells.length=sz){b c j:Nat}{y:V}(h:(zw ((xs.take b).drop c))[j]?=some y):(zw xs)[c * sz+j]?=some y:=by
 have h1:(zw (xs.take b))[c * sz+j]?=some y:=by
  have hc:c<=(xs.take b).length:=by
   rcases eI (xs.take b).length c with bR|Aa
   ·rw[List.drop_eq_nil_of_le (by omega)] at h;simp[zw] at h
   ·exact Aa
  have e:zw (xs.take b)=zw ((xs.take b).take c)++zw ((xs.take b).drop c):=by rw[<- xV,Cu]
  have hl:(zw ((xs.take b).take c)).length=c * sz:=by
   rw[qK λy hy=>hs y (Cw (Cw hy)),uJ,Nat.min_eq_left hc]
  rw[e,eM (by omega),hl,E8]
  exact h
 have e:zw xs=zw (xs.take b)++zw (xs.drop b):=by rw[<- xV,Cu]
 rw[e,fI (cP.1 h1).1];exact h1
theorem zeF{t:aB}{x v:V}{lo hi:bY}{cx:bw}{sK EM:Option bw}{n:Nat}(h:yX P t x lo hi=some v)(hx:aR g x cx)(iB:GV g lo sK)(AQ:GV g hi EM)(ht:x.top<=n)(w:aP) :
  Ls P g n w (Instr.sliceAt t cx sK EM none) v:=by
 simp only[yX,Option.bind_eq_bind,eL] at h;obtain⟨ds,hd,h⟩:=h;have hu:=run_underlying hd w;split at h
 ·rename_i l;simp only[eL] at h;obtain⟨b,hb,c,hc,h⟩:=h;split at h<;>simp only[bu,reduceCtorEq] at h;rename_i hle;subst h;cases hx with
  | str h1 =>
   refine⟨.string (bytes ((l.take b).drop c)),?_,.str λy hy=>h1 y (Cw (Cv hy)),dU _,λ_ _=>trivial⟩;have dg:=xf (P:=P) (isSlice:=false) iB AQ hb hc hle.1 hle.2 (dB _) w;rw[<- kK l] at dg;simp[Instr.sliceAt,hu,Instr.slice,dg,zes]
 ·rename_i e sz xs ow;simp only[eL] at h;obtain⟨b,hb,c,hc,m,hm,h⟩:=h;split at h<;>simp only[bu,reduceCtorEq] at h;rename_i hle;obtain⟨Ib,Lt,rfl⟩:=hle;subst h;cases hx with
  | sl f h1 h2 h3 h4 h5 h6 =>
   rename_i ad cap cb o;have dg:=xf (P:=P) (isSlice:=true) iB AQ hb hc Ib Lt h2 w;have hlen:((xs.take b).drop c).length=b - c:=by simp;omega
   have b_:(xs.take b).drop c≠[]->xs≠[]:=by rintro h rfl;simp at h
   refine⟨.slice (if cap=c then ad else ad.map (·.add (c * m))) (b - c) (cap - c),?_,?_,?_,λ_ _=>trivial⟩
   ·simp[Instr.sliceAt,hu,Instr.slice,dg,jx hm]
   ·rw[<- hlen];refine .sl (c:=cb) (o:=o+c * m) (λj=>f (c * m+j)) (λy hy=>h1 y (Cw (Cv hy))) (by rw[hlen];omega) (λhn=>?_) (λj x hx=>h4 _ x (yx h1 hx)) (λj x hx=>?_) (λj x hx=>h6 _ x (yx h1 hx))
    ·have:0<b - c:=by rw[<- hlen];exact K_.2 hn
     rw[if_neg (by omega),h3 (b_ hn)]
     simp[Addr.add_lit]
    ·rw[oO];exact h5 _ x (yx h1 hx)
   ·exact cU (qq λy hy=>zn (Cw (Cv hy))) ht
 next e=>simp only[eL] at h;obtain⟨b,hb,c,hc,m,hm,h⟩:=h;split at h<;>simp only[bu,reduceCtorEq] at h;rename_i hle;obtain⟨rfl,rfl⟩:=hle;subst h;cases hx;have dg:=xf (P:=P) (isSlice:=true) iB AQ hb hc (dB _) (dB _) (dB _) w;exact⟨.slice none 0 0,by simp[Instr.sliceAt,hu,Instr.slice,dg,jx hm],.aG,dU _,λ_ _=>trivial⟩
 ·rename_i e bb off len cap;simp only[eL] at h;obtain⟨b,hb,c,hc,m,hm,h⟩:=h;cases hx with
  | sr nw =>
   split at h
   ·rename_i hle;simp only[bu] at h;subst h;have dg:=VT (P:=P) (isSlice:=true) iB AQ hb hc hle.1 hle.2.1 w;refine⟨.slice (some ⟨g.bO bb,off+c * m,none⟩) (b - c) (cap - c),?_,.sr (by omega),ht,λ_ _=>trivial⟩
    have:¬cap=c:=by omega
    simp[Instr.sliceAt,hu,Instr.slice,dg,jx hm,this,Addr.add_lit]
   ·split at h<;>simp only[bu,reduceCtorEq] at h;rename_i hle;obtain⟨rfl,hle⟩:=hle;subst h;have dg:=VT (P:=P) (isSlice:=true) iB AQ hb hc (dB _) hle w;refine⟨_,by simp only[Instr.sliceAt,hu,Instr.slice,dg,jx hm,Sem.run_bind,Result.andThen_ok,Sem.run_pure];rfl,?_,dU _,λ_ _=>trivial⟩
    rw[Bb];exact .sl (c:=0) (o:=0) (λ_=>.nilFunc) (λy hy=>by simp at hy) (dU _) (λhn=>absurd rfl hn) (λj x hx=>by simp[zw] at hx) (λj x hx=>by simp[zw] at hx) (λj x hx=>by simp[zw] at hx)
 ·cases h
theorem zj3{t:aB}{sz:Nat}{xs:aC}{ow:tG}{v:V}{lo:bY}{cx:bw}{sK:Option bw}{kh km:IntKind}{hh m:Int}{n:Nat}(h:yX P t (.sl sz xs ow) lo (some (.int kh hh))=some v)(hx:aR g (.sl sz xs ow) cx)(iB:GV g lo sK)(hm:hh<=m)(gE:m<=xs.length)
  (ht:(V.sl sz xs ow).top<=n) (w:aP):Ls P g n w (Instr.sliceAt t cx sK (some (.int kh hh)) (some (.int km m))) v:=by
 simp only[yX,Option.bind_eq_bind,eL] at h;obtain⟨ds,hd,h⟩:=h;have hu:=run_underlying hd w;cases ds<;>simp only[reduceCtorEq] at h;simp only[eL] at h;obtain⟨b,hb,c,hc,m',Pp,h⟩:=h;split at h<;>simp only[bu,reduceCtorEq] at h;rename_i hle;obtain⟨Ib,Lt,rfl⟩:=hle;subst h;simp only[ke] at hb;split at hb<;>simp only[bu,reduceCtorEq] at hb;rename_i h0;subst hb;cases hx with
 | sl f h1 h2 h3 h4 h5 h6 =>
  rename_i ad cap cb o;have dg:=zhV (P:=P) (isSlice:=true) (len:=xs.length) (cap:=cap) (k:=kh) (k':=km) iB hc h0 Ib hm (by omega) w
  have hlen:((xs.take hh.toNat).drop c).length=hh.toNat - c:=by simp;omega
  have b_:(xs.take hh.toNat).drop c≠[]->xs≠[]:=by rintro h rfl;simp at h
  refine⟨.slice (if m.toNat=c then ad else ad.map (·.add (c * m'))) (hh.toNat - c) (m.toNat - c),?_,?_,?_,λ_ _=>trivial⟩
  ·simp[Instr.sliceAt,hu,Instr.slice,dg,jx Pp]
  ·rw[<- hlen];refine .sl (c:=cb) (o:=o+c * m') (λj=>f (c * m'+j)) (λy hy=>h1 y (Cw (Cv hy))) (by rw[hlen];omega) (λhn=>?_) (λj x hx=>h4 _ x (yx h1 hx)) (λj x hx=>?_) (λj x hx=>h6 _ x (yx h1 hx))
   ·have:0<hh.toNat - c:=by rw[<- hlen];exact K_.2 hn
    rw[if_neg (by omega),h3 (b_ hn)]
    simp[Addr.add_lit]
   ·rw[oO];exact h5 _ x (yx h1 hx)
  ·exact cU (qq λy hy=>zn (Cw (Cv hy))) ht
end
section
variable{P:aQ}{B:dY}{g:Gh}{s:St}{a:Act}{w:aP}
def gF(_P:aQ)(gl:Nat->Nat->bY)(g:Gh):Prop:=(∀k off v,gl k off=some v->∃cv,g.M k off=some cv/\aR g v cv/\v.top=0) /\
 ∀k U j,gl k 0=some (.ec U (.obj j))->g.obj.lo (g.obj j).block/\∀k' U' j',gl k' 0=some (.ec U' (.obj j'))->g.obj j=g.obj j'->j=j'
theorem gF.le{gl:Nat->Nat->bY}{n:Nat}{g g':Gh}(hg:Gh.Le n g g')(h:gF P gl g):gF P gl g':=by
 refine⟨λk off v hv=>?_,λk U j hv=>?_⟩
 ·obtain⟨cv,h1,h2,h3⟩:=h.1 k off v hv;exact⟨cv,hg.M _ _ _ h1,h2.le hg (by omega),h3⟩
 ·rw[hg.obj];exact h.2 k U j hv
theorem vP(v:V):∀sz xs e,aW v≠.sl sz xs (.yes e):=by
 intro sz xs e;cases v<;>simp[aW]
theorem xg(h:Rel B g s a w){b:Nat}{cs:aC}{t:aB}(hb:s.H.get b=some (.cells cs t)) :
  ∃arr,w.heap[g.bO b]?=some (.cells arr t (0,0))/\bN g cs arr.toList/\aI cs<=s.H.au.length/\(∀(j:Nat)(x:V)(v:bw),cs[j]?=some x->arr[j]?=some v->cN g s.H.au.length w (.cell b j) x v/\Pm g b j x v):=by
 simp only[Hp.get,zg] at hb;obtain⟨arr,h1,h2,h3⟩:=h.de.ok b _ hb;have ht:=h.de.aI b _ hb;refine⟨arr,h1,⟨by simpa using h2,λj x hx=>?_,λj x v hx hv=>(h3 j x v hx (by simpa using hv)).2.1⟩,ht,λj x v hx hv=>(h3 j x v hx hv).2.2⟩
 have hj:j<arr.size:=by rw[<- h2];exact(cP.1 hx).1
 exact(h3 j x arr[j] hx (EJ hj)).1
theorem zk3{w:aP}{e:aB}{sz c len cap:Nat}{vs:dA}(h:w.ownsRow 0 e sz (.slice (some ⟨c,0,none⟩) len cap) len vs){j:Nat}{v:bw}(hj:vs[j]?=some v):w.cell? ⟨c,j,none⟩=some v:=by
 obtain⟨_,h|⟨c',oR,cur,hv,_,hb,_,_,_,hx⟩⟩:=h
 ·cases h.1
 ·cases hv;refine(cell_of_row w c j cur e (0,0) hb).trans ?_;rw[<- hx,AN] at hj;split at hj
  ·simpa using hj
  ·cases hj
theorem Tj(h:Rel B g s a w){b eO sz:Nat}{cs:aC}{e:aB}(hb:s.H.get b=some (.ul eO sz cs e)) :
  ∃c len cap vs,HY g s.H.au.length w b eO sz cs e c len cap vs/\bN g cs vs/\aI cs<=s.H.au.length:=by
 simp only[Hp.get,zg] at hb;obtain⟨c,len,cap,vs,hu⟩:=h.de.ok b _ hb;have ht:=h.de.aI b _ hb;refine⟨c,len,cap,vs,hu,⟨hu.len,λj x hx=>?_,λj x v hx hv=>(hu.cells j x v hx hv).2⟩,ht⟩;have hj:j<vs.length:=by rw[<- hu.len];exact(cP.1 hx).1
 exact(hu.cells j x vs[j] hx (fQ hj)).1
theorem zgq(h:Rel B g s a w){gl:Nat->Nat->bY}(rm:gF P gl g){t:aB}{p v:V}{cp:bw}(hp:aR g p cp)(hpt:p.top<=s.H.au.length)(hv:zl P s.H gl t p=some v) :
  ∃cv,(Instr.loadAt t cp).run P w=.ok cv w/\aR g v cv/\v.top<=s.H.au.length:=by
 simp only[zl] at hv;split at hv
 ·rename_i b off;simp only[Option.bind_eq_bind,eL] at hv;obtain⟨x,hx,hv⟩:=hv;split at hv<;>try (cases hv;done)
  rename_i cs ty;obtain⟨arr,h1,h2,h3,_⟩:=xg h hx;cases hp;obtain⟨cv,c1,c2,c3⟩:=VS (P:=P) (w:=w) h2 (c:=g.bO b) (o:=0) (λj v hj=>by rw[nI,cell_of_row w _ j arr ty (0,0) h1];simpa using hj) hv
  rw[nI] at c1;exact⟨cv,by simpa[Instr.loadAt,Instr.sureAddr] using c1,c2,cU c3 h3⟩
 ·rename_i cs;cases hp with
  | vp f h1 h2 h3 =>
   rename_i c o
   have ek:bN g cs ((List.range cs.length).map f):=⟨by simp,h1,λj x v hx hv=>by
    have hj:=(cP.1 hx).1;simp[hj] at hv;subst hv
    exact h3 j x hx⟩
   obtain⟨cv,c1,c2,c3⟩:=VS (P:=P) (w:=w) ek (c:=c) (o:=o) (λj v hj=>by
    have pN:j<cs.length:=by have:=(cP.1 hj).1;simpa using this
    have hx:cs[j]?=some cs[j]:=fQ pN;have e:f j=v:=by simpa[pN] using hj
    rw[<- e]
    exact h.de.mem _ _ _ (h2 j _ hx)) hv
   rw[nC] at c1;exact⟨cv,by simpa[Instr.loadAt,Instr.sureAddr] using c1,c2,cU c3 (by simpa[V.top] using hpt)⟩
 ·rename_i b u k;simp only[Option.bind_eq_bind,eL] at hv;obtain⟨x,hx,hv⟩:=hv;split at hv<;>try (cases hv;done)
  rename_i eO sz cs e;split at hv
  ·rename_i VU;have:=eR VU;subst this;obtain⟨c,len,cap,vs,hu,h2,h3⟩:=Tj h hx;cases hp with
   | gm k hh =>
    rw[hu.e_] at hh;cases hh;obtain⟨cv,c1,c2,c3⟩:=VS (P:=P) (w:=w) h2 (c:=c) (o:=0) (λj v hj=>by rw[nI];exact zk3 hu.row hj) hv
    exact⟨cv,by simpa[Instr.loadAt,Instr.sureAddr] using c1,c2,cU c3 h3⟩
  ·cases hv
 ·rename_i k off;simp only[Option.bind_eq_bind,eL] at hv;obtain⟨b,hb,hv⟩:=hv;split at hv
  ·cases hv
  ·rename_i dg;obtain⟨cv,c1,c2,c3⟩:=rm.1 k off v hv;cases hp;refine⟨cv,?_,c2,by omega⟩
   have hbf:b=false:=by simpa using dg
   subst hbf;simp[Instr.loadAt,Instr.sureAddr,loadVar,Th hb,h.de.mem _ _ _ c1]
 ·cases hv
theorem zj4(l:bL)(i:Nat):(bytes l)[i]?=(l[i]?).map UInt8.ofNat:=by
 by_cases hi:i<l.length
 ·have h1:i<(bytes l).size:=by rw[kK];exact hi
  rw[getElem?_pos (bytes l) i h1,fQ hi];simp only[aS,bu];show(bytes l).data[i]=_;simp[bytes]
 ·rw[getElem?_neg (bytes l) i (by rw[kK];exact hi),uF (by omega)]
  rfl
theorem zfi{t:aB}{l:bL}{k:IntKind}{i:Int}{b:Nat}(ht:P.underlying t=some .string)(hl:∀c:Nat,c∈l->c<256)(h0:¬i<0)(hb:l[i.toNat]?=some b)(w:aP) :
  (Instr.index t (.string (bytes l)) (.int k i)).run P w=.ok (.int .u8 b) w:=by
 have dg:b<256:=hl b (zv hb);have hi:0<=i:=by omega
 unfold Instr.index;simp[asIntOf,run_underlying ht,hi,zj4,hb,UInt8.toNat_ofNat',Fb dg]
theorem zet{t e:aB}{cs:aC}{arr:dF}{len n:Nat}{k:IntKind}{i:Int}{v:V}(ht:P.underlying t=some (.array len e))(hn:z8 P e=some n)(hr:bN g cs arr.toList)(h0:0<=i)(hi:i<len)
  (hv:kT P e cs (i.toNat * n)=some v) (w:aP):∃cv,(Instr.index t (.agg arr) (.int k i)).run P w=.ok cv w/\aR g v cv/\v.top<=aI cs:=by
 obtain⟨cv,c1,c2,c3,_⟩:=NU (P:=P) hr hv w;refine⟨cv,?_,c2,c3⟩;unfold Instr.index;simp[asIntOf,run_underlying ht,h0,hi,jx hn,c1]
theorem nO:∀{xs:aC}{l:bL},nK xs=some l->∃ns:List Int,xs=ns.map (V.int .u8)/\l=ns.map λn=>n.toNat % 256
 | [],l,h=>by simp only[nK,bu] at h;subst h;exact⟨[],rfl,rfl⟩
 | x::xs,l,h=>by
  unfold nK at h;split at h
  next e=>cases e
  next n r e=>cases e;simp only[mA] at h;obtain⟨l',hl,rfl⟩:=h;obtain⟨ns,rfl,rfl⟩:=nO hl;exact⟨n::ns,rfl,rfl⟩
  ·cases h
theorem rO:∀(ns:List Int)(l:bL),ns.foldl (λr n=>r.push (UInt8.ofNat n.toNat)) (bytes l)=bytes (l++ns.map λn=>n.toNat % 256)
 | [],l=>by simp
 | n::ns,l=>by
  have e:(bytes l).push (UInt8.ofNat n.toNat)=bytes (l++[n.toNat % 256]):=by
   apply ByteArray.ext;have:UInt8.ofNat (n.toNat % 256)=UInt8.ofNat n.toNat:=by
    apply UInt8.toNat_inj.1;simp[UInt8.toNat_ofNat']
   simp[bytes,ByteArray.push,this]
  simp only[List.foldl_cons,e,rO ns,a_,aY,List.singleton_append]
theorem zdp{xs:aC}{ow:tG}{cx:bw}{l:bL}(h:nK xs=some l)(hx:aR g (.sl 1 xs ow) cx)(dG:∀c o u,g.M c o=some u->w.cell? ⟨c,o,none⟩=some u) :
  (Conv.bytesToString cx).run P w=.ok (.string (bytes l)) w/\∀b:Nat,b∈l->b<256:=by
 obtain⟨ns,rfl,rfl⟩:=nO h;refine⟨?_,λb hb=>?_⟩
 ·cases hx with
  | sl f h1 h2 h3 h4 h5 h6 =>
   rename_i ad cap c o;cases ad with
   | none =>
    have:ns=[]:=by
     cases ns with
     | nil=>rfl
     | cons n ns=>have:=h3 (by simp);cases this
    subst this;rfl
   | some ad =>
    have oc:zw (ns.map (V.int .u8))=ns.map (V.int .u8):=by
     clear h h1 h2 h3 h4 h5 h6
     induction ns with
     | nil=>rfl
     | cons n ns ih=>simp only[zw,a_,D3,V.cells] at *;rw[ih];rfl
    have hl:(loadCells ad (ns.map (V.int .u8)).length).run P w=.ok (ns.map (Value.int .u8)).toArray w:=by
     have:=run_loadCells_list (P:=P) w ad (ns.map (Value.int .u8)) (λj v hj=>by
      simp only[gj,mA] at hj;obtain⟨n,hn,rfl⟩:=hj;have pO:(zw (ns.map (V.int .u8)))[j]?=some (.int .u8 n):=by rw[oc];simp[hn]
      have b_:ns.map (V.int .u8)≠[]:=by rintro e;simp at e;subst e;simp at hn
      have e:=h3 b_;cases e;rw[Addr.add_lit];have h7:=h6 j _ pO;have h8:=dG _ _ _ (h5 j _ pO);generalize f j=u at h7 h8;cases h7
      exact h8)
     simpa using this
    rw[run_bytesToString w ad _ cap ns hl];have:=rO ns [];have e0:bytes []=ByteArray.empty:=rfl;rw[e0] at this;rw[this];rfl
 ·obtain⟨n,_,rfl⟩:=iH.1 hb;omega
theorem zk4{src dst:aB}{x v:V}{cx:bw}{n:Nat}(h:vB P src dst x=some v)(hx:aR g x cx)(oS:∀s,x≠.str s\/P.underlying dst=some .string)(dG:∀c o u,g.M c o=some u->w.cell? ⟨c,o,none⟩=some u):Ls P g n w (convert src dst cx) v:=by
 simp only[vB,Option.bind_eq_bind,eL] at h;obtain⟨ds,hs,dd,hd,h⟩:=h;have CE:=run_underlying hs w;have VV:=run_underlying hd w;split at h
 ·simp only[bu] at h;subst h;cases hx;exact⟨.int _ _,by simp[convert,CE,VV,Conv.intToInt],.int _ _,dU _,λ_ _=>trivial⟩
 ·rename_i k m;simp only[bu] at h;subst h;cases hx;have e:Utf8.encode m=bytes ((Utf8.encode m).data.toList.map UInt8.toNat):=by
   apply ByteArray.ext;simp[bytes,Function.comp_def]
  refine⟨.string (bytes ((Utf8.encode m).data.toList.map UInt8.toNat)),by rw[<- e];simp[convert,CE,VV,Conv.intToString],.str λb hb=>?_,dU _,λ_ _=>trivial⟩
  obtain⟨c,_,rfl⟩:=iH.1 hb;exact c.toNat_lt
 ·simp only[bu] at h;subst h;cases hx with
  | str h1=>exact⟨_,by simp[convert,CE,VV],.str h1,dU _,λ_ _=>trivial⟩
 ·rename_i e;simp only[eL] at h;obtain⟨d8,h8,h⟩:=h;split at h<;>simp only[bu,reduceCtorEq] at h;subst h;cases hx;refine⟨.string (bytes []),?_,.str (by simp),dU _,λ_ _=>trivial⟩
  rw[run_convert_bytes_string w src dst e _ _ _ hs h8 hd];rfl
 ·rename_i e xs ow;simp only[eL] at h;obtain⟨d8,h8,h⟩:=h;split at h<;>try (cases h;done)
  simp only[mA] at h;obtain⟨l,hl,rfl⟩:=h;obtain⟨ad,cap,rfl,_,_⟩:=hx.Dp;obtain⟨c1,c2⟩:=zdp (P:=P) hl hx dG;refine⟨.string (bytes l),?_,.str c2,dU _,λ_ _=>trivial⟩;rw[run_convert_bytes_string w src dst e _ _ _ hs h8 hd];exact c1
 ·rename_i l _ _;rcases oS _ with hn|hn
  ·exact absurd rfl hn
  ·rw[hd] at hn;cases hn
 ·cases h
theorem yy{t:aB}{v:V}(h:qP P t=some v)(w:aP):∃cv,(zeroValue t).run P w=.ok cv w/\aR g v cv/\v.top=0/\(∀k l,cN g k w l v cv)/\(P.info? t).bind (·.zero)=some cv:=by
 simp only[qP,eL] at h;obtain⟨i,hi,z,hz,hv⟩:=h;obtain⟨h1,h2⟩:=VR g z v hv;refine⟨z,?_,h1,h2,λk l=>zeD hv,by simp[hi,hz]⟩
 simp[zeroValue,typeInfo,hi,hz]
end
section
variable{P:aQ}{B:dY}{g:Gh}{s:St}{a:Act}{w:aP}
def Lu(P:aQ)(B:dY)(s:St)(a:Act)(w:aP)(_g:Gh)(o:Oper)(v:V):Prop :=
 ∃g' cv w',(execOp a.eval o).run P w=.ok (.value cv) w'/\Ed B g' s a w' o.dst v cv
theorem vQ(h:Rel B g s a w){o:Oper}{m:Sem bw}{v:V}(hm:Ls P g s.H.au.length w m v)(he:execOp a.eval o=(do pure (.value (<- m)))):Lu P B s a w g o v:=by
 obtain⟨cv,h1,h2,h3,h4⟩:=hm;exact⟨g,cv,w,by rw[he];simp[h1],⟨h,h2,λ_ _=>h4 _ _,h3⟩⟩
theorem Tk(h:Rel B g s a w):∀{xs:List aX}{vs:aC},az s.env xs=some vs ->
  vs.length=xs.length/\(∀(j:Nat)(x:V)(v:bw),vs[j]?=some x->(xs.map a.eval)[j]?=some v->aR g x v)/\aI vs<=s.H.au.length/\∀x∈vs,∀sz ys e,x≠.sl sz ys (.yes e)
 | [],vs,hp=>by simp only[az,bu] at hp;subst hp;exact⟨rfl,λj x v hx=>by simp at hx,dU _,λx hx=>by simp at hx⟩
 | x::xs,vs,hp=>by
  simp only[az,qm] at hp;split at hp
  ·cases hp
  ·rename_i v hv;split at hp<;>simp only[bu,reduceCtorEq] at hp;rename_i ys tH;subst hp;obtain⟨h1,h2,h3⟩:=zI h hv;obtain⟨i1,i2,i3,i4⟩:=Tk h tH;refine⟨by simp[i1],λj y u hy hu=>?_,by simp only[aI];exact ua.2 ⟨h2,i3⟩,λy hy=>?_⟩
   ·cases j with
    | zero=>simp at hy hu;subst hy;subst hu;exact h1
    | succ j=>simp at hy;exact i2 j y u hy (by simpa using hu)
   ·rcases dN.1 hy with rfl|hy
    ·intro sz ys e he;subst he;cases x with
     | tmp t =>
      simp only[ak] at hv;split at hv<;>simp only[bu,reduceCtorEq] at hv;exact vP _ _ _ _ hv
     | const c =>
      simp only[ak] at hv;unfold aj at hv;split at hv<;>try (simp at hv;done)
      all_goals (simp only[eL] at hv;obtain⟨l,_,hv⟩:=hv;split at hv<;>simp at hv)
     | global k=>simp[ak] at hv
     | func f=>simp[ak] at hv
    ·exact i4 y hy
structure nP(g:Gh)(es:List (V×V))(en:List MapEntry):Prop where
 len:es.length=en.length
 rel:∀(j:Nat)(x:V×V)(e:MapEntry),es[j]?=some x->en[j]?=some e->aR g x.1 e.key/\aR g x.2 e.val
theorem nP.tail{x:V×V}{es:List (V×V)}{e:MapEntry}{en:List MapEntry}(h:nP g (x::es) (e::en)):nP g es en/\aR g x.1 e.key/\aR g x.2 e.val :=
 ⟨⟨by have:=h.len;simpa using this,λj y f hy hf=>h.rel (j+1) y f (by simpa using hy) (by simpa using hf)⟩,h.rel 0 x e (by simp) (by simp)⟩
theorem yz{kd:TypeDesc}{k x:V}{ck cx:bw}{b:Bool}(hk:ya kd k=true)(h:JK k x=some b)(h1:aR g k ck)(h2:aR g x cx):Instr.sameNow kd ck cx=some b:=by
 unfold JK at h;split at h
 ·split at h<;>simp only[bu,reduceCtorEq] at h;rename_i e;subst h;subst e;cases h1;cases h2;cases kd<;>simp[ya] at hk;simp[Instr.sameNow]
 ·simp only[bu] at h;subst h;cases h1 with
  | str b1=>cases h2 with
   | str b2 =>
    cases kd<;>simp[ya] at hk;simp only[Instr.sameNow,beq_toListBytes,vn,pM _ _ b1 b2]
 ·simp only[bu] at h;subst h;cases h1;cases h2;cases kd<;>simp[ya] at hk;simp[Instr.sameNow]
 ·cases h
theorem zgr{kd:TypeDesc}{k:V}{ck:bw}(hk:ya kd k=true)(h1:aR g k ck):∀{es:List (V×V)}{en:List MapEntry}(i:Nat){r:bY},nP g es en->JL k es=some r ->
  ∃r',Instr.findNow kd ck en i=some r'/\match r,r' with
   | none,none=>True
   | some v,some (_,cv)=>aR g v cv/\∃x∈es,x.2=v
   | _,_=>False
 | [],[],i,r,_,h=>by simp only[JL,bu] at h;subst h;exact⟨none,rfl,trivial⟩
 | [],_::_,i,r,hr,h=>by have:=hr.len;simp at this
 | _::_,[],i,r,hr,h=>by have:=hr.len;simp at this
 | (x,v)::es,e::en,i,r,hr,h=>by
  obtain⟨ht,hx,hv⟩:=hr.tail;simp only[JL] at h;split at h
  next od=>simp only[bu] at h;subst h;refine⟨some (i,e.val),?_,hv,_,eT ..,rfl⟩;simp[Instr.findNow,yz hk od h1 hx]
  ·rename_i od;obtain⟨r',h3,h4⟩:=zgr hk h1 (i+1) ht h;refine⟨r',by simp[Instr.findNow,yz hk od h1 hx,h3],?_⟩
   cases r<;>cases r'
   ·trivial
   ·exact h4
   ·exact h4
   ·obtain⟨h5,y,hy,VW⟩:=h4;exact⟨h5,y,d_ _ hy,VW⟩
  ·cases h
theorem zfj(n:Nat){kt:aB}{kd:TypeDesc}(tJ:P.underlying kt=some kd){k:V}{ck:bw}(hk:ya kd k=true)(h1:aR g k ck)(e:Bool)(w:aP):(Instr.checkKey e (n+1) kt ck).run P w=.ok () w:=by
 have hu:=run_underlying tJ w;cases kd<;>cases k<;>simp[ya] at hk
 all_goals (cases h1;simp[Instr.checkKey,hu])
theorem zcD{kt:aB}{kd:TypeDesc}(tJ:P.underlying kt=some kd){k:V}{ck:bw}(hk:ya kd k=true)(h1:aR g k ck)(e:Bool)(w:aP):(Instr.checkKey e 10000 kt ck).run P w=.ok () w :=
 zfj 9999 tJ hk h1 e w
theorem xW(h:Rel B g s a w){b:Nat}{es:List (V×V)}(hb:s.H.get b=some (.map es)) :
  ∃en ck,w.heap[g.bO b]?=some (.map en ck)/\nP g es en.toList/\aI (es.map (·.1))<=s.H.au.length/\aI (es.map (·.2))<=s.H.au.length:=by
 simp only[Hp.get,zg] at hb;obtain⟨en,ck,h1,h2,h3⟩:=h.de.ok b _ hb;have ht:=ua.1 (show max (aI (es.map (·.1))) (aI (es.map (·.2)))<=_ from h.de.aI b _ hb);exact⟨en,ck,h1,⟨by simpa using h2,λj x e hx he=>h3 j x e hx (by simpa using he)⟩,ht.1,ht.2⟩
theorem zj5(h:Rel B g s a w){t kt e:aB}{kd:TypeDesc}{m k v:V}{cm ck:bw}{es:List (V×V)}{b ok:Bool}(ht:P.underlying t=some (.map kt e))(tJ:P.underlying kt=some kd)(hk:ya kd k=true)
  (hm:aR g m cm) (Lv:aR g k ck) (AR:xd s.H m=some es) (hf:NR P e k es=some (v,b)) :
  Ls P g s.H.au.length w (Instr.lookup t cm ck ok) (if ok then .br [aW v,.bool b] else aW v):=by
 have main:∃en:List MapEntry,nP g es en/\aI (es.map (·.2))<=s.H.au.length/\∀(K:Array MapEntry->Sem bw),(do
   let es <- match cm with
    | .map none=>pure #[]
    | .map (some r)=>do
     let .map es _ <- getObj r|stuck "Lookup: map expected"
     pure es
    | _=>stuck "Lookup: map expected"
   K es:Sem bw).run P w=(K en.toArray).run P w:=by
  unfold xd at AR;split at AR
  ·simp only[bu] at AR;subst AR;cases hm;exact⟨[],⟨rfl,λj x e hx=>by simp at hx⟩,dU _,λK=>by simp⟩
  next bb=>split at AR<;>simp only[bu,reduceCtorEq] at AR;rename_i iL hb;subst AR;cases hm;obtain⟨en,clock,h1,h2,_,h3⟩:=xW h hb;exact⟨en.toList,h2,h3,λK=>by simp[getObj,Sem.run,h1]⟩
  ·cases AR
 obtain⟨en,VX,uK,cj⟩:=main
 have GX:∃cv,∀(K:bw×Bool->Sem bw),(do
   Instr.checkKey en.toArray.isEmpty 10000 kt ck
   let x <- match <- Instr.findKey kt ck en.toArray.toList with
    | some (_,v)=>pure (v,true)
    | none=>pure (<- zeroValue e,false)
   K x:Sem bw).run P w=(K (cv,b)).run P w/\aR g v cv/\v.top<=s.H.au.length:=by
  unfold NR at hf;cases Tm:JL k es with
  | none=>rw[Tm] at hf;cases hf
  | some r =>
   obtain⟨r',h1,h2⟩:=zgr hk Lv 0 VX Tm;have Ee:=λb=>zcD (P:=P) tJ hk Lv b w;cases r with
   | some v' =>
    rw[Tm] at hf;simp only[bu,cw] at hf;obtain⟨rfl,rfl⟩:=hf;cases r' with
    | none=>exact h2.elim
    | some ic =>
     obtain⟨i,cv⟩:=ic;obtain⟨h3,y,hy,VW⟩:=h2;refine⟨cv,λK=>⟨?_,h3,?_⟩⟩
     ·simp[Ee,Instr.findKey,run_underlying tJ,h1]
     ·rw[<- VW];exact cU (zn (HP (f:=(·.2)) hy)) uK
   | none =>
    rw[Tm] at hf;simp only[mA,cw] at hf;obtain⟨z,hz,rfl,rfl⟩:=hf;cases r' with
    | some ic=>obtain⟨i,cv⟩:=ic;exact h2.elim
    | none =>
     obtain⟨cz,z1,z2,z3,_⟩:=yy (g:=g) hz w;refine⟨cz,λK=>⟨?_,z2,by omega⟩⟩
     simp[Ee,Instr.findKey,run_underlying tJ,h1,z1]
 obtain⟨cv,GX⟩:=GX;have hrel:=(GX (λ_=>pure .nilFunc)).2;refine⟨if ok then .tuple #[cv,.bool b] else cv,?_,?_,?_,λk l=>ziY ?_⟩
 ·unfold Instr.lookup;simp only[Sem.run_bind,run_underlying ht,Result.andThen_ok]
  have e1:=cj (λes=>do
   Instr.checkKey es.isEmpty 10000 kt ck
   let (v,ok') <- match <- Instr.findKey kt ck es.toList with
    | some (_,v)=>pure (v,true)
    | none=>pure (<- zeroValue e,false)
   pure (if ok then .tuple #[v,.bool ok'] else v))
  have e2:=(GX (λx=>pure (if ok then .tuple #[x.1,.bool x.2] else x.1))).1
  simp only[Sem.run_bind] at e1;refine Eq.trans e1 ?_;refine Eq.trans ?_ e2;simp only[Sem.run_bind]
 ·cases ok with
  | true =>
   refine .br rfl λj x u hx hu=>?_;rcases j with _|_|j
   ·simp at hx hu;subst hx;subst hu;exact hrel.1.aW
   ·simp at hx hu;subst hx;subst hu;exact .bool b
   ·simp at hx
  | false=>exact hrel.1.aW
 ·cases ok with
  | true=>simp only[aF,V.top,aI,ji];have:=hrel.2;omega
  | false=>simp only[f_,bz,ji];exact hrel.2
 ·cases ok with
  | true=>intro sz xs e he;simp at he
  | false=>intro sz xs e he;exact vP v sz xs e (by simpa using he)
end
section
variable{P:aQ}{B:dY}{g:Gh}{s:St}{a:Act}{w:aP}
theorem yA{w w':aP}{c:Nat}(hh:w'.heap[c]?=w.heap[c]?)(o:Nat):w'.cell? ⟨c,o,none⟩=w.cell? ⟨c,o,none⟩:=by
 simp[World.cell?,hh]
theorem vo{c o:Nat}{v:bw}(h:w.cell? ⟨c,o,none⟩=some v):c<w.heap.size:=by
 rcases eI c w.heap.size with h1|h1
 ·exact h1
 ·simp[World.cell?,Array.getElem?_eq_none h1] at h
def Gh.row(g:Gh)(N:Nat)(vs:dA)(l:Option Loc):Gh :=
 {g with M:=λc o=>if c=N then vs[o]? else g.M c o,own:=λc=>if c=N then l else g.own c }
theorem Rel.settle(h:Rel B g s a w)(vs:dA)(l:Option Loc){w':aP}(fK:w.heap.size<w'.heap.size)(hold:∀c,c<w.heap.size->w'.heap[c]?=w.heap[c]?)
  (dL:∀o v,vs[o]?=some v->w'.cell? ⟨w.heap.size,o,none⟩=some v) (pP:w'.os=w.os) (ht:w'.tape=w.tape) (nQ:w'.output=w.output) :
  Rel B (g.row w.heap.size vs l) s a w':=by
 have hM:∀c o v,g.M c o=some v->c<w.heap.size:=λc o v hv=>vo (h.de.mem c o v hv);refine h.lE (b0:=none) (l0:=none) ?_ (dB _) (λ_ _ _=>rfl) (λb x hb hx=>?_) (λb h1 h2=>?_) (λb b' h1 h2=>?_) (λc o v hv=>?_) (λc l' hc=>?_) (λb j e=>by cases e) rfl rfl
  (λt x hx=>⟨x,hx,.inl ⟨rfl,λe=>by cases e⟩⟩) h.bC h.lV h.oB (λ_ e=>by cases e)
 ·refine⟨⟨λc o v hv=>?_,λ_ _=>rfl,rfl,λ_ _ _ _ e=>e⟩,λc hc _ _=>hold c hc,λc hc _=>?_,λc hc _ o=>?_,Nat.le_of_lt fK,λ_ _ _=>rfl,λl' mU=>(by cases mU),λb hb=>(by cases hb),λ_ _ _ _=>rfl,pP,ht,nQ⟩
  ·have:=hM c o v hv;simp only[Gh.row];rw[if_neg (by omega)]
   exact hv
  ·simp only[Gh.row];rw[if_neg (by omega)]
  ·simp only[Gh.row];rw[if_neg (by omega)]
 ·rcases hb with hb|hb
  ·cases hb
  ·have:=(cP.1 hx).1;omega
 ·omega
 ·omega
 ·simp only[Gh.row] at hv;split at hv
  next e=>subst e;exact dL o v hv
  ·rw[yA (hold c (hM c o v hv))];exact h.de.mem c o v hv
 ·simp only[Gh.row] at hc;split at hc
  next e=>omega
  ·exact Nat.lt_trans (h.de.eo c l' hc) fK
theorem aR.settled{n sz cap:Nat}{xs:aC}{vs:dA}{ow:tG}{N:Nat}{l:Option Loc}(hx:∀y:V,y∈xs->y.cells.length=sz)(nw:xs.length<=cap)(ek:bN g (zw xs) vs)(ht:aI (zw xs)<=n)
  (hle:Gh.Le n g (g.row N vs l)):aR (g.row N vs l) (.sl sz xs ow) (.slice (some ⟨N,0,none⟩) xs.length cap):=by
 refine .sl (c:=N) (o:=0) (λj=>vs.getD j .nilFunc) hx nw (λ_=>rfl) ek.one (λj x hj=>?_) (λj x hj=>?_)
 ·obtain⟨v,hv,_⟩:=ek.get hj;simp[Gh.row,hv,List.getD]
 ·obtain⟨v,hv,hr⟩:=ek.get hj;have:=hr.le hle (cU (zn (zv hj)) ht);simpa[List.getD,hv] using this
end
section
variable{P:aQ}{B:dY}{g:Gh}{s:St}{a:Act}{w:aP}
theorem Ic(h:Rel B g s a w){x:Option aX}{v:bY}(hv:cX s.env x=some v):GV g v (x.map a.eval):=by
 cases x with
 | none=>simp only[cX,bu] at hv;subst hv;trivial
 | some x =>
  simp only[cX] at hv;split at hv<;>simp only[bu,reduceCtorEq] at hv;rename_i u hu;subst hv;exact(zI h hu).1
theorem zgs(h:Rel B g s a w){x:aX}{u v:V}(hu:ak s.env x=some u)
  (hv:aa u=some v) :
  ∃cv,aR g v cv/\v.top<=s.H.au.length/\(∀m l,cN g m w l v cv)/\cv=a.eval x/\((∃p,cv=.pointer (some p))\/(∃f fa fc,cv=.func (.func f) fa fc)\/∃t u,cv=.iface t u):=by
 obtain⟨h1,h2,h3⟩:=zI h hu;generalize a.eval x=cv at h1 h3;unfold aa at hv;split at hv<;>simp only[bu,reduceCtorEq] at hv
 all_goals
  subst hv;refine⟨cv,h1,h2,h3,rfl,?_⟩;cases h1
  first
   |exact .inl ⟨_,rfl⟩
   |exact .inr (.inl ⟨_,_,_,rfl⟩)
   |exact .inr (.inr ⟨_,_,rfl⟩)
theorem bN.set{cs:aC}{vs:dA}(h:bN g cs vs){x:V}{v:bw}(h1:x.one=true)(hr:aR g x v)(i:Nat):bN g (cs.set i x) (vs.set i v):=by
 refine⟨by simp[h.len],λj y hy=>?_,λj y u hy hu=>?_⟩
 ·rw[tC] at hy;split at hy
  ·split at hy<;>simp only[bu,reduceCtorEq] at hy;subst hy;exact h1
  ·exact h.one j y hy
 ·rw[tC] at hy hu;split at hy
  ·rename_i e;split at hy<;>simp only[bu,reduceCtorEq] at hy;rename_i hi;rw[if_pos e,if_pos (by rw[<- h.len];exact hi)] at hu
   simp only[bu] at hu;subst hy;subst hu;exact hr
  next e=>rw[if_neg e] at hu;exact h.rel j y u hy hu
theorem bN.tail{x:V}{xs:aC}{u:bw}{us:dA}(h:bN g (x::xs) (u::us)):x.one=true/\aR g x u/\bN g xs us :=
 ⟨h.one 0 x rfl,h.rel 0 x u rfl rfl,⟨by have:=h.len;simpa using this,λj y hy=>h.one (j+1) y (by simpa using hy),λj y v hy hv=>h.rel (j+1) y v (by simpa using hy) (by simpa using hv)⟩⟩
theorem bN.store:∀{xs:aC}{us:dA}{cs:aC}{vs:dA}(off:Nat),bN g cs vs->bN g xs us->bN g (storeCells cs off xs) (storeCells vs off us)
 | [],[],_,_,_,h,_=>h
 | [],_::_,_,_,_,_,hx=>by have:=hx.len;simp at this
 | _::_,[],_,_,_,_,hx=>by have:=hx.len;simp at this
 | x::xs,u::us,cs,vs,off,h,hx=>by
  obtain⟨h1,h2,h3⟩:=hx.tail;exact bN.store (off+1) (h.set h1 h2 off) h3
theorem vq{v:V}{cv:bw}(hr:aR g v cv)(hc:dD v=true):bN g v.cells cv.cells.toList:=by
 by_cases ha:∃cs,v=.agg cs
 ·obtain⟨cs,rfl⟩:=ha;obtain⟨arr,rfl,h⟩:=vm hr;exact h
 ·have h1:v.one=true:=by
   cases v<;>first
    |rfl
    |(simp[dD] at hc;done)
    |exact absurd ⟨_,rfl⟩ ha
  have e1:v.cells=[v]:=by
   cases v<;>first
    |rfl
    |exact absurd ⟨_,rfl⟩ ha
  have e2:cv.cells.toList=[cv]:=by
   have:=hr.n_ h1;cases cv<;>first
    |rfl
    |(simp[Value.oneCell'] at this)
  rw[e1,e2];refine⟨rfl,λj x hx=>?_,λj x u hx hu=>?_⟩
  ·cases j with
   | zero=>simp at hx;subst hx;exact h1
   | succ j=>simp at hx
  ·cases j with
   | zero=>simp at hx hu;subst hx;subst hu;exact hr
   | succ j=>simp at hx
theorem VY(off:Nat):∀(l:dA)(k:Nat)(arr:dF),((l.zipIdx k).foldl (λcs (p:bw×Nat)=>cs.setIfInBounds (off+p.2) p.1) arr).toList=storeCells arr.toList (off+k) l
 | [],_,_=>rfl
 | x::l,k,arr=>by
  simp only[List.zipIdx_cons,List.foldl_cons];rw[VY off l (k+1) _];simp[storeCells,oO]
theorem kF{α:Type}:∀(vs:List α)(cs:List α)(off:Nat),(storeCells cs off vs).length=cs.length
 | [],_,_=>rfl
 | v::vs,cs,off=>by simp only[storeCells];rw[kF vs];simp
theorem VZ{cs:aC}{i:Nat}{x:V}{n:Nat}(h:aI cs<=n)(hx:x.top<=n):aI (cs.set i x)<=n :=
 qq λy hy=>by
  rcases List.mem_or_eq_of_mem_set hy with hy|rfl
  ·exact cU (zn hy) h
  ·exact hx
theorem vC{n:Nat}:∀{vs cs:aC}{off:Nat},aI cs<=n->aI vs<=n->aI (storeCells cs off vs)<=n
 | [],_,_,h,_=>h
 | v::vs,cs,off,h,hv=>by
  simp only[aI] at hv;have:=ua.1 hv;show aI (storeCells (cs.set off v) (off+1) vs)<=n;exact vC (cs:=cs.set off v) (VZ h this.1) this.2
theorem yB(v:V):aI v.cells<=v.top:=qq λ_ hx=>Tg hx
theorem V0(h:Rel B g s a w){pA pC:Nat->Option (Nat×Nat)}(hp:∀i x,pA i=some x->pC i=some x):∀{parts:List (Nat×aX)}{cs cs':aC}{arr:dF},bN g cs arr.toList->aI cs<=s.H.au.length ->
  xN cs pA s.env parts=some cs'->∃iC,Instr.fill pC arr (parts.map λ(i,x)=>(i,a.eval x))=some iC/\bN g cs' iC.toList/\aI cs'<=s.H.au.length
 | [],cs,cs',arr,hr,ht,hf=>by simp only[xN,bu] at hf;subst hf;exact⟨arr,rfl,hr,ht⟩
 | (i,x)::parts,cs,cs',arr,hr,ht,hf=>by
  simp only[xN,Option.bind_eq_bind,eL] at hf;obtain⟨v,hv,⟨off,n⟩,Ie,hf⟩:=hf;split at hf
  ·rename_i hc;simp only[ei,Nat.beq_eq,Nat.ble_eq] at hc;obtain⟨⟨nE,sx⟩,Cf⟩:=hc;obtain⟨h1,h2,h3⟩:=zI h hv;have ek:=vq h1 nE;have fK:(a.eval x).cells.size=n:=by rw[<- sx,ek.len];simp
   have oo:arr.size=cs.length:=by have:=hr.len;simp at this;exact this.symm
   have Fk:((a.eval x).cells.zipIdx.foldl (λcs (p:bw×Nat)=>cs.setIfInBounds (off+p.2) p.1) arr).toList=storeCells arr.toList off (a.eval x).cells.toList:=by
    rw[<- Array.foldl_toList,Array.toList_zipIdx];have:=VY off (a.eval x).cells.toList 0 arr;simpa using this
   have fe:=hr.store off ek;rw[<- Fk] at fe;obtain⟨iC,f1,f2,f3⟩:=V0 h hp fe (vC ht (cU (yB v) h2)) hf;refine⟨iC,?_,f2,f3⟩;simp only[a_,Instr.fill,hp i _ Ie];have:¬(((a.eval x).cells.size≠n || off+(a.eval x).cells.size > arr.size)=true):=by
    rw[fK,oo];simp;exact Cf
   simp only[this];exact f1
  ·cases hf
theorem zj6(h:Rel B g s a w){t:aB}{parts:Array (Nat×aX)}{v:V}(hb:kB P t parts s.env=some v) :
  Ls P g s.H.au.length w (Instr.build t (parts.map λ(i,x)=>(i,a.eval x))) v:=by
 unfold kB at hb;split at hb
 ·cases hb
 ·rename_i z hz;split at hb
  ·cases hb
  ·rename_i eE;obtain⟨cz,z1,z2,z3,_,NY⟩:=yy (g:=g) hz w;have ek:=vq z2 (by simpa using eE)
   have GY:aI z.cells<=s.H.au.length:=cU (yB z) (by omega)
   simp only[eL] at NY;obtain⟨it,hit,hiz⟩:=NY;have Ae:(parts.map λ(i,x)=>(i,a.eval x)).toList=parts.toList.map λ(i,x)=>(i,a.eval x):=by simp
   split at hb
   ·rename_i fs hd;split at hb
    ·rename_i ps hps;simp only[mA] at hb;obtain⟨cs',hf,rfl⟩:=hb;obtain⟨iC,f1,f2,f3⟩:=V0 h (pC:=λi=>ps.toArray[i]?) (λi x hx=>by rw[zg] at hx;simpa using hx) ek GY hf
     refine⟨.agg iC,run_build w t _ iC ?_,f2.agg,f3,λ_ _=>trivial⟩;unfold Ta at hps;rw[Ae];simp only[Program.built,hit,hd,hiz,hps];exact f1
    ·cases hb
   ·rename_i n e hd;split at hb
    next ie hie=>simp only[mA] at hb;obtain⟨cs',hf,rfl⟩:=hb;obtain⟨iC,f1,f2,f3⟩:=V0 h (pC:=λi=>some (i * ie.size,ie.size)) (λi x hx=>hx) ek GY hf;refine⟨.agg iC,run_build w t _ iC ?_,f2.agg,f3,λ_ _=>trivial⟩;rw[Ae];simp only[Program.built,hit,hd,hiz,hie];exact f1
    ·cases hb
   ·cases hb
theorem kS{α:Type}:∀(new old pre post:List α),old.length=new.length->storeCells (pre++old++post) pre.length new=pre++new++post
 | [],old,pre,post,h=>by
  have:old=[]:=HM h;subst this;rfl
 | v::new,[],pre,post,h=>by simp at h
 | v::new,x::old,pre,post,h=>by
  simp only[storeCells];have e:(pre++(x::old)++post).set pre.length v=(pre++[v])++old++post:=by
   simp
  rw[e];have:=kS new old (pre++[v]) post (by simpa using h)
  simp only[aV,aZ,List.length_nil,nI] at this;rw[this];simp
theorem zgt{n:Nat}{v:V}(hv:v.cells.length=n):∀{xs:aC}{i:Nat},(∀y:V,y∈xs->y.cells.length=n)->i<xs.length->zw (xs.set i v)=storeCells (zw xs) (i * n) v.cells
 | [],i,_,hi=>by simp at hi
 | x::xs,0,hs,_=>by
  have:=kS v.cells x.cells [] (zw xs) (by rw[hs x (eT ..),hv])
  simp only[bg,List.length_nil] at this;simp only[zw,bS,D3,Nat.zero_mul] at *;exact this.symm
 | x::xs,i+1,hs,hi=>by
  have ih:=zgt hv (xs:=xs) (i:=i) (λy hy=>hs y (d_ _ hy)) (by simpa using hi)
  have hx:=hs x (eT ..);simp only[zw,bU,D3] at *;rw[ih];have shift:∀(l:aC)(r:aC)(k:Nat),x.cells++storeCells l k r=storeCells (x.cells++l) (n+k) r:=by
   intro l r
   induction r generalizing l with
   | nil=>intro k;rfl
   | cons y r ihr =>
    intro k;simp only[storeCells];rw[ihr (l.set k y) (k+1)];have e:(x.cells++l).set (n+k) y=x.cells++l.set k y:=by
     rw[tW _ _ (by omega),hx,E8]
    rw[e];rfl
  rw[shift]
  congr 1
  rw[t_];omega
theorem wB{z:V}{n:Nat}(hz:z.cells.length=n):∀(len j:Nat),j<len * n->(zw (List.replicate len z))[j]?=z.cells[j % n]?
 | 0,j,h=>by simp at h
 | k+1,j,h=>by
  have hn:0<n:=by
   rcases JD n with h0|h0
   ·subst h0;simp at h
   ·exact h0
  simp only[HQ,zw,D3];rcases eI j n with h1|h1
  ·rw[fI (by omega),Fb h1]
  ·rw[eM (by omega),hz]
   have:=wB hz k (j - n) (by rw[t_] at h;omega)
   simp only[zw] at this;rw[this,Nat.mod_eq_sub_mod h1]
theorem ziZ(h:Rel B g s a w){n len:Nat}:∀{parts:List (Nat×aX)}{xs tK:aC}{arr:dF},xs.length=len->(∀y:V,y∈xs->y.cells.length=n)->bN g (zw xs) arr.toList->aI xs<=s.H.au.length ->
  D8 n len s.env xs parts=some tK->∃iC,Instr.fill (λi=>some (i * n,n)) arr (parts.map λ(i,x)=>(i,a.eval x))=some iC/\bN g (zw tK) iC.toList/\tK.length=len/\(∀y:V,y∈tK->y.cells.length=n)/\aI tK<=s.H.au.length
 | [],xs,tK,arr,hl,hs,hr,ht,hf=>by simp only[D8,bu] at hf;subst hf;exact⟨arr,rfl,hr,hl,hs,ht⟩
 | (i,x)::parts,xs,tK,arr,hl,hs,hr,ht,hf=>by
  simp only[D8,Option.bind_eq_bind,eL,qm,eW] at hf;obtain⟨v,hv,hf⟩:=hf;split at hf
  ·rename_i hc;simp only[ei,Nat.beq_eq,Nat.blt_eq] at hc;obtain⟨⟨nE,sx⟩,Cf⟩:=hc;obtain⟨h1,h2,h3⟩:=zI h hv;have ek:=vq h1 nE;have fK:(a.eval x).cells.size=n:=by rw[<- sx,ek.len];simp
   have oo:arr.size=len * n:=by
    have:=hr.len;rw[qK hs,hl] at this;simpa using this.symm
   have Fk:((a.eval x).cells.zipIdx.foldl (λcs (p:bw×Nat)=>cs.setIfInBounds (i * n+p.2) p.1) arr).toList=storeCells arr.toList (i * n) (a.eval x).cells.toList:=by
    rw[<- Array.foldl_toList,Array.toList_zipIdx];have:=VY (i * n) (a.eval x).cells.toList 0 arr;simpa using this
   have fe:=hr.store (i * n) ek;rw[<- Fk,<- zgt sx hs (by rw[hl];exact Cf)] at fe
   obtain⟨iC,f1,f2⟩:=ziZ h (xs:=xs.set i v) (by simpa using hl) (λy hy=>by
    rcases List.mem_or_eq_of_mem_set hy with hy|rfl
    ·exact hs y hy
    ·exact sx) fe (VZ ht h2) hf
   refine⟨iC,?_,f2⟩;simp only[a_,Instr.fill];have hle:i * n+n<=len * n:=by
    have:=K9 n (Nat.succ_le_of_lt Cf);rw[HU] at this;exact this
   have:¬(((a.eval x).cells.size≠n || i * n+(a.eval x).cells.size > arr.size)=true):=by
    rw[fK,oo];simp;exact hle
   simp only[this];exact f1
  ·cases hf
theorem yl{xs:aC}:aI (zw xs)<=aI xs:=qq λ_ hx=>xU hx
theorem zeu(h:Rel B g s a w){t e:aB}{len n:Nat}{parts:Array (Nat×aX)}{z:V}{xs:aC}(hd:P.underlying t=some (.slice e))(hn:z8 P e=some n)(hz:qP P e=some z)
  (hc:(Nat.beq n 0 || Nat.blt 16777216 (len * n) || !Nat.beq z.cells.length n || !dD z)=false) (hx:D8 n len s.env (List.replicate len z) parts.toList=some xs) {o:Oper} (ho:o.op=.buildSlice t len parts) :
  Lu P B s a w g o (.sl n xs (.yes e)):=by
 simp only[HN,Bool.not_eq_false'] at hc;obtain⟨⟨⟨c1,c2⟩,c3⟩,c4⟩:=hc;have nF:n≠0:=by intro e;subst e;simp at c1
 have V1:¬len * n > 16777216:=by
  intro bR;have:Nat.blt 16777216 (len * n)=true:=by rw[Nat.blt_eq];exact bR
  rw[this] at c2;cases c2
 have Lw:z.cells.length=n:=eR c3;obtain⟨cz,z1,z2,z3,_,_⟩:=yy (g:=g) hz w;have Cg:=vq z2 c4;have Fl:cz.cells.size=n:=by rw[<- Lw,Cg.len];simp
 have ny:bN g (zw (List.replicate len z)) ((Array.range (len * n)).map (λj=>(cz.cells)[j % cz.cells.size]!)).toList:=by
  have oc:(zw (List.replicate len z)).length=len * n:=by rw[qK (sz:=n) λy hy=>by rw[(List.mem_replicate.1 hy).2];exact Lw];simp
  refine⟨by rw[oc];simp,λj x hx=>?_,λj x v hx hv=>?_⟩
  ·have hj:j<len * n:=by rw[<- oc];exact(cP.1 hx).1
   rw[wB Lw len j hj] at hx;exact Cg.one _ x hx
  ·have hj:j<len * n:=by rw[<- oc];exact(cP.1 hx).1
   rw[wB Lw len j hj] at hx;have hm:j % n<cz.cells.size:=by rw[Fl];exact Nat.mod_lt _ (by omega)
   simp only[Array.toList_map,Array.toList_range,gj,uG,hj,aS,bu,Fl] at hv;rw[getElem!_pos cz.cells (j % n) hm] at hv;refine Cg.rel _ x v hx ?_;rw[E9,EJ hm,hv]
 obtain⟨iC,f1,f2,f3,f4,f5⟩:=ziZ h (xs:=List.replicate len z) (len:=len) (n:=n) (by simp) (λy hy=>by rw[(List.mem_replicate.1 hy).2];exact Lw) ny
  (qq λy hy=>by rw[(List.mem_replicate.1 hy).2];omega) hx
 have Ae:(parts.map λ(i,x)=>(i,a.eval x)).toList=parts.toList.map λ(i,x)=>(i,a.eval x):=by simp
 have oD:iC.size=len * n:=by
  have:=f2.len;rw[qK f4,f3] at this;simpa using this.symm
 have cj:(Instr.buildSlice t len (parts.map λ(i,x)=>(i,a.eval x))).run P w=.ok (.slice (some ⟨w.heap.size,0,none⟩) len len) (w.alloc (.cells iC e)):=by
  unfold Instr.buildSlice;rcases JD len with h0|h0
  ·subst h0;simp only[Nat.zero_mul] at f1 oD;have r0:Array.range 0=#[]:=rfl;have f1':Instr.fill (λi=>some (i * n,n)) #[] (parts.toList.map λ(i,x)=>(i,a.eval x))=some iC:=by simpa[r0] using f1
   simp only[Sem.run_bind,run_underlying hd,jx hn,Result.andThen_ok,Nat.zero_mul,r0,Ae];simp[f1',newRow]
   try rfl
  ·have:¬len * n=0:=by
    intro e0;rcases Nat.mul_eq_zero.1 e0 with e0|e0<;>omega
   simp[run_underlying hd,jx hn,V1,this,z1,f1,newRow]
   try rfl
 refine⟨g.row w.heap.size iC.toList (o.dst.map (Loc.slot B.d)),.slice (some ⟨w.heap.size,0,none⟩) len len,w.alloc (.cells iC e),by simp only[execOp,ho,Sem.run_bind,cj,Result.andThen_ok,Sem.run_pure],?_⟩
 have hrel:=h.settle iC.toList (o.dst.map (Loc.slot B.d)) (w':=w.alloc (.cells iC e)) (by simp) (λc hc=>heap_alloc_old w _ hc) (λo v hv=>by rw[World.cell?_alloc_new];simpa using hv) rfl rfl rfl
 have bR:∀b,b<s.H.au.length->g.bO b<w.heap.size:=h.de.lt;have hle:Gh.Le s.H.au.length g (g.row w.heap.size iC.toList (o.dst.map (Loc.slot B.d))):=by
  refine⟨λc o v hv=>?_,λ_ _=>rfl,rfl,λ_ _ _ _ e=>e⟩;have:=vo (h.de.mem c o v hv);simp only[Gh.row];rw[if_neg (by omega)];exact hv
 refine⟨hrel,?_,λt ht=>?_,f5⟩
 ·have:=aR.settled (g:=g) (ow:=.yes e) (N:=w.heap.size) (l:=o.dst.map (Loc.slot B.d)) (cap:=len) f4 (by omega) f2 (cU yl f5) hle
  rw[f3] at this;exact this
 ·refine⟨iC.toList,zgl ⟨by simp[oD,f3],.inr ⟨w.heap.size,len,iC,by rw[f3],dU _,heap_alloc_new w _,by omega,?_,oD,?_⟩⟩,λc hc=>?_⟩
  ·have:len<=len * n:=Nat.le_mul_of_pos_right _ (by omega)
   simp only[maxLen];omega
  ·rw[rM (by simp[oD,f3])]
  ·simp only[Value.ownBlock,bu] at hc;subst hc;refine⟨by simp[Gh.row,ht],λo ho _=>?_,λb hb e=>?_⟩
   ·simp only[Gh.row,aF];simp only at ho;exact uF (by simp[oD];rw[f3] at ho;omega)
   ·have:=bR b hb;have e':g.bO b=w.heap.size:=e;omega
theorem zgu{isAgg:Bool}{sz:Nat}(h1:isAgg=false->sz=1):∀{n:Nat}{cs:aC},n * sz<=cs.length->(∀x∈cs,x.one=true)->zw (xc isAgg sz n cs)=cs.take (n * sz)/\(∀y∈xc isAgg sz n cs,y.cells.length=sz)/\(xc isAgg sz n cs).length=n
 | 0,cs,_,_=>by simp[xc,zw]
 | n+1,cs,hl,ho=>by
  have mU:n * sz<=(cs.drop sz).length:=by rw[t_] at hl;simp;omega
  obtain⟨i1,i2,i3⟩:=zgu h1 (n:=n) (cs:=cs.drop sz) mU (λx hx=>ho x (Cv hx));have fK:sz<=cs.length:=by rw[t_] at hl;omega
  have e:cs.take ((n+1) * sz)=cs.take sz++(cs.drop sz).take (n * sz):=by
   rw[show(n+1) * sz=sz+n * sz by rw[t_];omega,List.take_add]
  cases isAgg with
  | true =>
   simp only[xc,aF,zw,D3,V.cells] at *;refine⟨by rw[i1,e],λy hy=>?_,by simp[i3]⟩
   rcases dN.1 hy with rfl|hy
   ·simp;omega
   ·exact i2 y hy
  | false =>
   have Ig:=h1 rfl;subst Ig;cases cs with
   | nil=>simp at fK
   | cons x cs =>
    have hx:=ho x (eT ..);have EN:x.cells=[x]:=by cases x<;>first|rfl|(simp[V.one,Cz] at hx)
    simp only[xc,f_,bz,List.headD_cons,zw,D3] at *;refine⟨by rw[i1,e,EN];simp,λy hy=>?_,by rw[aZ,i3]⟩
    rcases dN.1 hy with rfl|hy
    ·rw[EN];rfl
    ·exact i2 y hy
structure Src(g:Gh)(n:Nat)(w:aP)(sz:Nat)(ys:aC)(cy:bw):Prop where
 form:∃ad cap,cy=.slice ad ys.length cap/\(ys≠[]->∃a0 news,ad=some a0/\bN g (zw ys) news/\∀j v,news[j]?=some v->w.cell? (a0.add j)=some v)
 sized:∀y:V,y∈ys->y.cells.length=sz
 aI:aI ys<=n
theorem ym(h:Rel B g s a w){e:aB}{sz:Nat}{y:V}{ys:aC}{cy:bw}(fK:z8 P e=some sz)(hy:kU P s.H e y=some ys)(hr:aR g y cy)(ht:y.top<=s.H.au.length):Src g s.H.au.length w sz ys cy:=by
 unfold kU at hy;split at hy
 ·simp only[bu] at hy;subst hy;cases hr;exact⟨⟨none,0,rfl,λhn=>absurd rfl hn⟩,λy hy=>by simp at hy,dU _⟩
 ·rename_i Pq xs ow;simp only[Option.bind_eq_bind,eL] at hy;obtain⟨n,hn,hy⟩:=hy;rw[fK] at hn;cases hn;split at hy<;>simp only[bu,reduceCtorEq] at hy;rename_i e';subst e';subst hy;cases hr with
  | sl f h1 h2 h3 h4 h5 h6 =>
   rename_i ad cap c o;refine⟨⟨ad,cap,rfl,λhn=>⟨⟨c,o,none⟩,(List.range (zw xs).length).map f,h3 hn,⟨by simp,h4,λj x v hx hv=>?_⟩,λj v hv=>?_⟩⟩,h1,ht⟩
   ·have hj:=(cP.1 hx).1;simp[hj] at hv;subst hv;exact h6 j x hx
   ·have hj:j<(zw xs).length:=by have:=(cP.1 hv).1;simpa using this
    have e':f j=v:=by simpa[hj] using hv
    rw[Addr.add_lit,<- e'];exact h.de.mem _ _ _ (h5 j _ (fQ hj))
 ·rename_i b off len V2;simp only[Option.bind_eq_bind,eL] at hy;obtain⟨x,hx,hy⟩:=hy;split at hy<;>try (cases hy;done)
  rename_i cs ty;simp only[eL] at hy;obtain⟨n,hn,ag,Ef,hy⟩:=hy;rw[fK] at hn;cases hn;split at hy<;>simp only[bu,reduceCtorEq] at hy;rename_i hc;simp only[ei,tX] at hc;obtain⟨hle,V3⟩:=hc;have aiM:off+len * sz<=cs.length:=r8 hle;obtain⟨arr,a1,a2,a3,_⟩:=xg h hx;have tL:((cs.drop off).map aW).length=cs.length - off:=by simp
  obtain⟨f1,f2,f3⟩:=zgu (isAgg:=ag) (sz:=sz) (n:=len) (cs:=(cs.drop off).map aW) (λe=>V3.elim (λh1=>by rw[e] at h1;cases h1) eR) (by rw[tL];omega) (λx hx=>by
   simp only[iH] at hx;obtain⟨y,hy,rfl⟩:=hx;rw[VP];obtain⟨j,hj⟩:=List.getElem?_of_mem (Cv hy)
   exact a2.one j y hj)
  subst hy;cases hr with
  | sr Bi =>
   refine⟨⟨some ⟨g.bO b,off,none⟩,V2,by rw[f3],λ_=>⟨_,(arr.toList.drop off).take (len * sz),rfl,?_,λj v hv=>?_⟩⟩,f2,?_⟩
   ·rw[f1];refine⟨?_,λj x hx=>?_,λj x v hx hv=>?_⟩
    ·have:=a2.len;simp at this ⊢;omega
    ·simp only[AN] at hx;split at hx<;>try (cases hx;done)
     simp only[gj,HR,mA] at hx;obtain⟨y,hy,rfl⟩:=hx;rw[VP];exact a2.one _ _ hy
    ·simp only[AN] at hx hv;split at hx<;>try (cases hx;done)
     rename_i hj;rw[if_pos hj] at hv;simp only[gj,HR,mA] at hx hv;obtain⟨y,hy,rfl⟩:=hx;exact(a2.rel _ _ _ hy hv).aW
   ·simp only[AN] at hv;split at hv<;>try (cases hv;done)
    simp only[HR] at hv;rw[Addr.add_lit,cell_of_row w _ _ arr _ _ a1];simpa using hv
   ·refine qq λy hy=>?_;have oc:∀z∈zw (xc ag sz len ((cs.drop off).map aW)),z.top<=s.H.au.length:=λz hz=>by
     rw[f1] at hz;have:=Cw hz;simp only[iH] at this;obtain⟨u,hu,rfl⟩:=this;rw[ji];exact cU (zn (Cv hu)) a3
    cases y with
    | agg us=>exact qq λz hz=>oc z (List.mem_flatMap.2 ⟨_,hy,hz⟩)
    | _=>exact oc _ (List.mem_flatMap.2 ⟨_,hy,mF.2 rfl⟩)
 ·cases hy
theorem zk5(h:Rel B g s a w){src dst:aB}{b off len cap:Nat}{u v:V}{x:aX}{o:Oper}(hu:Lh P s.H src (.sr b off len cap)=some u)(hr:vB P src dst u=some v)(hx:aR g (.sr b off len cap) (a.eval x))(ht:(V.sr b off len cap).top<=s.H.au.length)(ho:o.op=.convert src dst x) :
  Lu P B s a w g o v:=by
 simp only[vB,Option.bind_eq_bind,eL] at hr;obtain⟨ds,hs,dd,hd,hr⟩:=hr;unfold Lh at hu;split at hu
 ·rename_i e _ _ _ _ Pr heq;rw[hs] at Pr;cases Pr;cases heq;split at hu<;>simp only[bu,reduceCtorEq] at hu;rename_i xs pG;subst hu;cases dd<;>simp only[reduceCtorEq] at hr;simp only[eL] at hr;obtain⟨d8,h8,hr⟩:=hr;split at hr<;>try (cases hr;done)
  simp only[mA] at hr;obtain⟨l,hl,rfl⟩:=hr;obtain⟨n,hn⟩:∃n,z8 P e=some n:=by
   have h1:=pG;simp only[kU,Option.bind_eq_bind,eL] at h1;obtain⟨_,_,h1⟩:=h1;split at h1<;>try (cases h1;done)
   simp only[eL] at h1;obtain⟨n,hn,_⟩:=h1;exact⟨n,hn⟩
  have gG:=ym h hn pG hx ht;obtain⟨ad,oR,oe,lG⟩:=gG.form;obtain⟨ns,oS,_⟩:=nO hl;have Lx:∀y∈zw xs,∃k:Int,y=.int .u8 k:=λy hy=>by
   subst oS;obtain⟨z,hz,hy⟩:=List.mem_flatMap.1 hy;obtain⟨k,_,rfl⟩:=iH.1 hz;simp only[V.cells,mF] at hy;exact⟨_,hy⟩
  obtain⟨f,hf⟩:∃f:Nat->bw,f=λ_=>.nilFunc:=⟨_,rfl⟩;have hrel:aR { g with M:=λc o=>w.cell? ⟨c,o,none⟩ } (.sl 1 xs .no) (a.eval x):=by
   generalize a.eval x=cx at hx oe;cases hx with
   | sr nw =>
    cases oe;have pQ:∀(j:Nat)(y:V),(zw xs)[j]?=some y->y.one=true:=λj y hy=>by obtain⟨k,rfl⟩:=Lx y (zv hy);rfl
    have nE:∀y:V,y∈xs->y.cells.length=1:=λy hy=>by
     subst oS;obtain⟨k,_,rfl⟩:=iH.1 hy;rfl
    by_cases b_:xs=[]
    ·subst b_;exact .sl (c:=0) (o:=0) (λ_=>.nilFunc) (λy hy=>by simp at hy) (dU _) (λhn=>absurd rfl hn) (λj y hy=>by simp[zw] at hy) (λj y hy=>by simp[zw] at hy) (λj y hy=>by simp[zw] at hy)
    ·obtain⟨a0,news,h0,ek,dL⟩:=lG b_;cases h0;refine .sl (c:=g.bO b) (o:=off) (λj=>news.getD j .nilFunc) nE nw (λ_=>rfl) pQ (λj y hy=>?_) (λj y hy=>?_)
     ·obtain⟨v,hv,_⟩:=ek.get hy;have:=dL j v hv;rw[Addr.add_lit] at this;simpa[List.getD,hv] using this
     ·obtain⟨v,hv,V4⟩:=ek.get hy;obtain⟨k,rfl⟩:=Lx y (zv hy);cases V4;simp only[List.getD,hv,ga];exact .int _ _
  obtain⟨c1,c2⟩:=zdp (P:=P) (w:=w) hl hrel (λc o u h=>h);rw[oe] at c1;refine⟨g,.string (bytes l),w,?_,⟨h,.str c2,λ_ _=>trivial,dU _⟩⟩;simp only[execOp,ho,oe,Sem.run_bind,run_convert_bytes_string w src dst e _ _ _ hs h8 hd,c1,Result.andThen_ok,Sem.run_pure]
 ·simp only[bu] at hu;subst hu;cases ds<;>cases dd<;>simp only[reduceCtorEq] at hr
theorem zgv(h:Rel B g s a w){src dst:aB}{l:bL}{v:V}{x:aX}{o:Oper}(hr:vB P src dst (.str l)=some v)(hx:aR g (.str l) (a.eval x))(sy:P.underlying dst≠some .string)(ho:o.op=.convert src dst x) :
  Lu P B s a w g o v:=by
 simp only[vB,Option.bind_eq_bind,eL] at hr;obtain⟨ds,hs,dd,hd,hr⟩:=hr;generalize he:a.eval x=cx at hx;cases hx with
 | str hl =>
  split at hr<;>try (cases hr;done)
  next e=>cases e
  next e=>cases e
  ·exact absurd hd sy
  next e=>cases e
  next e=>cases e
  ·rename_i e l' mU;cases mU;simp only[eL] at hr;obtain⟨d8,h8,hr⟩:=hr;split at hr<;>simp only[bu,reduceCtorEq] at hr;subst hr;have fK:(bytes l).size=l.length:=kK l;have nw:=grownCap_ge w (bytes l).size 0 e;generalize hC:grownCap w (bytes l).size 0 e=cap at nw;have cj:=run_bytes_of_string (P:=P) w src dst e (bytes l) hs hd h8;rw[hC] at cj
   have bZ:∀(j:Nat)(b:Nat),l[j]?=some b->(bytesRow (bytes l) cap)[j]?=some (.int .u8 b):=λj b hb=>by
    have hj:=(cP.1 hb).1;have oq:=hl b (zv hb);unfold bytesRow;rw[Array.getElem?_append_left (by simp[bytes];exact hj)]
    simp[bytes,hb,UInt8.toNat_ofNat',Fb oq]
   have oc:zw (l.map λ(b:Nat)=>V.int .u8 b)=l.map λ(b:Nat)=>V.int .u8 b:=by
    clear bZ hl fK nw hC cj he
    induction l with
    | nil=>rfl
    | cons n ns ih=>simp only[zw,a_,D3,V.cells] at *;rw[ih];rfl
   have hrel:=h.settle (l.map λ(b:Nat)=>Value.int .u8 b) none (w':=w.drew.alloc (.cells (bytesRow (bytes l) cap) e ((bytesRow (bytes l) cap).size,(bytesRow (bytes l) cap).size+1)))
    (by show _<(w.heap.push _).size;simp) (λc hc=>heap_alloc_old w.drew _ hc) (λo v hv=>by
     simp only[gj,mA] at hv;obtain⟨b,hb,rfl⟩:=hv;rw[<- bZ o b hb]
     exact World.cell?_alloc_mark w.drew _ _ _ o) rfl rfl rfl
   have hle:Gh.Le s.H.au.length g (g.row w.heap.size (l.map λ(b:Nat)=>Value.int .u8 b) none):=by
    refine⟨λc o v hv=>?_,λ_ _=>rfl,rfl,λ_ _ _ _ e=>e⟩;have:=vo (h.de.mem c o v hv);simp only[Gh.row];rw[if_neg (by omega)];exact hv
   refine⟨_,_,_,by simp only[execOp,ho,he,Sem.run_bind,cj,Result.andThen_ok,Sem.run_pure];rfl,hrel,?_,λ_ _=>trivial,?_⟩
   ·have:=aR.settled (g:=g) (n:=s.H.au.length) (ow:=.no) (N:=w.heap.size) (l:=none) (sz:=1) (xs:=l.map λ(b:Nat)=>V.int .u8 b) (vs:=l.map λ(b:Nat)=>Value.int .u8 b) (cap:=cap)
     (λy hy=>by obtain⟨b,_,rfl⟩:=iH.1 hy;rfl) (by simp;omega) ?_ ?_ hle
    ·rw[fK];simpa using this
    ·rw[oc];refine⟨by simp,λj x hx=>?_,λj x v hx hv=>?_⟩
     ·simp only[gj,mA] at hx;obtain⟨b,hb,rfl⟩:=hx;rfl
     ·simp only[gj,mA] at hx hv;obtain⟨b,hb,rfl⟩:=hx;obtain⟨b',dg,rfl⟩:=hv;rw[hb] at dg;cases dg;exact .int _ _
    ·rw[oc];exact qq λy hy=>by obtain⟨b,_,rfl⟩:=iH.1 hy;exact dU _
   ·simp only[V.top];exact qq λy hy=>by obtain⟨b,_,rfl⟩:=iH.1 hy;exact dU _
theorem Tn(h:Rel B g s a w){gl:Nat->Nat->bY}(rm:gF P gl g){o:Oper}{v:V}(hr:qZ P gl o s.env s.H=some v):Lu P B s a w g o v:=by
 obtain⟨dst,op,type,pos,after,guard⟩:=o;cases op<;>simp only[qZ,Option.bind_eq_bind,eL,reduceCtorEq] at hr
 case move x =>
  obtain⟨h1,h2,h3⟩:=zI h hr;exact⟨g,a.eval x,w,by simp[execOp],⟨h,h1,λ_ _=>h3 _ _,h2⟩⟩
 case pick c x y =>
  obtain⟨vc,hc,hr⟩:=hr;split at hr<;>try (cases hr;done)
  rename_i t;obtain⟨c1,_,_⟩:=zI h hc;generalize Af:a.eval c=cc at c1;cases c1;cases t with
  | true =>
   simp only at hr;obtain⟨h1,h2,h3⟩:=zI h hr;exact⟨g,a.eval x,w,by simp[execOp,Af,asBool],⟨h,h1,λ_ _=>h3 _ _,h2⟩⟩
  | false =>
   simp only at hr;obtain⟨h1,h2,h3⟩:=zI h hr;exact⟨g,a.eval y,w,by simp[execOp,Af,asBool],⟨h,h1,λ_ _=>h3 _ _,h2⟩⟩
 case build t parts=>exact vQ h (zj6 (P:=P) h hr) rfl
 case load t x =>
  obtain⟨p,hp,u,hu,hr⟩:=hr;simp only[bu] at hr;subst hr;obtain⟨h1,h2,h3⟩:=zI h hp;obtain⟨cv,c1,c2,c3⟩:=zgq h rm h1 h2 hu;exact vQ h ⟨cv,c1,c2.aW,by rw[ji];exact c3,λ_ _=>vl _ _ _ _ _ _⟩ rfl
 case nilCheck x =>
  obtain⟨u,hu,hr⟩:=hr;obtain⟨cv,h1,h2,h3,h4,h5⟩:=zgs h hu hr;refine⟨g,cv,w,?_,⟨h,h1,λ_ _=>h3 _ _,h2⟩⟩;rcases h5 with⟨p,h5⟩|⟨f,fa,fc,h5⟩|⟨t,u,h5⟩
  ·simp[execOp,<- h4,h5]
  ·simp[execOp,<- h4,h5]
  ·simp[execOp,<- h4,h5]
 case binOp op t x y yt =>
  obtain⟨u,hu,v',lX,hr⟩:=hr;split at hr
  next hg=>obtain⟨u1,u2,_⟩:=zI h hu;obtain⟨v1,v2,_⟩:=zI h lX;have e1:=zk2 hg u1 v1 w;obtain⟨cv,c1,c2,c3,c4⟩:=znn hr u1 v1 w;exact⟨g,cv,w,by simp[execOp,e1,c1],⟨h,c2,λ_ _=>c4 _ _,by omega⟩⟩
  ·cases hr
 case unOp op t x =>
  obtain⟨u,hu,hr⟩:=hr;exact vQ h (zpo hr (zI h hu).1 _ w) rfl
 case makeInterface t x =>
  obtain⟨u,hu,hr⟩:=hr;split at hr<;>simp only[bu,reduceCtorEq] at hr;rename_i hi;subst hr;obtain⟨u1,u2,_⟩:=zI h hu;refine⟨g,.iface t (a.eval x),w,?_,⟨h,.ec u1,λ_ _=>trivial,u2⟩⟩;unfold Tb at hi;cases hd:P.underlying t with
  | none=>simp[hd] at hi
  | some d =>
   rw[hd] at hi;cases d<;>first|(simp at hi;done)|simp[execOp,Instr.makeInterface,run_underlying hd]
 case convert src dst x =>
  obtain⟨u,hu,hr⟩:=hr;obtain⟨u1,u2,_⟩:=zI h hu
  by_cases oS:∀s,u≠.str s\/P.underlying dst=some .string
  ·exact vQ h (zk4 hr u1 oS h.de.mem) rfl
  ·obtain⟨l,hl⟩:∃l,u=.str l:=by
    apply Classical.byContradiction;intro eH;exact oS λs=>.inl λe=>eH ⟨s,e⟩
   subst hl;have sy:P.underlying dst≠some .string:=λe=>oS λs=>.inr e;exact zgv h hr u1 sy rfl
 case makeFunc fn first cap =>
  obtain⟨as,has,cs,ek,hr⟩:=hr;simp only[bu] at hr;subst hr;obtain⟨a1,a2,a3,_⟩:=Tk h has;obtain⟨c1,c2,c3,_⟩:=Tk h ek;refine⟨g,.func fn (first.map a.eval) (cap.map a.eval),w,by simp[execOp,Instr.makeFunc],⟨h,.fn (by simpa using a1) (by simpa using c1) (λj x v hx hv=>a2 j x v hx (by simpa using hv)) (λj x v hx hv=>c2 j x v hx (by simpa using hv)),λ_ _=>trivial,?_⟩⟩
  simp only[V.top];exact ua.2 ⟨a3,c3⟩
 case slice t x lo hi mx =>
  obtain⟨Tc,iB,uc,AQ,u,hu,hr⟩:=hr;obtain⟨u1,u2,_⟩:=zI h hu;cases mx with
  | none=>exact vQ h (zeF hr u1 (Ic h iB) (Ic h AQ) u2 w) rfl
  | some m =>
   simp only[eL] at hr;obtain⟨mv,hmv,hr⟩:=hr;obtain⟨m1,_,_⟩:=zI h hmv;split at hr<;>try (cases hr;done)
   rename_i km k sz xs o kh hh _ _ _;split at hr<;>try (cases hr;done)
   rename_i hle;have h1:=Ic h AQ;cases hi with
   | none=>exact h1.elim
   | some aD =>
    have Ig:aR g (.int kh hh) (a.eval aD):=h1;have h2:=zj3 (P:=P) (km:=km) hr u1 (Ic h iB) hle.1 hle.2 u2 w;have e1:a.eval aD=.int kh hh:=by generalize a.eval aD=ch at Ig;cases Ig;rfl
    have e2:a.eval m=.int km k:=by generalize a.eval m=cm at m1;cases m1;rfl
    rw[<- e1,<- e2] at h2;exact vQ h h2 rfl
 case fieldAddr t x f =>
  obtain⟨ds,hd,hr⟩:=hr;split at hr<;>try (cases hr;done)
  rename_i fs;simp only[eL] at hr;obtain⟨fd,hf,sz,fK,hr⟩:=hr;split at hr
  ·cases hr
  ·rename_i h0;simp only[eL] at hr;obtain⟨u,hu,hr⟩:=hr;obtain⟨u1,u2,_⟩:=zI h hu;have To:Nat.beq sz 0=false:=by revert h0;cases Nat.beq sz 0<;>simp
   generalize he:a.eval x=cx at u1;split at hr<;>simp only[bu,reduceCtorEq] at hr
   ·subst hr;cases u1;exact⟨g,_,w,by simp only[execOp,he,Sem.run_bind,vI hd hf fK To,Result.andThen_ok,Sem.run_pure],⟨h,.ptr _ _,λ_ _=>trivial,u2⟩⟩
   ·subst hr;cases u1;exact⟨g,_,w,by simp only[execOp,he,Sem.run_bind,vI hd hf fK To,Result.andThen_ok,Sem.run_pure],⟨h,.eN _ _,λ_ _=>trivial,u2⟩⟩
   ·rename_i b9 u9 k9 _;subst hr;cases u1 with
    | gm _ hh =>
     have e0:=aR.gm (k9+fd.offset) hh;rw[<- oO] at e0;exact⟨g,_,w,by simp only[execOp,he,Sem.run_bind,vI hd hf fK To,Result.andThen_ok,Sem.run_pure],⟨h,e0,λ_ _=>trivial,u2⟩⟩
   ·subst hr;obtain⟨c,o,rfl⟩:∃c o,cx=.pointer (some ⟨c,o,none⟩):=by cases u1;exact⟨_,_,rfl⟩
    exact⟨g,_,w,by simp only[execOp,he,Sem.run_bind,vI hd hf fK To,Result.andThen_ok,Sem.run_pure],⟨h,u1.Dn _,λ_ _=>trivial,cU (zeE _ _) u2⟩⟩
 case field t x f =>
  obtain⟨ds,hd,hr⟩:=hr;split at hr<;>try (cases hr;done)
  rename_i fs;simp only[eL] at hr;obtain⟨fd,hf,u,hu,hr⟩:=hr;split at hr<;>try (cases hr;done)
  rename_i cs;simp only[mA] at hr;obtain⟨v',hr,rfl⟩:=hr;obtain⟨u1,u2,_⟩:=zI h hu;obtain⟨arr,he,ek⟩:=vm u1;obtain⟨cv,c1,c2,c3,_⟩:=NU (P:=P) ek hr w;refine vQ h ⟨cv,?_,c2.aW,by rw[ji];exact cU c3 u2,λ_ _=>vl _ _ _ _ _ _⟩ rfl
  rw[he];unfold Instr.field;simp[run_underlying hd,hf,asAgg,c1]
 case indexAddr t x ix =>
  obtain⟨iv,hi,hr⟩:=hr;split at hr<;>try (cases hr;done)
  rename_i k i;simp only[eL] at hr;obtain⟨u,hu,hr⟩:=hr;obtain⟨u1,u2,_⟩:=zI h hu;have i1:=(zI h hi).1;generalize GZ:a.eval ix=ci at i1;cases i1;generalize he:a.eval x=cx at u1;unfold zp at hr;split at hr
  ·rename_i len e hd;split at hr
   ·cases hr
   ·rename_i n hn;split at hr
    ·split at hr<;>simp only[bu,reduceCtorEq] at hr;rename_i hb;subst hr;cases u1;exact⟨g,_,w,by simp only[execOp,he,GZ,Sem.run_bind,yf hd hn hb.1 hb.2,Result.andThen_ok,Sem.run_pure],⟨h,.ptr _ _,λ_ _=>trivial,u2⟩⟩
    ·split at hr<;>simp only[bu,reduceCtorEq] at hr;rename_i hb;subst hr;cases u1;exact⟨g,_,w,by simp only[execOp,he,GZ,Sem.run_bind,yf hd hn hb.1 hb.2,Result.andThen_ok,Sem.run_pure],⟨h,.eN _ _,λ_ _=>trivial,u2⟩⟩
    ·split at hr<;>simp only[bu,reduceCtorEq] at hr;rename_i hb;rename_i b9 u9 k9 _;subst hr;cases u1 with
     | gm _ hh =>
      have e0:=aR.gm (k9+i.toNat * n) hh;rw[<- oO] at e0;exact⟨g,_,w,by simp only[execOp,he,GZ,Sem.run_bind,yf hd hn hb.1 hb.2,Result.andThen_ok,Sem.run_pure],⟨h,e0,λ_ _=>trivial,u2⟩⟩
    ·split at hr<;>simp only[bu,reduceCtorEq] at hr;rename_i hb;subst hr;obtain⟨c,o,rfl⟩:∃c o,cx=.pointer (some ⟨c,o,none⟩):=by cases u1;exact⟨_,_,rfl⟩
     exact⟨g,_,w,by simp only[execOp,he,GZ,Sem.run_bind,yf hd hn hb.1 hb.2,Result.andThen_ok,Sem.run_pure],⟨h,u1.Dn _,λ_ _=>trivial,cU (zeE _ _) u2⟩⟩
    ·cases hr
  ·rename_i e hd;split at hr
   ·cases hr
   ·rename_i n hn;split at hr
    ·rename_i sz xs ow _;split at hr
     ·rename_i fK;have CF:n=sz:=eR fK;subst CF;split at hr
      ·cases hr
      ·rename_i Pt;split at hr<;>simp only[bu,reduceCtorEq] at hr;rename_i y hy;rw[zg] at hy;subst hr;obtain⟨ad,cap,rfl,nw,had⟩:=u1.Dp;obtain⟨c,o,rfl⟩:=had (by rintro rfl;simp at hy)
       have bR:=(cP.1 hy).1
       exact⟨g,_,w,by simp only[execOp,he,GZ,Sem.run_bind,yY hd hn (show 0<=i by omega) (show i<(xs.length:Int) by omega),Result.andThen_ok,Sem.run_pure],
        ⟨h,u1.elem hy,λ_ _=>trivial,cU (yB y) (cU (zn (zv hy)) u2)⟩⟩
     ·cases hr
    ·split at hr<;>simp only[bu,reduceCtorEq] at hr;rename_i hb;subst hr;cases u1;exact⟨g,_,w,by simp only[execOp,he,GZ,Sem.run_bind,yY hd hn hb.1 hb.2,Result.andThen_ok,Sem.run_pure],⟨h,.ptr _ _,λ_ _=>trivial,u2⟩⟩
    ·split at hr<;>simp only[bu,reduceCtorEq] at hr;rename_i hb;subst hr;cases u1 with
     | dw hh =>
      exact⟨g,_,w,by simp only[execOp,he,GZ,Sem.run_bind,yY hd hn hb.1 hb.2,Result.andThen_ok,Sem.run_pure],⟨h,.gm _ hh,λ_ _=>trivial,u2⟩⟩
    ·cases hr
  ·cases hr
 case index t x ix =>
  obtain⟨iv,hi,hr⟩:=hr;split at hr<;>try (cases hr;done)
  rename_i k i;simp only[eL] at hr;obtain⟨u,hu,hr⟩:=hr;obtain⟨u1,u2,_⟩:=zI h hu;have i1:=(zI h hi).1;generalize GZ:a.eval ix=ci at i1;cases i1;generalize he:a.eval x=cx at u1;unfold Pj at hr;split at hr
  ·rename_i len e hd;split at hr
   ·cases hr
   ·rename_i n hn;split at hr
    ·split at hr<;>simp only[mA,reduceCtorEq] at hr;rename_i hb;obtain⟨v',hr,rfl⟩:=hr;obtain⟨arr,rfl,ek⟩:=vm u1;obtain⟨cv,c1,c2,c3⟩:=zet (k:=k) hd hn ek hb.1 hb.2 hr w;exact⟨g,cv,w,by simp only[execOp,he,GZ,Sem.run_bind,c1,Result.andThen_ok,Sem.run_pure],⟨h,c2.aW,λ_ _=>vl _ _ _ _ _ _,by rw[ji];exact cU c3 u2⟩⟩
    ·cases hr
  ·rename_i hd;split at hr
   ·split at hr
    ·cases hr
    ·rename_i Pt;split at hr<;>simp only[bu,reduceCtorEq] at hr;rename_i b hb;rw[zg] at hb;subst hr;cases u1 with
     | str hl =>
      exact⟨g,_,w,by simp only[execOp,he,GZ,Sem.run_bind,zfi hd hl Pt hb,Result.andThen_ok,Sem.run_pure],⟨h,.int _ _,λ_ _=>trivial,dU _⟩⟩
   ·cases hr
  ·cases hr
 case lookup t m k ok =>
  obtain⟨ds,hd,hr⟩:=hr;split at hr<;>try (cases hr;done)
  rename_i kt e;simp only[eL] at hr;obtain⟨kd,G0,kv,hk,hr⟩:=hr;split at hr
  ·cases hr
  next eE=>simp only[eL,bu] at hr;obtain⟨mv,hm,es,AR,⟨v',b⟩,hf,rfl⟩:=hr;exact vQ h (zj5 h hd G0 (by simpa using eE) (zI h hm).1 (zI h hk).1 AR hf) rfl
 case typeAssert x xt t ok =>
  split at hr
  ·cases hr
  ·rename_i hi;simp only[eL] at hr;obtain⟨u,hu,hr⟩:=hr;obtain⟨u1,u2,_⟩:=zI h hu;generalize he:a.eval x=cx at u1;obtain⟨d,hd,V5⟩:∃d,P.underlying t=some d/\∀ms,d≠.interface ms:=by
    unfold Tb at hi;cases hd:P.underlying t with
    | none=>simp[hd] at hi
    | some d =>
     rw[hd] at hi;exact⟨d,rfl,λms e=>by subst e;simp at hi⟩
   have cj:∀cv,(Instr.typeAssert cx xt t ok).run P w=.ok cv w->aR g v cv->v.top<=s.H.au.length->(∀sz xs e,v≠.sl sz xs (.yes e))->Lu P B s a w g { dst,op:=.typeAssert x xt t ok,type,pos,after,guard } v :=
    λcv h1 h2 h3 h4=>⟨g,cv,w,by simp[execOp,he,h1],⟨h,h2,λ_ _=>ziY h4,h3⟩⟩
   have JM:∀z,qP P t=some z->ok=true->v=.br [z,.bool false]->(∀cz,(zeroValue t).run P w=.ok cz w->(Instr.typeAssert cx xt t true).run P w=.ok (.tuple #[cz,.bool false]) w)->Lu P B s a w g { dst,op:=.typeAssert x xt t ok,type,pos,after,guard } v:=by
    intro z hz eE hv Tp;subst eE;subst hv;obtain⟨cz,z1,z2,z3,_⟩:=yy (g:=g) hz w;refine cj _ (Tp cz z1) (.br rfl λj x u hx hu=>?_) (by simp only[V.top,aI];omega) (λ_ _ _ e=>by cases e)
    rcases j with _|_|j
    ·simp at hx hu;subst hx;subst hu;exact z2
    ·simp at hx hu;subst hx;subst hu;exact .bool false
    ·simp at hx
   split at hr
   ·split at hr<;>simp only[eL,bu,reduceCtorEq] at hr;rename_i eE;obtain⟨z,hz,rfl⟩:=hr;cases u1;refine JM z hz eE rfl λcz Cg=>?_;unfold Instr.typeAssert;cases d<;>first|exact absurd rfl (V5 _)|simp[run_underlying hd,Cg]
   ·rename_i ut uv _;obtain⟨cu,rfl⟩:∃cu,cx=.iface ut cu:=by cases u1;exact⟨_,rfl⟩
    have u3:aR g uv cu:=by cases u1;assumption
    split at hr
    ·rename_i V6;simp only[bu] at hr;have V7:ut=t:=eR V6;subst V7;subst hr;refine cj (if ok then .tuple #[cu,.bool true] else cu) ?_ ?_ ?_ ?_
     ·unfold Instr.typeAssert;cases d<;>first|exact absurd rfl (V5 _)|(simp[run_underlying hd])
     ·cases ok with
      | true =>
       refine .br rfl λj x u hx hu=>?_;rcases j with _|_|j
       ·simp at hx hu;subst hx;subst hu;exact u3.aW
       ·simp at hx hu;subst hx;subst hu;exact .bool true
       ·simp at hx
      | false=>exact u3.aW
     ·have u2':uv.top<=s.H.au.length:=u2;cases ok with
      | true=>simp only[aF,V.top,aI,ji];omega
      | false=>simp only[f_,bz,ji];exact u2'
     ·cases ok with
      | true=>intro sz xs e he;simp at he
      | false=>intro sz xs e he;exact vP uv sz xs e (by simpa using he)
    ·rename_i V6;split at hr<;>simp only[eL,bu,reduceCtorEq] at hr;rename_i eE;obtain⟨z,hz,rfl⟩:=hr;have b_:ut≠t:=λe=>V6 (by subst e;exact lu _)
     refine JM z hz eE rfl λcz Cg=>?_;unfold Instr.typeAssert;cases d<;>first|exact absurd rfl (V5 _)|simp[run_underlying hd,b_,Cg]
   ·cases hr
 case extract x i =>
  obtain⟨u,hu,hr⟩:=hr;split at hr<;>try (cases hr;done)
  rename_i vs;split at hr<;>simp only[bu,reduceCtorEq] at hr;rename_i v' lX;subst hr;rw[zg] at lX;obtain⟨u1,u2,_⟩:=zI h hu;generalize he:a.eval x=cx at u1;cases u1 with
  | br t1 t2 =>
   rename_i arr;have bR:i<arr.size:=by rw[<- t1];exact(cP.1 lX).1
   have cQ:arr[i]?=some arr[i]:=EJ bR;refine⟨g,arr[i],w,by simp[execOp,he,Instr.extract,cQ],⟨h,(t2 i v' _ lX cQ).aW,λ_ _=>vl _ _ _ _ _ _,?_⟩⟩
   rw[ji];exact cU (zn (zv lX)) u2
 case buildSlice t len parts =>
  obtain⟨ds,hd,hr⟩:=hr;split at hr<;>try (cases hr;done)
  rename_i e;simp only[eL] at hr;obtain⟨n,hn,z,hz,hr⟩:=hr;split at hr
  ·cases hr
  next hc=>simp only[eL,bu] at hr;obtain⟨xs,hx,rfl⟩:=hr;exact zeu h hd hn hz (Bool.eq_false_iff.2 hc) hx rfl
end
section
variable{P:aQ}{B:dY}{g:Gh}{s:St}{a:Act}{w:aP}
def Gh.var(g:Gh)(n N:Nat):Gh:={ g with bO:=λb=>if b=n then N else g.bO b }
theorem Gh.Fm(g:Gh)(n N:Nat):Gh.Le n g (g.var n N):=⟨λ_ _ _ h=>h,λb hb=>by simp only[Gh.var];rw[if_neg (by omega)],rfl,λ_ _ _ _ h=>h⟩
theorem Tq{w w':aP}{obj:Obj}(hw:w'.heap=w.heap.push obj){c:Nat}(hc:c<w.heap.size):w'.heap[c]?=w.heap[c]?:=by
 rw[hw,Array.getElem?_push,if_neg (by omega)]
theorem V8{w w':aP}{obj:Obj}(hw:w'.heap=w.heap.push obj):w'.heap[w.heap.size]?=some obj:=by
 rw[hw];simp
theorem gV.push(d n:Nat)(g:Gh){w w':aP}{obj:Obj}(hw:w'.heap=w.heap.push obj)(pP:w'.os=w.os)(ht:w'.tape=w.tape)(nQ:w'.output=w.output):gV d none none n g w (g.var n w.heap.size) w' :=
 ⟨g.Fm n _,λc hc _ _=>Tq hw hc,λ_ _ _=>rfl,λ_ _ _ _=>rfl,by rw[hw];simp,λ_ _ _=>rfl,λl hl=>(by cases hl),λb hb=>(by cases hb),λ_ _ _ _=>rfl,pP,ht,nQ⟩
theorem vJ{bs sL:List aT}(h:∀b,b<bs.length->sL[b]?=bs[b]?){b off:Nat}(hl:jo bs b off):jo sL b off:=by
 obtain⟨cs,t,sz,xs,h1,h2⟩:=hl;exact⟨cs,t,sz,xs,by rw[h b (cP.1 h1).1];exact h1,h2⟩
theorem Rel.push(h:Rel B g s a w)(bO:aT){obj:Obj}{w':aP}(hw:w'.heap=w.heap.push obj)(pP:w'.os=w.os)(ht:w'.tape=w.tape)(nQ:w'.output=w.output)
  (eE:fU (g.var s.H.au.length w.heap.size) (s.H.au.length+1) w' s.H.au.length bO) (dy:bO.top<=s.H.au.length+1):Rel B (g.var s.H.au.length w.heap.size) { s with H:=s.H.push bO } a w':=by
 have hl:(s.H.push bO).au.length=s.H.au.length+1:=by simp[Hp.push]
 have cQ:∀b,b<s.H.au.length->(s.H.push bO).au[b]?=s.H.au[b]?:=λb hb=>by simp only[Hp.push];rw[fI hb]
 have rP:(s.H.push bO).au[s.H.au.length]?=some bO:=by simp[Hp.push]
 have hv:(g.var s.H.au.length w.heap.size).bO s.H.au.length=w.heap.size:=by simp[Gh.var]
 have fK:w'.heap.size=w.heap.size+1:=by rw[hw];simp
 refine h.lE (s':={ s with H:=s.H.push bO }) (gV.push B.d s.H.au.length g hw pP ht nQ) (by rw[hl];omega) (λb hb _=>cQ b hb) (λb x hb hx=>?_) (λb h1 h2=>?_) (λb b' h1 h2 h3 h4 _=>?_) (λc o v hv=>?_) (λc l hc=>?_)
  (λb j e=>by cases e) rfl rfl (λt x hx=>⟨x,hx,.inl ⟨rfl,λe=>by cases e⟩⟩) ?_ (λb off ri=>vJ cQ (h.lV b off ri)) h.oB (λ_ e=>by cases e)
 ·have dg:b=s.H.au.length:=by
   rcases hb with hb|hb
   ·cases hb
   ·have:=(cP.1 hx).1;rw[hl] at this;omega
  subst dg;rw[rP] at hx;cases hx;rw[hl];exact⟨eE,dy⟩
 ·have:b=s.H.au.length:=by rw[hl] at h2;omega
  subst this;rw[hv];refine⟨dB _,by omega,?_,λo=>?_⟩
  ·show g.own w.heap.size=none;cases ho:g.own w.heap.size with
   | none=>rfl
   | some l=>have:=h.de.eo _ _ ho;omega
  ·show g.M w.heap.size o=none;cases hm:g.M w.heap.size o with
   | none=>rfl
   | some v=>have:=vo (h.de.mem _ _ _ hm);omega
 ·rw[hl] at h2 h4;omega
 ·rw[yA (Tq hw (vo (h.de.mem c o v hv)))];exact h.de.mem c o v hv
 ·have:=h.de.eo c l hc;omega
 ·intro b x hx;rcases eI b s.H.au.length with h1|h1
  ·rw[show({ s with H:=s.H.push bO }:St).H.au[b]?=s.H.au[b]? from cQ b h1] at hx;exact h.bC b x hx
  ·have dg:b=s.H.au.length:=by
    have:=(cP.1 hx).1;have mU:({ s with H:=s.H.push bO }:St).H.au.length=s.H.au.length+1:=hl;omega
   subst dg;rw[show({ s with H:=s.H.push bO }:St).H.au[s.H.au.length]?=some bO from rP] at hx;cases hx;exact .inl dy
theorem Rel.ru(h:Rel B g s a w){cs:aC}{arr:dF}{t:aB}(ek:bN g cs arr.toList)(dy:aI cs<=s.H.au.length)
  (iK:∀(j:Nat)(x:V)(v:bw),cs[j]?=some x->arr[j]?=some v->cN g s.H.au.length w (.cell s.H.au.length j) x v/\∀sz xs,x≠.sl sz xs .lock) :
  Rel B (g.var s.H.au.length w.heap.size) { s with H:=s.H.push (.cells cs t) } a (w.alloc (.cells arr t)):=by
 have hw:(w.alloc (.cells arr t)).heap=w.heap.push (.cells arr t):=rfl;refine h.push (.cells cs t) hw rfl rfl rfl ⟨arr,?_,by simpa using ek.len,λj x v hx hv=>⟨ek.one j x hx,?_,?_,?_⟩⟩ (La dy)
 ·rw[show(g.var s.H.au.length w.heap.size).bO s.H.au.length=w.heap.size by simp[Gh.var]]
  exact V8 hw
 ·exact(ek.rel j x v hx (by simpa using hv)).le (g.Fm _ _) (cU (zn (zv hx)) dy)
 ·refine cN.same (gV.push B.d s.H.au.length g hw rfl rfl rfl) (λe=>by cases e) (λb h1 h2=>?_) (iK j x v hx hv).1
  have:b=s.H.au.length:=by omega
  subst this;simp[Gh.var]
 ·have:=(iK j x v hx hv).2;cases x with
  | sl sz xs o=>cases o with
   | lock=>exact absurd rfl (this sz xs)
   | _=>trivial
  | _=>trivial
theorem xX{v:bw}{z:V}(h:aj v=some z):∀x∈z.cells,∀sz xs o,x≠.sl sz xs o:=by
 have key:∀(v:bw)(x:V),aj v=some x->∀sz xs o,x≠.sl sz xs o:=by
  intro v x h sz xs o e;subst e;unfold aj at h;split at h<;>try (simp at h;done)
  all_goals (simp only[eL] at h;obtain⟨l,_,h⟩:=h;split at h<;>simp at h)
 have keys:∀(vs:dA)(xs:aC),nJ vs=some xs->∀x∈xs,∀sz ys o,x≠.sl sz ys o:=by
  intro vs
  induction vs with
  | nil=>intro xs h x hx;simp only[nJ,bu] at h;subst h;simp at hx
  | cons v vs ih =>
   intro xs h x hx;simp only[nJ] at h;split at h<;>simp only[bu,reduceCtorEq] at h;rename_i y ys hy tH;subst h;rcases dN.1 hx with rfl|hx
   ·exact key v _ hy
   ·exact ih ys tH x hx
 intro x hx
 by_cases ha:∃cs,z=.agg cs
 ·obtain⟨cs,rfl⟩:=ha;unfold aj at h;split at h<;>try (simp at h;done)
  simp only[eL] at h;obtain⟨l,hl,h⟩:=h;split at h<;>simp only[bu,reduceCtorEq,V.agg.injEq] at h;subst h;exact keys _ _ hl x hx
 ·have:z.cells=[z]:=by cases z<;>first|rfl|exact absurd ⟨_,rfl⟩ ha
  rw[this] at hx;simp at hx;subst hx;exact key v _ h
theorem yZ{env cZ:aC}{x:aX}{v:V}(h:take env x=some (v,cZ)):∀sz xs,v≠.sl sz xs .lock:=by
 intro sz xs e;subst e;cases x with
 | tmp t =>
  simp only[take,eW] at h;split at h<;>simp only[bu,cw,reduceCtorEq] at h
  ·obtain⟨h,_⟩:=h;simp at h
  ·obtain⟨h,_⟩:=h;rename_i y _ _ _;cases y<;>simp[aW] at h
 | const c =>
  simp only[take,ak,mA,cw] at h;obtain⟨u,hu,rfl,_⟩:=h;exact xX hu (.sl sz xs .lock) (by simp[V.cells]) sz xs .lock rfl
 | global k=>simp[take,ak] at h
 | func f=>simp[take,ak] at h
theorem zi0{v:V}(h:dD v=true):(∃cs,v=.agg cs/\v.laid=cs.map aW)\/(v.one=true/\v.laid=[v]/\v.cells=[v]):=by
 cases v<;>first
  |exact .inl ⟨_,rfl,rfl⟩
  |exact .inr ⟨rfl,rfl,rfl⟩
  |(simp[dD] at h)
theorem V9{n b off:Nat}{v:V}{cv:bw}(hr:aR g v cv)(hc:dD v=true)(ho:cN g n w (.cell b off) v cv)(lH:∀sz xs,v≠.sl sz xs .lock)(dy:v.top<=n) :
  bN g v.laid cv.cells.toList/\aI v.laid<=n/\∀(j:Nat)(x:V)(u:bw),v.laid[j]?=some x->cv.cells[j]?=some u->cN g n w (.cell b (off+j)) x u/\∀sz xs,x≠.sl sz xs .lock:=by
 have ek:=vq hr hc;rcases zi0 hc with⟨cs,rfl,hl⟩|⟨h1,hl,Dq⟩
 ·rw[hl];refine⟨ek.Ad,by rw[eX];exact dy,λj x u hx hu=>?_⟩
  simp only[gj,mA] at hx;obtain⟨y,_,rfl⟩:=hx;exact⟨vl _ _ _ _ _ _,λsz xs e=>by cases y<;>simp[aW] at e⟩
 ·rw[hl];rw[Dq] at ek;refine⟨ek,by simp only[aI];omega,λj x u hx hu=>?_⟩
  cases j with
  | zero =>
   simp at hx;subst hx;have e:cv.cells=#[cv]:=by
    have:=hr.n_ h1;cases cv<;>first
     |rfl
     |(simp[Value.oneCell'] at this)
   rw[e] at hu;simp at hu;subst hu;exact⟨ho,lH⟩
  | succ j=>simp at hx
end
section
variable{P:aQ}{B:dY}{g:Gh}{s:St}{a:Act}{w:aP}
theorem qG{α:Type}:∀(vs cs:List α)(off j:Nat),off+vs.length<=cs.length->(storeCells cs off vs)[j]?=if off<=j/\j<off+vs.length then vs[j - off]? else cs[j]?
 | [],cs,off,j,_=>by
  have:¬(off<=j/\j<off+0):=by omega
  simp[storeCells];intro h1 h2;omega
 | v::vs,cs,off,j,h=>by
  simp only[storeCells];rw[qG vs (cs.set off v) (off+1) j (by simp at h ⊢;omega)]
  simp only[aZ] at h ⊢
  by_cases h1:j=off
  ·subst h1;have:¬(j+1<=j/\j<j+1+vs.length):=by omega
   have h2:j<=j/\j<j+(vs.length+1):=by omega
   simp only[if_neg this,if_pos h2,Bb];rw[Ct (by omega)]
   rfl
  ·by_cases h2:off+1<=j/\j<off+1+vs.length
   ·have h3:off<=j/\j<off+(vs.length+1):=by omega
    rw[if_pos h2,if_pos h3];have:j - off=(j - (off+1))+1:=by omega
    rw[this];rfl
   ·have h3:¬(off<=j/\j<off+(vs.length+1)):=by omega
    rw[if_neg h2,if_neg h3,su (by omega)]
theorem V_{lk:aN}{b:Nat}:∀{n off:Nat}{cs:aC},wz lk b off n cs=true->∀j x,j<n->cs[j]?=some x->locked x=true->(b,off+j)∈lk
 | 0,_,_,_,j,x,hj,_,_=>by omega
 | n+1,off,[],h,j,x,_,hx,_=>by simp at hx
 | n+1,off,c::cs,h,j,x,hj,hx,ri=>by
  simp only[wz,ei,tX,EK] at h;cases j with
  | zero =>
   simp at hx;subst hx;rcases h.1 with h1|h1
   ·rw[ri] at h1;cases h1
   ·obtain⟨p,hp,h2⟩:=List.any_eq_true.1 h1;simp only[ei,Nat.beq_eq] at h2;obtain⟨h3,h4⟩:=h2;cases p;simp only at h3 h4;subst h3;subst h4;simpa using hp
  | succ j =>
   have:=V_ h.2 j x (by omega) (by simpa using hx) ri
   rw[show off+(j+1)=off+1+j by omega]
   exact this
theorem Rel.write(h:Rel B g s a w){b:Nat}{x0 x:aT}{v:V}{l:aN}{w':aP}{N:Nat}(hN:N=g.bO b)(hb:s.H.get b=some x0)(oC:∀c,c≠N->w'.heap[c]?=w.heap[c]?)(fK:w'.heap.size=w.heap.size)(pP:w'.os=w.os)(ht:w'.tape=w.tape)(nQ:w'.output=w.output)
  (eE:fU g s.H.au.length w' b x) (dy:x.top<=s.H.au.length) (gX:x.top<=b+1\/x.top<=v.top\/x.top<=x0.top\/x.top<=max x0.top v.top)
  (ri:∀off,D9 B b off->∃cs t sz xs,x=.cells cs t/\cs[off]?=some (.sl sz xs .lock)) (hl:∀p∈l,¬D9 B p.1 p.2) :
  Rel B g { s with H:=(s.H.set b x).bQ b v,lk:=l } a w':=by
 subst hN;simp only[Hp.get,zg] at hb;have l6:b<s.H.au.length:=(cP.1 hb).1;have ng:((s.H.set b x).bQ b v).au=s.H.au.set b x:=by
  simp only[Hp.bQ,Hp.set];split<;>rfl
 have hlen:((s.H.set b x).bQ b v).au.length=s.H.au.length:=by rw[ng];simp
 have iR:gV B.d (some b) none s.H.au.length g w g w' :=
  ⟨.refl _ _,λc _ hc _=>oC c (λe=>hc b rfl e.symm),λ_ _ _=>rfl,λ_ _ _ _=>rfl,by omega,λ_ _ _=>rfl,λl hl=>(by cases hl),λb' dg=>(by cases dg;exact l6),λ_ _ _ _=>rfl,pP,ht,nQ⟩
 refine h.lE (s':={ s with H:=(s.H.set b x).bQ b v,lk:=l }) iR (by rw[hlen];exact dB _) (λb' dg b_=>?_) (λb' y Ih hy=>?_) (λb' h1 h2=>?_) (λb1 b2 h1 h2=>?_) (λc o u hu=>?_) (λc l hc=>?_)
  (λb j e=>by cases e) rfl rfl (λt y hy=>⟨y,hy,.inl ⟨rfl,λe=>by cases e⟩⟩) (λb' y hy=>?_) (λb' off Ii=>?_) hl (λ_ e=>by cases e)
 ·rw[ng,su (λe=>b_ (by rw[e]))]
 ·have dg:b'=b:=by
   rcases Ih with Ih|Ih
   ·cases Ih;rfl
   ·have:=(cP.1 hy).1;rw[hlen] at this;omega
  subst dg;rw[ng,Ct l6] at hy;cases hy;rw[hlen];exact⟨eE,dy⟩
 ·rw[hlen] at h2;omega
 ·rw[hlen] at h2;omega
 ·have hc:c≠g.bO b:=by rintro rfl;rw[h.de.apart b l6 o] at hu;cases hu
  rw[yA (oC c hc)];exact h.de.mem c o u hu
 ·have:=h.de.eo c l hc;omega
 ·rw[show({ s with H:=(s.H.set b x).bQ b v,lk:=l }:St).H.au=s.H.au.set b x from ng] at hy;have dG:∀p∈s.H.bC,p∈((s.H.set b x).bQ b v).bC:=by
   intro p hp;simp only[Hp.bQ,Hp.set];split
   ·exact hp
   ·exact d_ _ hp
  by_cases e:b'=b
  ·subst e;rw[Ct l6] at hy;cases hy;have G1:=h.bC b' x0 hb;have hv:v.top<=b'+1\/(b',v.top)∈((s.H.set b' x).bQ b' v).bC:=by
    simp only[Hp.bQ,Hp.set];split
    next h1=>exact .inl h1
    ·exact .inr (eT ..)
   have old:∀k,k<=x0.top->k<=b'+1\/(∃m,(b',m)∈((s.H.set b' x).bQ b' v).bC/\k<=m)\/∃y:aT,B.bs[b']?=some y/\k<=y.top:=by
    intro k hk;rcases G1 with h1|⟨m,h1,h2⟩|⟨y,h1,h2⟩
    ·exact .inl (cU hk h1)
    ·exact .inr (.inl ⟨m,dG _ h1,cU hk h2⟩)
    ·exact .inr (.inr ⟨y,h1,cU hk h2⟩)
   have new:∀k,k<=v.top->k<=b'+1\/(∃m,(b',m)∈((s.H.set b' x).bQ b' v).bC/\k<=m)\/∃y:aT,B.bs[b']?=some y/\k<=y.top:=by
    intro k hk;rcases hv with h1|h1
    ·exact .inl (cU hk h1)
    ·exact .inr (.inl ⟨_,h1,hk⟩)
   rcases gX with h1|h1|h1|h1
   ·exact .inl h1
   ·exact new _ h1
   ·exact old _ h1
   ·rcases Nat.le_total x0.top v.top with h2|h2
    ·rw[Nat.max_eq_right h2] at h1;exact new _ h1
    ·rw[Nat.max_eq_left h2] at h1;exact old _ h1
  ·rw[su (λe'=>e e'.symm)] at hy;rcases h.bC b' y hy with h1|⟨m,h1,h2⟩|h1
   ·exact .inl h1
   ·exact .inr (.inl ⟨m,dG _ h1,h2⟩)
   ·exact .inr (.inr h1)
 ·rw[show({ s with H:=(s.H.set b x).bQ b v,lk:=l }:St).H.au=s.H.au.set b x from ng]
  by_cases e:b'=b
  ·subst e;obtain⟨cs,t,sz,xs,h1,h2⟩:=ri off Ii;exact⟨cs,t,sz,xs,by rw[Ct l6,h1],h2⟩
  ·obtain⟨cs,t,sz,xs,h1,h2⟩:=h.lV b' off Ii;exact⟨cs,t,sz,xs,by rw[su (λe'=>e e'.symm)];exact h1,h2⟩
theorem y0{vs cs:aC}{off:Nat}:aI (storeCells cs off vs)<=max (aI cs) (aI vs):=vC (D4 _ _) (HS _ _)
theorem zk6(h:Rel B g s a w){t:aB}{p x:aX}{b off n:Nat}{v:V}{cZ:aC}{cs:aC}{ty:aB}(hp:ak s.env p=some (.ptr b off))(ht:take s.env x=some (v,cZ))(hn:z8 P t=some n)
  (hb:s.H.get b=some (.cells cs ty)) (eE:dD v=true) (hl:v.laid.length=n) (hle:off+n<=cs.length) (oT:wz s.lk b off n (cs.drop off)=true) :
  ∃g' w',(Instr.storeAt t (a.eval p) (a.eval x)).run P w=.ok () w'/\Rel B g' { s with env:=cZ,H:=(s.H.set b (.cells (storeCells cs off v.laid) ty)).bQ b v } a w':=by
 obtain⟨p1,p2,_⟩:=zI h hp;generalize Pu:a.eval p=cp at p1;cases p1;obtain⟨g',h1,v1,v2,v3,sM⟩:=vH h ht (.cell b off);have dg:({ s with env:=cZ }:St).H.get b=some (.cells cs ty):=hb;obtain⟨arr,a1,a2,a3,a4⟩:=xg h1 dg;obtain⟨l1,l2,l3⟩:=V9 v1 eE v2 (yZ ht) v3;have oo:cs.length=arr.size:=by have:=a2.len;simpa using this
 have nR:(a.eval x).cells.size=n:=by rw[<- hl,l1.len];simp
 have lW:g'.bO b=g.bO b:=by rw[sM.bO]
 have l6:b<s.H.au.length:=by simp only[Hp.get,zg] at hb;exact(cP.1 hb).1
 have ny:arr.toList.take off++(a.eval x).cells.toList++arr.toList.drop (off+(a.eval x).cells.toList.length)=storeCells arr.toList off (a.eval x).cells.toList:=by
  have oU:arr.toList=arr.toList.take off++(arr.toList.drop off).take n++arr.toList.drop (off+n):=by
   rw[aY,<- List.drop_drop,Cu,Cu]
  have hlen:(arr.toList.take off).length=off:=by simp;omega
  have:=kS (a.eval x).cells.toList ((arr.toList.drop off).take n) (arr.toList.take off) (arr.toList.drop (off+n)) (by simp;omega)
  rw[hlen,<- oU] at this;rw[this];simp[nR]
 have cj:(Instr.storeAt t (.pointer (some ⟨g.bO b,off,none⟩)) (a.eval x)).run P w=.ok () (w.setRow (g.bO b) (storeCells arr.toList off (a.eval x).cells.toList).toArray):=by
  have fe:=run_storeCells_at P (g.bO b) off ty (a.eval x).cells.toList 0 arr w (by rw[<- lW];exact a1) (by simp;omega) (λu hu=>by
   obtain⟨j,hj⟩:=List.getElem?_of_mem hu;have pN:j<v.laid.length:=by rw[l1.len];exact(cP.1 hj).1
   have hx:=fQ pN
   exact(l1.rel j _ u hx hj).n_ (l1.one j _ hx))
  simp only[nC] at fe;rw[ny] at fe;unfold Instr.storeAt storeVar;simp[Instr.sureAddr,jx hn,nR,fe]
 refine⟨g',_,cj,?_⟩;have CG:(w.setRow (g.bO b) (storeCells arr.toList off (a.eval x).cells.toList).toArray).heap[g'.bO b]?=some (.cells (storeCells arr.toList off (a.eval x).cells.toList).toArray ty (0,0)):=by
  rw[lW];exact setRow_heap w _ _ _ ty _ (by rw[<- lW];exact a1)
 have iR:gV B.d (some b) none s.H.au.length g' w g' (w.setRow (g.bO b) (storeCells arr.toList off (a.eval x).cells.toList).toArray) :=
  ⟨.refl _ _,λc _ hc _=>setRow_other w _ c _ (λe=>hc b rfl (by rw[lW,e])),λ_ _ _=>rfl,λ_ _ _ _=>rfl,by simp[World.setRow],λ_ _ _=>rfl,λl hl=>(by cases hl),λb' dg=>(by cases dg;exact l6),λ_ _ _ _=>rfl,rfl,rfl,rfl⟩
 have key:=Rel.write (l:=s.lk) (v:=v) h1 (b:=b) (x0:=.cells cs ty) (x:=.cells (storeCells cs off v.laid) ty) (N:=g.bO b) lW.symm dg (λc hc=>setRow_other w _ c _ hc) (by simp[World.setRow]) rfl rfl rfl
  ⟨_,CG,by simp[kF,oo],λj y u hy hu=>?_⟩ (vC a3 l2) (.inr (.inr (.inr (cU y0 (ua.2 ⟨D4 _ _,?_⟩))))) (λo iB=>?_) h.oB
 ·exact key
 ·have fe:=a2.store off l1;have hr:=fe.rel j y u hy (by simpa using hu)
  refine⟨fe.one j y hy,hr,?_,?_⟩
  ·rw[qG _ _ _ _ (by omega)] at hy
   have nG:(storeCells arr.toList off (a.eval x).cells.toList)[j]?=some u:=by simpa using hu
   rw[qG _ _ _ _ (by rw[AM,AM,nR,<- oo];exact hle)] at nG
   by_cases hj:off<=j/\j<off+v.laid.length
   ·rw[if_pos hj] at hy;rw[if_pos (by simp[nR];omega)] at nG
    have:=(l3 (j - off) y u hy (by simpa using nG)).1
    rw[show off+(j - off)=j by omega] at this
    exact cN.same iR (λe=>by cases e) (λb1 h2 h3=>absurd (show b1<s.H.au.length from h3) (Nat.not_lt.2 h2)) this
   ·rw[if_neg hj] at hy;rw[if_neg (by simp[nR];omega)] at nG
    exact cN.same iR (λe=>by cases e) (λb1 h2 h3=>absurd (show b1<s.H.au.length from h3) (Nat.not_lt.2 h2)) (a4 j y u hy (by simpa using nG)).1
  ·rw[qG _ _ _ _ (by omega)] at hy
   have nG:(storeCells arr.toList off (a.eval x).cells.toList)[j]?=some u:=by simpa using hu
   rw[qG _ _ _ _ (by rw[AM,AM,nR,<- oo];exact hle)] at nG
   by_cases hj:off<=j/\j<off+v.laid.length
   ·rw[if_pos hj] at hy;rw[if_pos (by simp[nR];omega)] at nG
    have:=(l3 (j - off) y u hy (by simpa using nG)).2
    cases y with
    | sl sz xs o=>cases o with
     | lock=>exact absurd rfl (this sz xs)
     | _=>trivial
    | _=>trivial
   ·rw[if_neg hj] at hy;rw[if_neg (by simp[nR];omega)] at nG
    exact(a4 j y u hy (by simpa using nG)).2
 ·have:aI v.laid<=v.top:=by
   rcases zi0 eE with⟨cs',rfl,e⟩|⟨_,e,_⟩
   ·rw[e,eX];exact dB _
   ·rw[e];simp[aI]
  exact cU this (HS _ _)
 ·obtain⟨Wa,t2,sz,xs,c1,c2⟩:=h.lV b o iB;have oq:s.H.au[b]?=some (.cells cs ty):=by simpa[Hp.get,zg] using hb
  rw[oq] at c1;cases c1;refine⟨_,_,sz,xs,rfl,?_⟩;rw[qG _ _ _ _ (by omega)]
  by_cases hj:off<=o/\o<off+v.laid.length
  ·have:=V_ oT (o - off) (.sl sz xs .lock) (by omega) (by rw[HR,show off+(o - off)=o by omega];exact c2) rfl
   rw[show off+(o - off)=o by omega] at this
   exact absurd iB (h.oB _ this)
  ·rw[if_neg hj];exact c2
end
end Go.Vm
