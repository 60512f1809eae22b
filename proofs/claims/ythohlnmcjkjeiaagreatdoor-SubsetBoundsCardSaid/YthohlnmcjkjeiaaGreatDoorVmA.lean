/- The abstract machine Vm: Go data by value, a small heap for variables and maps, an interpreter over the model's own Code. Conditions: none but those named. -/
import GoSem.Step
import Derived.Calls
import Derived.Laws.AppendOwn
import Derived.Laws.OwnMore
import Derived.Laws.MakeOwn
import Derived.Laws.NewBlocks
import Derived.Laws.Rows
import Derived.Deep.Draws
import Derived.Tactics
import Derived.Laws.Cells
import Derived.Laws.Entries
import Derived.Laws.CopyRow
import Derived.Laws.StructEq
import Derived.Laws.Cover3
import Derived.WalkKit
import Derived.Laws.BytesString
import Derived.Laws.RangeString
import Derived.Laws.IdiomStrings
namespace Go
theorem aZ:∀{α:Type _}{as bs:List α},List.length (as++bs)=List.length as+List.length bs:=@List.length_append
theorem aV:∀{α:Type _}{β:Type _}(a:α)(f:α->Option β),Option.bind (some a) f=f a:=@Option.bind_some
theorem bp:∀{α:Type _}(as bs cs:List α),as++bs++cs=as++(bs++cs):=@List.append_assoc
theorem aW:∀{α:Type _}{β:Type _}(a:α)(f:α->β),Option.map f (some a)=some (f a):=@Option.map_some
theorem bh:∀{α:Type _}{a:α}{as:List α},List.length (a::as)=List.length as+1:=@List.length_cons
theorem br:∀{α:Type _}{a:α}{as bs:List α},a::as++bs=a::(as++bs):=@List.cons_append
theorem bz:∀{α:Type _}(val AF:α),(some val=some AF)=(val=AF):=@Option.some.injEq
theorem bt:∀{α:Type _}(as:List α),[]++as=as:=@List.nil_append
theorem bk:∀{α:Type _}{β:Type _}{f:α->β}{a:α}{l:List α},List.map f (a::l)=f a::List.map f l:=@List.map_cons
theorem bw:∀{α:Type _}{β:Type _}{f:α->β},List.map f []=[]:=@List.map_nil
theorem bI:∀{α:Type _}{as:List α}{i:Nat}{a:α},List.length (List.set as i a)=List.length as:=@List.length_set
theorem bX:∀{α:Type _}{x:α}{xs:List α}{a:α},List.set (x::xs) 0 a=a::xs:=@List.set_cons_zero
theorem bY:∀{α:Type _}{x:α}{xs:List α}{i:Nat}{a:α},List.set (x::xs) (i+1) a=x::List.set xs i a:=@List.set_cons_succ
theorem dA:∀{α:Type _}{i:Nat}{a:α}{l:List α},l[i]?=some a↔∃h,l[i]=a:=@List.getElem?_eq_some_iff
theorem cq:∀{α:Type _}{β:Type _}(fst:α)(snd:β)(IZ:α)(I0:β),((fst,snd)=(IZ,I0))=(fst=IZ/\snd=I0):=@Prod.mk.injEq
theorem eM:∀{α:Type _}{b:α}{EH:Type _}{x:Option EH}{f:EH->Option α},Option.bind x f=some b↔∃a,x=some a/\f a=some b:=@Option.bind_eq_some_iff
theorem fM:∀{α:Type _}{l₁ l₂:List α}{i:Nat},List.length l₁<=i->(l₁++l₂)[i]?=l₂[i - List.length l₁]?:=@List.getElem?_append_right
theorem eo:∀{α:Type _}(y:α){a:α}{l:List α},a∈l->a∈y::l:=@List.mem_cons_of_mem
theorem cZ:∀{n m k:Nat},n<=m->m<=k->n<=k:=@Nat.le_trans
theorem fo:∀{n m:Nat},Nat.beq n m=true->n=m:=@Nat.eq_of_beq_eq_true
theorem gF:∀{α:Type _}{l₁ l₂:List α}{i:Nat},i<List.length l₁->(l₁++l₂)[i]?=l₁[i]?:=@List.getElem?_append_left
theorem gG:∀{α:Type _}{l:List α}{i:Nat}(h:i<List.length l),l[i]?=some l[i]:=@List.getElem?_eq_getElem
theorem eF:∀(a b:Bool),((a&&b)=true)=(a=true/\b=true):=@Bool.and_eq_true
theorem dM:∀{α:Type _}{b:α}{l:List α}{a:α},a∈b::l↔a=b\/a∈l:=@List.mem_cons
theorem fy:∀{α:Type _}{a:α}{l:List α},a∈a::l:=@List.mem_cons_self
theorem dB:∀(n:Nat),n<=n:=@Nat.le_refl
theorem gh:(false=true)=False:=@Bool.false_eq_true
theorem dP:∀(n:Nat),0<=n:=@Nat.zero_le
theorem gm:∀{α:Type _}{a b:α},Option.getD (some a) b=a:=@Option.getD_some
theorem eY:∀(n m:Nat),n<m\/n ≥ m:=@Nat.lt_or_ge
theorem mS:∀{α:Type _}{b:α}{EH:Type _}{x:Option EH}{f:EH->α},Option.map f x=some b↔∃a,x=some a/\f a=b:=@Option.map_eq_some_iff
theorem iK:∀{α:Type _}{β:Type _}{as:List α}(f:α->β),List.length (List.map f as)=List.length as:=@List.length_map
theorem mu:∀{α:Type _}{β:Type _}{f:α->β}{l:List α}{i:Nat},(List.map f l)[i]?=Option.map f l[i]?:=@List.getElem?_map
theorem pG:∀{α:Type _}{l:List α}{i:Nat}{a:α},l[i]?=some a->a∈l:=@List.mem_of_getElem?
theorem iV:∀(a:Nat),Nat.beq a a=true:=@Nat.beq_refl
theorem s_:∀{α:Type _}{i:Nat}{b:α}{xs:Array α},xs[i]?=some b↔∃h,xs[i]=b:=@Array.getElem?_eq_some_iff
theorem nk:∀{α:Type _}(as:List α),as++[]=as:=@List.append_nil
theorem rA:∀{n m:Nat},Nat.ble n m=true->n<=m:=@Nat.le_of_ble_eq_true
theorem mw:(!true)=false:=@Bool.not_true
theorem su:∀{α:Type _}{i:Nat}{l:List α},List.length l<=i->List.take i l=l:=@List.take_of_length_le
theorem ny:∀{α:Type _}{l:List α},List.drop 0 l=l:=@List.drop_zero
theorem r8:∀{α:Type _}{l:List α}{i j:Nat},i ≠ j->∀{a:α},(List.set l i a)[j]?=l[j]?:=@List.getElem?_set_ne
theorem mU:∀{α:Type _}{β:Type _}{b:β}{f:α->β}{l:List α},b∈List.map f l↔∃a,a∈l/\f a=b:=@List.mem_map
theorem oS:(!false)=true:=@Bool.not_false
theorem r9:∀{α:Type _}{a b:α},a∈[b]↔a=b:=@List.mem_singleton
theorem uf:∀{α:Type _}{l:List α}{i:Nat},List.length l<=i->l[i]?=none:=@List.getElem?_eq_none
theorem uN:∀{α:Type _}{s t:List α}(i:Nat)(x:α),List.length s<=i->List.set (s++t) i x=s++List.set t (i - List.length s) x:=@List.set_append_right
theorem oh:∀(n:Nat),0+n=n:=@Nat.zero_add
theorem om:∀(n:Nat),n+0=n:=@Nat.add_zero
theorem tc:∀{α:Type _}{l:List α}{i j:Nat}{a:α},(List.set l i a)[j]?=if i=j then if i<List.length l then some a else none else l[j]?:=@List.getElem?_set
theorem lJ:∀(p:Prop),(True/\p)=p:=@true_and
theorem p6:∀(n m k:Nat),n+m+k=n+(m+k):=@Nat.add_assoc
theorem uO:∀{n m k:Nat},n<m->m<=k->n<k:=@Nat.lt_of_lt_of_le
theorem Aj:∀{α:Type _}{a:α}{l:List α}{i:Nat},List.drop (i+1) (a::l)=List.drop i l:=@List.drop_succ_cons
theorem ug:(¬False)=True:=@not_false_eq_true
theorem tf:∀(a b:Bool),((a||b)=true)=(a=true\/b=true):=@Bool.or_eq_true
theorem BO:∀{α:Type _}{l:List α}{i:Nat}{a:α},i<List.length l->(List.set l i a)[i]?=some a:=@List.getElem?_set_self
theorem Ak:∀{α:Type _}{l:List α}{i j:Nat},(List.take i l)[j]?=if j<i then l[j]? else none:=@List.getElem?_take
theorem AG:∀{α:Type _}{xs:Array α},List.length (Array.toList xs)=Array.size xs:=@Array.length_toList
theorem uP:∀(n:Nat),Int.toNat ↑n=n:=@Int.toNat_natCast
theorem AH:∀{α:Type _}{a:α}{as:List α}{i:Nat},List.take (i+1) (a::as)=a::List.take i as:=@List.take_succ_cons
theorem Bt:∀{α:Type _}{i:Nat}{a:α}{l:List α},a∈List.take i l->a∈l:=@List.mem_of_mem_take
theorem Bu:∀{α:Type _}{a:α}{as:List α}(bs:List α),a∈as->a∈as++bs:=@List.mem_append_left
theorem uh:∀{α:Type _}{a:α},¬a∈[]:=@List.not_mem_nil
theorem tu:∀{α:Type _}{a:α}{s t:List α},a∈s++t↔a∈s\/a∈t:=@List.mem_append
theorem uQ:∀{α:Type _}{i:Nat}{l:List α},List.length (List.take i l)=min i (List.length l):=@List.length_take
theorem D_:∀{α:Type _}{xs:Array α}{i:Nat}(h:i<Array.size xs),xs[i]?=some xs[i]:=@Array.getElem?_eq_getElem
theorem BP:∀{α:Type _}{a:α}{i:Nat}{l:List α},a∈List.drop i l->a∈l:=@List.mem_of_mem_drop
theorem sw:∀(b:Bool),(true&&b)=b:=@Bool.true_and
theorem oo:∀{α:Sort _}(a b:α),(bif true then a else b)=a:=@cond_true
theorem CQ:∀{α:Type _}{b:α}(as:List α){bs:List α},b∈bs->b∈as++bs:=@List.mem_append_right
theorem G0:∀{α:Type _}{l:List α},List.length l=0->l=[]:=@List.eq_nil_of_length_eq_zero
theorem rB:∀{α:Sort _}(a b:α),(bif false then a else b)=b:=@cond_false
theorem Ea:∀{α:Type _}(i:Nat)(l:List α),List.take i l++List.drop i l=l:=@List.take_append_drop
theorem F8:∀{α:Type _}{i:Nat}{l:List α}(h:i<List.length l),List.drop i l=l[i]::List.drop (i+1) l:=@List.drop_eq_getElem_cons
theorem tv:∀(n m k:Nat),(n+m) * k=n * k+m * k:=@Nat.add_mul
theorem BQ:∀{α:Type _}{val AF:α},some val=some AF->val=AF:=@Option.some.inj
theorem Bv:∀{α:Type _}{l:List α},List.take 0 l=[]:=@List.take_zero
theorem tw:∀{a b c:Nat},max a b<=c↔a<=c/\b<=c:=@Nat.max_le
theorem F9:∀{α:Type _}{xs:Array α}{i:Nat},(Array.toList xs)[i]?=xs[i]?:=@Array.getElem?_toList
theorem BR:∀(x y i:Nat),Nat.testBit (x||| y) i=(Nat.testBit x i||Nat.testBit y i):=@Nat.testBit_or
theorem Dr:∀{α:Type _}{p:α->Bool}{l:List α},List.all l p=true↔∀(x:α),x∈l->p x=true:=@List.all_eq_true
theorem Bw:∀(b:Bool),(false||b)=b:=@Bool.false_or
theorem Eb:∀{α:Type _}{β:Type _}{x:α}{xs:List α}{f:α->List β},List.flatMap f (x::xs)=f x++List.flatMap f xs:=@List.flatMap_cons
theorem F_:∀{α:Type _}{s t:List α}(i:Nat)(x:α),i<List.length s->List.set (s++t) i x=List.set s i x++t:=@List.set_append_left
theorem Ds:∀(a b:Nat),a<=max a b:=@Nat.le_max_left
theorem Ga:∀{n m:Nat},Nat.testBit (2 ^ n) m=decide (n=m):=@Nat.testBit_two_pow
theorem G1:∀{n m:Nat},n<=m->Nat.ble n m=true:=@Nat.ble_eq_true_of_le
theorem EI:∀{α:Type _}{l₁ l₂:List α},(∀(i:Nat),l₁[i]?=l₂[i]?)->l₁=l₂:=@List.ext_getElem?
theorem G2:∀{a m n:Nat},1<a->m<n->a ^ m<a ^ n:=@Nat.pow_lt_pow_right
theorem EJ:∀{a b:Nat},a<b->a % b=a:=@Nat.mod_eq_of_lt
theorem G3:∀{α:Type _}{a:α}{n:Nat},List.replicate (n+1) a=a::List.replicate n a:=@List.replicate_succ
theorem Gb:∀(b:Bool),((!b)=true)=(b=false):=@Bool.not_eq_true'
theorem tB:∀(p:Prop),(p\/False)=p:=@or_false
theorem Ec:∀(b:Bool),(false&&b)=false:=@Bool.false_and
theorem I1:∀{α:Type _}{a:α},List.length [a]=1:=@List.length_singleton
theorem EK:∀{a b:Bool},a=b↔(a=true↔b=true):=@Bool.eq_iff_iff
theorem G4:∀{α:Type _}{xs:List α}{i j:Nat},(List.drop i xs)[j]?=xs[i+j]?:=@List.getElem?_drop
theorem Gc:∀{α:Type _}{l:List α},List.take (List.length l) l=l:=@List.take_length
theorem Dt:∀(n:Nat),n - n=0:=@Nat.sub_self
theorem G5:∀(a b:Nat),b<=max a b:=@Nat.le_max_right
theorem Gd:∀{m n:Nat},m∈List.range n↔m<n:=@List.mem_range
theorem MZ:∀(n m:Nat),n+m - n=m:=@Nat.add_sub_cancel_left
theorem I2:∀{x y n:Nat},x<2 ^ n->y<2 ^ n->x||| y<2 ^ n:=@Nat.or_lt_two_pow
theorem Ki:∀{α:Type _}{l:List α},0<List.length l↔l ≠ []:=@List.length_pos_iff
theorem Kj:∀{i n:Nat},i<n->(List.range n)[i]?=some i:=@List.getElem?_range
theorem I3:∀(b:Bool),(¬b=true)=(b=false):=@Bool.not_eq_true
theorem Kk:∀(n:Nat),n=0\/n > 0:=@Nat.eq_zero_or_pos
theorem Kl:∀{n m k:Nat},n<=m->m<k->n<k:=@Nat.lt_of_le_of_lt
theorem Km:∀{n m:Nat},n<=m->n<=Nat.succ m:=@Nat.le_succ_of_le
theorem Ko:∀(n:Nat),n<Nat.succ n:=@Nat.lt_succ_self
theorem I4:∀(n m:Nat),n+m=m+n:=@Nat.add_comm
theorem Oj:(true=false)=False:=@Bool.true_eq_false
theorem I5:∀(n:Nat),n * 1=n:=@Nat.mul_one
end Go
namespace Go.Vm
open Go
section
theorem aI{α:Sort _}{h:Decidable True}(t e:α):@ite α True h t e=t:=if_true ..
theorem bD{α:Sort _}{h:Decidable False}(t e:α):@ite α False h t e=e:=if_false ..
inductive uj where
 |no|yes (e:TypeId)|lock
 deriving DecidableEq,Inhabited
inductive V where
 |bool (b:Bool)
 |int (k:IntKind) (n:Int)
 |str (s:List Nat)
 |fQ|ptr (b off:Nat)|eV (g off:Nat)|obj (k:Nat)|vp (cs:List V)
 |aH|sl (sz:Nat) (xs:List V) (o:uj)|sr (b off len cap:Nat)
 |mz|map (b:Nat)
 |pH|fn (f:Fn) (first cap:List V)
 |bP|dX (t:TypeId) (v:V)
 |dF (b u len:Nat)|gk (b u k:Nat)
 |agg (cs:List V)
 |bx (vs:List V)
 |eC
 deriving Inhabited
abbrev aP:=List (Nat×Nat)
abbrev bS:=List (V×List V)
abbrev oq:=Option (Nat×Bool)
abbrev ei:=List Value
abbrev dR:=Array Value
abbrev rT:=Array Operand
abbrev cw:=List Tmp
abbrev fz:=Option Tmp
abbrev aG:=List V
abbrev cj:=Option V
abbrev bO:=List Nat
abbrev aD:=TypeId
abbrev aY:=Program
abbrev aQ:=World
abbrev bC:=Value
abbrev a_:=Operand
def dD:V->Bool
 | .bx _|.eC=>false
 | _=>true
def V.cells:V->aG
 | .agg cs=>cs
 | v=>[v]
def bg:V->V
 | .sl sz xs _=>.sl sz xs .no
 | v=>v
def V.laid:V->aG
 | .agg cs=>cs.map bg
 | v=>[v]
mutual
def V.top:V->Nat
 | .ptr b _|.sr b _ _ _|.map b=>b+1
 | .dF b _ _|.gk b _ _=>b+1
 | .vp cs|.sl _ cs _|.agg cs|.bx cs=>aL cs
 | .fn _ a c=>max (aL a) (aL c)
 | .dX _ v=>v.top
 | _=>0
def aL:aG->Nat
 | []=>0
 | v::vs=>max v.top (aL vs)
end
def nth{α:Type}:List α->Nat->Option α
 | [],_=>none
 | x::_,0=>some x
 | _::xs,n+1=>nth xs n
def wI{β:Type}(n:Nat)(k:Nat->β):β :=
 match n with
 | 0=>k 0
 | m+1=>k (m+1)
def U1{β:Type}(n:Int)(k:Int->β):β :=
 match n with
 | .ofNat m=>wI m λm=>k (.ofNat m)
 | .negSucc m=>wI m λm=>k (.negSucc m)
def Se{β:Type}:bO->(bO->β)->β
 | [],k=>k []
 | x::xs,k=>wI x λx=>Se xs λys=>k (x::ys)
def fL{α β:Type}:List α->(List α->β)->β
 | [],k=>k []
 | x::xs,k=>fL xs λys=>k (x::ys)
def fC{β:Type}(v:V)(k:V->β):β :=
 match v with
 | .bool true=>k (.bool true)
 | .bool false=>k (.bool false)
 | .int kd n=>U1 n λn=>k (.int kd n)
 | .str s=>Se s λs=>k (.str s)
 | .ptr b o=>wI b λb=>wI o λo=>k (.ptr b o)
 | .sr b o n c=>wI b λb=>wI o λo=>wI n λn=>wI c λc=>k (.sr b o n c)
 | .map b=>wI b λb=>k (.map b)
 | .dF b u n=>wI b λb=>wI u λu=>wI n λn=>k (.dF b u n)
 | .gk b u j=>wI b λb=>wI u λu=>wI j λj=>k (.gk b u j)
 | .sl sz xs o=>fL xs λxs=>k (.sl sz xs o)
 | .vp cs=>fL cs λcs=>k (.vp cs)
 | v=>k v
def AI{β:Type}:aG->(aG->β)->β
 | [],k=>k []
 | x::xs,k=>fC x λx=>AI xs λys=>k (x::ys)
def fV{β:Type}(v:V)(k:V->β):β :=
 match v with
 | .agg cs=>AI cs λcs=>k (.agg cs)
 | .bx cs=>AI cs λcs=>k (.bx cs)
 | .fn f a c=>AI a λa=>AI c λc=>k (.fn f a c)
 | v=>fC v k
def I6{α β:Type}:List α->Nat->α->(List α->β)->β
 | [],_,_,k=>k []
 | _::xs,0,v,k=>k (v::xs)
 | x::xs,n+1,v,k=>I6 xs n v λys=>k (x::ys)
inductive bq where
 |cells (cs:aG) (t:aD)
 |map (es:List (V×V))
 |iter (s:bO) (pos:Nat)
 |ul (eK sz:Nat) (cs:aG) (e:aD)
 deriving Inhabited
structure Hp where
 az:List bq
 bJ:aP
 deriving Inhabited
def Hp.push(H:Hp)(b:bq):Hp:={ H with az:=H.az++[b] }
def Hp.get(H:Hp)(b:Nat):Option bq:=nth H.az b
def Hp.set(H:Hp)(b:Nat)(x:bq):Hp:={ H with az:=H.az.set b x }
def Hp.bU(H:Hp)(b:Nat)(v:V):Hp:=if v.top<=b+1 then H else { H with bJ:=(b,v.top)::H.bJ }
inductive Out where
 |ret (v:V)
 |pX (v:V)
inductive Ex where
 |normal|exit (id:Nat)|goto (l:Nat)|ret|pX (v:V)
inductive OR where
 |val (v:V)
 |skip
 |pX (v:V)
def Du:V->Bool
 | .agg _|.bx _|.eC=>false
 | _=>true
mutual
def aj:bC->cj
 | .bool b=>some (.bool b)
 | .int k n=>some (.int k n)
 | .string s=>some (.str (s.data.toList.map UInt8.toNat))
 | .pointer none=>some .fQ
 | .slice none 0 0=>some .aH
 | .map none=>some .mz
 | .nilFunc=>some .pH
 | .func f ⟨[]⟩ ⟨[]⟩=>some (.fn f [] [])
 | .nilIface=>some .bP
 | .agg ⟨cs⟩=>(nF cs).bind λl=>if l.all Du then some (.agg l) else none
 | .tuple ⟨[]⟩=>some (.bx [])
 | _=>none
def nF:ei->Option aG
 | []=>some []
 | v::vs=>match aj v,nF vs with
  | some x,some xs=>some (x::xs)
  | _,_=>none
end
section
variable(P:aY)
def z4(t:aD):Option Nat:=(P.info? t).map (·.size)
def qG(t:aD):Option Bool:=(P.underlying t).map λ|.struct _|.array _ _=>true|_=>false
def qL(t:aD):cj:=(P.info? t).bind λi=>i.zero.bind aj
def kV(t:aD)(cs:aG)(off:Nat):cj:=do
 if <- qG P t then
  let n <- z4 P t
  if off+n<=cs.length then some (.agg ((cs.drop off).take n)) else none
 else nth cs off
def xR(isAgg:Bool)(sz:Nat):Nat->aG->aG
 | 0,_=>[]
 | n+1,cs=>(if isAgg then .agg (cs.take sz) else cs.headD .eC)::xR isAgg sz n (cs.drop sz)
def wu(H:Hp)(elem:aD):V->Option aG
 | .aH=>some []
 | .sl sz xs _=>do
  let n <- z4 P elem
  if n=sz then some xs else none
 | .sr b off len _=>do
  let .cells cs _ <- H.get b|none
  let n <- z4 P elem
  let ag <- qG P elem
  if Nat.ble (off+len * n) cs.length && (ag || Nat.beq n 1) then some (xR ag n len ((cs.drop off).map bg)) else none
 | _=>none
def nG:aG->Option bO
 | []=>some []
 | .int .u8 n::r=>(nG r).map ((n.toNat % 256)::·)
 | _=>none
def ot:bO->bO->Bool
 | [],[]=>true
 | a::x,b::y=>Nat.beq a b && ot x y
 | _,_=>false
def Kq:bO->bO->Bool
 | _,[]=>false
 | [],_::_=>true
 | a::x,b::y=>Nat.blt a b || (Nat.beq a b && Kq x y)
def Ol(eq:aD->V->V->Option Bool):List Field->aG->aG->Option Bool
 | [],_,_=>some true
 | f::fs,xs,ys =>
  if f.name= "_" then none else do
   let a <- kV P f.type xs f.offset
   let b <- kV P f.type ys f.offset
   if <- eq f.type a b then Ol eq fs xs ys else some false
def M0(eq:aD->V->V->Option Bool)(e:aD)(n:Nat)(xs ys:aG):Nat->Nat->Option Bool
 | _,0=>some true
 | i,k+1=>do
  let a <- kV P e xs (i * n)
  let b <- kV P e ys (i * n)
  if <- eq e a b then M0 eq e n xs ys (i+1) k else some false
def Kr(ds:TypeDesc)(x y:V):Option Bool :=
 match ds with
 | .bool=>match x,y with
  | .bool a,.bool b=>some (a == b)
  | _,_=>none
 | .int _=>match x,y with
  | .int k a,.int k' b=>if k=k' then some (a == b) else none
  | _,_=>none
 | .string=>match x,y with
  | .str a,.str b=>some (ot a b)
  | _,_=>none
 | .pointer _=>match x,y with
  | .fQ,.fQ=>some true
  | .fQ,.ptr _ _=>some false
  | .ptr _ _,.fQ=>some false
  | .fQ,.obj _=>some false
  | .obj _,.fQ=>some false
  | _,_=>none
 | .interface _=>match x,y with
  | .bP,.bP=>some true
  | .bP,.dX _ _=>some false
  | .dX _ _,.bP=>some false
  | .dX tx _,.dX ty _=>if tx=ty then none else some false
  | _,_=>none
 | .slice _=>match x,y with
  | .aH,.aH=>some true
  | .aH,.sl _ (_::_) _=>some false
  | .sl _ (_::_) _,.aH=>some false
  | .aH,.sr _ _ _ _=>some false
  | .sr _ _ _ _,.aH=>some false
  | _,_=>none
 | .map _ _=>match x,y with
  | .mz,.mz=>some true
  | .mz,.map _=>some false
  | .map _,.mz=>some false
  | _,_=>none
 | .func _ _ _=>match x,y with
  | .pH,.pH=>some true
  | .pH,.fn _ _ _=>some false
  | .fn _ _ _,.pH=>some false
  | _,_=>none
 | _=>none
def AJ:Nat->aD->V->V->Option Bool
 | 0,_,_,_=>none
 | d+1,t,x,y=>match P.underlying t with
  | none=>none
  | some ds=>match x,y with
   | .agg xs,.agg ys=>match ds with
    | .struct fs=>if P.stoodInHeld t then none else Ol P (AJ d) fs.toList xs ys
    | .array len e=>match z4 P e with
     | some n=>M0 P (AJ d) e n xs ys 0 len
     | none=>none
    | _=>none
   | x,y=>Kr ds x y
def isConst:a_->Bool
 | .const _=>true
 | _=>false
def yc(t:aD)(x y:a_)(u v:V):Bool :=
 match u,v with
 | .bP,.bP=>isConst x || isConst y
 | .agg _,.agg _=>!P.eqGuardType P.depth t
 | .eC,_=>false
 | _,.eC=>false
 | _,_=>true
def jz(op:BinOp)(t:aD)(x y:a_)(u v:V):Bool :=
 match op with
 | .eql=>yc P t x y u v
 | .neq=>yc P t x y u v
 | _=>true
def Kt(op:BinOp)(k:IntKind)(x y:Int):cj :=
 if y<0 then none else
 let n:=min y.toNat k.bits
 match op with
 | .shl=>some (.int k (k.wrap (x * 2 ^ n)))
 | .shr=>some (.int k (x.fdiv (2 ^ n)))
 | _=>none
def j3(op:BinOp)(k:IntKind)(x y:Int):cj :=
 match op with
 | .add=>some (.int k (k.wrap (x+y)))
 | .sub=>some (.int k (k.wrap (x - y)))
 | .mul=>some (.int k (k.wrap (x * y)))
 | .quo=>if y=0 then none else some (.int k (k.wrap (x.tdiv y)))
 | .rem=>if y=0 then none else some (.int k (x.tmod y))
 | .and=>some (.int k (k.wrap ((BitVec.ofInt k.bits x &&& BitVec.ofInt k.bits y).toNat)))
 | .or=>some (.int k (k.wrap ((BitVec.ofInt k.bits x ||| BitVec.ofInt k.bits y).toNat)))
 | .xor=>some (.int k (k.wrap ((BitVec.ofInt k.bits x ^^^ BitVec.ofInt k.bits y).toNat)))
 | .andNot=>some (.int k (k.wrap ((BitVec.ofInt k.bits x &&& ~~~ (BitVec.ofInt k.bits y)).toNat)))
 | .eql=>some (.bool (x == y))
 | .neq=>some (.bool (x != y))
 | .lss=>some (.bool (x<y))
 | .leq=>some (.bool (x<=y))
 | .gtr=>some (.bool (x > y))
 | .geq=>some (.bool (x ≥ y))
 | _=>none
def Om(op:BinOp)(x y:bO):cj :=
 match op with
 | .add=>if x.length+y.length<=140737488355328 then some (.str (x++y)) else none
 | .eql=>some (.bool (ot x y))
 | .neq=>some (.bool !(ot x y))
 | .lss=>some (.bool (Kq x y))
 | .leq=>some (.bool (Kq x y || ot x y))
 | .gtr=>some (.bool !(Kq x y || ot x y))
 | .geq=>some (.bool !(Kq x y))
 | _=>none
def wX(op:BinOp)(t:aD)(x y:V):cj :=
 match op,x,y with
 | .shl,.int k a,.int _ b|.shr,.int k a,.int _ b=>Kt op k a b
 | _,.int k a,.int k' b=>if k=k' then j3 op k a b else none
 | _,.str a,.str b=>Om op a b
 | .eql,x,y=>(AJ P 100 t x y).map .bool
 | .neq,x,y=>(AJ P 100 t x y).map λb=>.bool !b
 | _,_,_=>none
def i_(op:UnOp)(x:V):cj :=
 match op,x with
 | .neg,.int k n=>some (.int k (k.wrap (0 - n)))
 | .xor,.int k n=>j3 .xor k (if k.signed then -1 else k.max) n
 | .not,.bool b=>some (.bool !b)
 | _,_=>none
def vz(src dst:aD)(x:V):cj:=do
 match <- P.underlying src,<- P.underlying dst,x with
 | _,.int k,.int _ n=>some (.int k (k.wrap n))
 | _,.string,.int _ n=>some (.str ((Utf8.encode n).data.toList.map UInt8.toNat))
 | _,.string,.str s=>some (.str s)
 | .slice e,.string,.aH=>do
  let .int .u8 <- P.underlying e|none
  some (.str [])
 | .slice e,.string,.sl 1 xs _=>do
  let .int .u8 <- P.underlying e|none
  (nG xs).map .str
 | .string,.slice e,.str s=>do
  let .int .u8 <- P.underlying e|none
  some (.sl 1 (s.map λ(b:Nat)=>.int .u8 b) .no)
 | _,_,_=>none
def ka(v:cj)(d:Nat):Option Nat :=
 match v with
 | none=>some d
 | some (.int _ n)=>if 0<=n then some n.toNat else none
 | _=>none
def y4(t:aD)(x:V)(lo hi:cj):cj:=do
 match <- P.underlying t,x with
 | .string,.str s=>do
  let h <- ka hi s.length
  let l <- ka lo 0
  if l<=h/\h<=s.length then some (.str ((s.take h).drop l)) else none
 | .slice e,.sl sz xs _=>do
  let h <- ka hi xs.length
  let l <- ka lo 0
  let n <- z4 P e
  if l<=h/\h<=xs.length/\n=sz then some (.sl sz ((xs.take h).drop l) .no) else none
 | .slice e,.aH=>do
  let h <- ka hi 0
  let l <- ka lo 0
  let _ <- z4 P e
  if l=0/\h=0 then some .aH else none
 | .slice e,.sr b off len cap=>do
  let h <- ka hi len
  let l <- ka lo 0
  let n <- z4 P e
  if l<=h/\h<=cap/\l<cap then some (.sr b (off+l * n) (h - l) (cap - l)) else
  if l=h/\h<=cap then some (.sl n [] .no) else none
 | _,_=>none
def zk(H:Hp)(gl:Nat->Nat->cj)(t:aD)(a:V):cj:=do
 match a with
 | .ptr b off=>do
  let .cells cs _ <- H.get b|none
  kV P t cs off
 | .vp cs=>kV P t cs 0
 | .gk b u k=>do
  let .ul eK _ cs _ <- H.get b|none
  if Nat.beq eK u then kV P t cs k else none
 | .eV g off=>if <- qG P t then none else gl g off
 | _=>none
def I7(a b:V):Option Bool :=
 match a,b with
 | .int k x,.int k' y=>if k=k' then some (x == y) else none
 | .str x,.str y=>some (ot x y)
 | .bool x,.bool y=>some (x == y)
 | _,_=>none
def yd(ds:TypeDesc)(k:V):Bool :=
 match ds,k with
 | .int _,.int _ _=>true
 | .string,.str _=>true
 | .bool,.bool _=>true
 | _,_=>false
def I8(k:V):List (V×V)->Option cj
 | []=>some none
 | (a,v)::r=>match I7 k a with
  | some true=>some (some v)
  | some false=>I8 k r
  | none=>none
def G6(k x:V):List (V×V)->Option (List (V×V))
 | []=>some [(k,x)]
 | (a,v)::r=>match I7 k a with
  | some true=>some ((k,x)::r)
  | some false=>(G6 k x r).map ((a,v)::·)
  | none=>none
def G7(l:bO):Nat×Nat :=
 let at' (k:Nat):Nat:=l.getD k 0
 let cont (k:Nat):Bool:=Nat.blt k l.length && Nat.beq (at' k / 64) 2
 let b0:=at' 0
 if b0<0x80 then (b0,1)
 else if b0 / 32 == 6 && cont 1 then
  let c:=(b0 % 32) * 64+at' 1 % 64
  if c ≥ 0x80 then (c,2) else (Utf8.runeError,1)
 else if b0 / 16 == 14 && cont 1 && cont 2 then
  let c:=(b0 % 16) * 4096+(at' 1 % 64) * 64+at' 2 % 64
  if c ≥ 0x800 && Utf8.valid c then (c,3) else (Utf8.runeError,1)
 else if b0 / 8 == 30 && cont 1 && cont 2 && cont 3 then
  let c:=(b0 % 8) * 262144+(at' 1 % 64) * 4096+(at' 2 % 64) * 64+at' 3 % 64
  if c ≥ 0x10000 && Utf8.valid c then (c,4) else (Utf8.runeError,1)
 else (Utf8.runeError,1)
def U2(t:aD)(v:V)(name:String):Option (FuncId×V):=do
 let i <- P.info? t
 let m <- i.methods.find? (·.name == name)
 if !m.path.isEmpty then none else
 let (f,pr) <- m.func
 match <- P.underlying t,pr with
 | .pointer _,true=>some (f,v)
 | .pointer _,false=>none
 | _,true=>none
 | _,false=>some (f,v)
def storeCells{α:Type}(cs:List α)(off:Nat):List α->List α
 | []=>cs
 | v::vs=>storeCells (cs.set off v) (off+1) vs
def locked:V->Bool
 | .sl _ _ .lock=>true
 | _=>false
def U3(name:String)(args:aG):cj :=
 match name,args with
 | "internal/bytealg.IndexByteString",[.str s,.int .u8 c]=>if 0<=c/\c<256 then some (.int .i64 (match s.findIdx? (λ(b:Nat)=>Nat.beq b c.toNat) with|some i=>i|none=>-1)) else none
 | _,_=>none
end
def Dv:List Oper->cw
 | [a,b]=>match a.dst,b.dst,b.op with
  | some k,some r,.assign (.tmp x)=>match Nat.beq k 19 && Nat.beq x 19 && Nat.beq r 2 with
   | true=>[k]
   | false=>[]
  | _,_,_=>[]
 | _=>[]
def Dw:List Oper->cw
 | [a,b,c]=>match a.dst,a.op,b.dst,b.op,c.op with
  | some k,.load _ _,some r,.slice _ (.tmp x) (some _) none none,.store _ _ (.tmp y)=>match Nat.beq k x && Nat.beq r y with
   | true=>[k,1048576+k]
   | false=>[]
  | _,_,_,_,_=>[]
 | _=>[]
def jQ(ops:Array Oper):cw :=
 (ops.toList.filterMap λo=>match o.op with
  | .call { callee:=.builtin .append,args,.. }=>match (args[0]?:Option a_) with
   | some (.tmp t)=>some t
   | _=>none
  | _=>none)++Dv ops.toList++Dw ops.toList
structure Cx where
 P:aY
 gl:Nat->Nat->cj
 call:FuncId->aG->Hp->Option (Out×Hp)
 uq:aD->Bool
def ak(env:aG):a_->cj
 | .tmp t=>match nth env t with
  | some v=>some (bg v)
  | none=>none
 | .const v=>aj v
 | .global g=>some (.eV g 0)
 | .func f=>some (.fn (.func f) [] [])
def de(env:aG):Option a_->Option cj
 | none=>some none
 | some x=>match ak env x with
  | some v=>some (some v)
  | none=>none
def take(env:aG):a_->Option (V×aG)
 | .tmp t=>match nth env t with
  | some (.sl sz xs (.yes e))=>I6 env t (.sl sz xs .no) λenv=>some (.sl sz xs (.yes e),env)
  | some v=>some (bg v,env)
  | none=>none
 | x=>(ak env x).map (·,env)
def av(env:aG):List a_->Option aG
 | []=>some []
 | x::xs=>match ak env x with
  | none=>none
  | some v=>fV v λv=>match av env xs with
   | none=>none
   | some vs=>some (v::vs)
structure St where
 env:aG
 H:Hp
 lk:aP
 defers:bS
def xS{β:Type}(H:Hp)(b:bq)(k:Nat->Hp->β):β :=
 match H with
 | ⟨bs,es⟩=>wI bs.length λn=>fL (bs++[b]) λbs=>k n ⟨bs,es⟩
def EL{β:Type}(H:Hp)(b:Nat)(x:bq)(v:V)(k:Hp->β):β :=
 match H with
 | ⟨bs,es⟩=>I6 bs b x λbs=>if v.top<=b+1 then k ⟨bs,es⟩ else wI v.top λt=>k ⟨bs,(b,t)::es⟩
def G8:Out×Hp->OR×Hp
 | (.ret v,H)=>(.val v,H)
 | (.pX v,H)=>(.pX v,H)
def Cx.bK(cx:Cx)(f:FuncId)(args:aG)(H:Hp):Option (OR×Hp) :=
 match cx.P.funcs[f]? with
 | none=>none
 | some fn=>match fn.body with
  | none=>match U3 fn.name args with
   | none=>none
   | some v=>some (.val v,H)
  | some _=>match cx.call f args H with
   | none=>none
   | some r=>some (G8 r)
def Cx.mB(cx:Cx)(fv:V)(args:aG)(H:Hp):Option (OR×Hp) :=
 match fv with
 | .fn (.func f) first cap=>fL ((first++args++cap).map bg) λargs=>cx.bK f args H
 | .fn (.method name) first _ =>
  match first++args with
  | .dX t v::rest=>match U2 cx.P t v name with
   | none=>none
   | some (f,r)=>fL ((r::rest).map bg) λargs=>cx.bK f args H
  | _=>none
 | _=>none
def ku(n bytes:Nat):Bool:=Nat.ble n 140737488355328 && Nat.ble (n * bytes) 140737488355328
def kb(P:aY)(H:Hp)(t:aD)(v y:V):cj:=do
 let .slice e <- P.underlying t|none
 let n <- z4 P e
 let i <- P.info? e
 let z <- i.zero
 if !Nat.beq z.cells.size n then none else
 let ys <- wu P H e y
 match v with
 | .aH=>match ys with
  | []=>some .aH
  | ys=>if ku ys.length i.bytes && !Nat.beq n 0 then some (.sl n ys (.yes e)) else none
 | .sl sz xs (.yes e')=>if Nat.beq e e' && Nat.beq n sz && !Nat.beq n 0 && ku (xs.length+ys.length) i.bytes then some (.sl n (xs++ys) (.yes e)) else none
 | _=>none
def qW(P:aY)(H:Hp)(t:aD)(v:V):Option Int :=
 match P.underlying t,v with
 | some .string,.str l=>some l.length
 | some (.slice _),.aH=>some 0
 | some (.slice _),.sl _ xs _=>some xs.length
 | some (.slice _),.sr _ _ n _=>some n
 | some (.slice _),.dF _ _ n=>some n
 | some (.map _ _),.mz=>some 0
 | some (.map _ _),.map b=>match H.get b with
  | some (.map es)=>some es.length
  | _=>none
 | _,_=>none
def Cx.builtin(cx:Cx)(b:Builtin)(argTypes:Array aD)(args:rT)(env:aG)(H:Hp):Option (OR×aG) :=
 match b,args.toList,argTypes.toList with
 | .len,[x],[t]=>do some (.val (.int .i64 (<- qW cx.P H t (<- ak env x))),env)
 | .append,[x,y],[t,u]=>do
  if !Nat.beq t u then none else
  let y <- ak env y
  let (v,env) <- take env x
  some (.val (<- kb cx.P H t v y),env)
 | .min,[x,y],_=>do
  match <- ak env x,<- ak env y with
  | .int k a,.int _ b=>some (.val (.int k (if b<a then b else a)),env)
  | _,_=>none
 | .max,[x,y],_=>do
  match <- ak env x,<- ak env y with
  | .int k a,.int _ b=>some (.val (.int k (if b > a then b else a)),env)
  | _,_=>none
 | _,_,_=>none
def xM(cells:aG)(place:Nat->Option (Nat×Nat))(env:aG):List (Nat×a_)->Option aG
 | []=>some cells
 | (i,x)::r=>do
  let v <- ak env x
  let (off,n) <- place i
  if dD v && Nat.beq v.cells.length n && Nat.ble (off+n) cells.length then xM (storeCells cells off v.cells) place env r else none
def Sf(P:aY)(fs:Array Field):Option aP:=fs.toList.mapM (λf=>(P.info? f.type).map λi=>(f.offset,i.size))
def kw(P:aY)(t:aD)(parts:Array (Nat×a_))(env:aG):cj :=
 match qL P t with
 | none=>none
 | some z=>if !dD z then none else match P.underlying t with
  | some (.struct fs)=>match Sf P fs with
   | some ps=>(xM z.cells (nth ps) env parts.toList).map .agg
   | none=>none
  | some (.array _ e)=>match P.info? e with
   | some ie=>(xM z.cells (λi=>some (i * ie.size,ie.size)) env parts.toList).map .agg
   | none=>none
  | _=>none
def CR(n len:Nat)(env:aG):aG->List (Nat×a_)->Option aG
 | xs,[]=>some xs
 | xs,(i,x)::r=>do
  let v <- ak env x
  if dD v && Nat.beq v.cells.length n && Nat.blt i len then fV v λv=>I6 xs i v λxs=>CR n len env xs r else none
def M3(P:aY)(t:aD)(k:V):Bool :=
 match P.underlying t with
 | some (.map kt _)=>match P.underlying kt with
  | some kd=>yd kd k
  | none=>false
 | _=>false
def zt(P:aY)(t:aD)(x:V)(i:Int):cj :=
 match P.underlying t with
 | some (.array len e)=>match z4 P e with
  | none=>none
  | some n=>match x with
   | .ptr b off=>if 0<=i/\i<len then some (.ptr b (off+i.toNat * n)) else none
   | .eV g off=>if 0<=i/\i<len then some (.eV g (off+i.toNat * n)) else none
   | .gk b u k=>if 0<=i/\i<len then some (.gk b u (k+i.toNat * n)) else none
   | .vp cs=>if 0<=i/\i<len then some (.vp (cs.drop (i.toNat * n))) else none
   | _=>none
 | some (.slice e)=>match z4 P e with
  | none=>none
  | some n=>match x with
   | .sl sz xs _=>if Nat.beq n sz then (if i<0 then none else match nth xs i.toNat with
    | some x=>some (.vp x.cells)
    | none=>none) else none
   | .sr b off len _=>if 0<=i/\i<len then some (.ptr b (off+i.toNat * n)) else none
   | .dF b u len=>if 0<=i/\i<len then some (.gk b u (i.toNat * n)) else none
   | _=>none
 | _=>none
def On(P:aY)(t:aD)(x:V)(i:Int):cj :=
 match P.underlying t with
 | some (.array len e)=>match z4 P e with
  | none=>none
  | some n=>match x with
   | .agg cs=>if 0<=i/\i<len then (kV P e cs (i.toNat * n)).map bg else none
   | _=>none
 | some .string=>match x with
  | .str l=>if i<0 then none else match nth l i.toNat with
   | some b=>some (.int .u8 b)
   | none=>none
  | _=>none
 | _=>none
def aa:V->cj
 | .ptr b o=>some (.ptr b o)
 | .eV b o=>some (.eV b o)
 | .gk b u k=>some (.gk b u k)
 | .vp cs=>some (.vp cs)
 | .obj k=>some (.obj k)
 | .fn (.func f) a c=>some (.fn (.func f) a c)
 | .dX t v=>some (.dX t v)
 | _=>none
def Sg(P:aY)(t:aD):Bool :=
 match P.underlying t with
 | none=>true
 | some (.interface _)=>true
 | _=>false
def xh(H:Hp):V->Option (List (V×V))
 | .mz=>some []
 | .map b=>match H.get b with
  | some (.map es)=>some es
  | _=>none
 | _=>none
def M4(P:aY)(e:aD)(k:V)(es:List (V×V)):Option (V×Bool) :=
 match I8 k es with
 | some (some v)=>some (v,true)
 | some none=>(qL P e).map (·,false)
 | none=>none
def Ku(P:aY)(H:Hp)(a:aD)(v:V):cj :=
 match P.underlying a,v with
 | some (.slice e),.sr b o l c=>match wu P H e (.sr b o l c) with
  | some xs=>some (.sl 1 xs .no)
  | none=>none
 | _,v=>some v
def w8(a:aD):aD:=549755813888+a
def Kv(P:aY)(H:Hp)(a b:aD)(v:cj):cj :=
 match v with
 | none=>none
 | some v=>match Ku P H a v with
  | none=>none
  | some v=>vz P a b v
def jc(P:aY)(gl:Nat->Nat->cj)(o:Oper)(env:aG)(H:Hp):cj:=do
 let ρ:=ak env
 match o.op with
 | .move x=>ρ x
 | .pick c a b=>do
  let .bool t <- ρ c|none
  match t with
  | true=>ρ a
  | false=>ρ b
 | .build t parts=>kw P t parts env
 | .buildSlice t len parts=>do
  let .slice e <- P.underlying t|none
  let n <- z4 P e
  let z <- qL P e
  if Nat.beq n 0 || Nat.blt 16777216 (len * n) || !Nat.beq z.cells.length n || !dD z then none else
  let xs <- CR n len env (List.replicate len z) parts.toList
  some (.sl n xs (.yes e))
 | .load t a=>do
  let v <- zk P H gl t (<- ρ a)
  some (bg v)
 | .nilCheck x=>do
  aa (<- ρ x)
 | .binOp op t x y _=>do
  let u <- ρ x
  let v <- ρ y
  if jz P op t x y u v then wX P op t u v else none
 | .unOp op _ x=>do i_ op (<- ρ x)
 | .convert a b x=>do vz P a b (<- ρ x)
 | .makeInterface t x=>do
  let v <- ρ x
  if Sg P t then none else some (.dX t v)
 | .makeFunc fn first cap=>do some (.fn fn (<- av env first.toList) (<- av env cap.toList))
 | .slice t x lo hi mx=>do
  let Sh <- de env lo
  let EM <- de env hi
  let v <- ρ x
  match mx with
  | none=>y4 P t v Sh EM
  | some m=>match <- ρ m,v,EM with
   | .int _ k,.sl sz xs o,some (.int _ h)=>if h<=k/\k<=xs.length then y4 P t (.sl sz xs o) Sh EM else none
   | _,_,_=>none
 | .fieldAddr t x f=>do
  let .struct fs <- P.underlying t|none
  let fd <- fs[f]?
  if Nat.beq (<- z4 P fd.type) 0 then none else
  match <- ρ x with
  | .ptr b off=>some (.ptr b (off+fd.offset))
  | .eV g off=>some (.eV g (off+fd.offset))
  | .gk b u k=>some (.gk b u (k+fd.offset))
  | .vp cs=>some (.vp (cs.drop fd.offset))
  | _=>none
 | .field t x f=>do
  let .struct fs <- P.underlying t|none
  let fd <- fs[f]?
  let .agg cs <- ρ x|none
  (kV P fd.type cs fd.offset).map bg
 | .indexAddr t x ix=>do
  let .int _ i <- ρ ix|none
  zt P t (<- ρ x) i
 | .index t x ix=>do
  let .int _ i <- ρ ix|none
  On P t (<- ρ x) i
 | .lookup t m k ok=>do
  let .map kt e <- P.underlying t|none
  let kd <- P.underlying kt
  let k <- ρ k
  if !yd kd k then none else
  let es <- xh H (<- ρ m)
  let (v,f) <- M4 P e k es
  some (if ok then .bx [bg v,.bool f] else bg v)
 | .typeAssert x _ t ok=>do
  if Sg P t then none else
  match <- ρ x with
  | .bP=>if ok then do some (.bx [<- qL P t,.bool false]) else none
  | .dX u v=>if Nat.beq u t then some (if ok then .bx [bg v,.bool true] else bg v) else if ok then do some (.bx [<- qL P t,.bool false]) else none
  | _=>none
 | .extract x i=>do
  let .bx vs <- ρ x|none
  match nth vs i with
  | some v=>some (bg v)
  | none=>none
 | _=>none
def wr(lk:aP)(b:Nat):Nat->Nat->aG->Bool
 | _,0,_=>true
 | _,_,[]=>false
 | off,n+1,c::cs=>(!locked c || lk.any λp=>Nat.beq p.1 b && Nat.beq p.2 off) && wr lk b (off+1) n cs
def cg:aG->aG
 | []=>[]
 | v::vs=>v.cells++cg vs
def rC(P:aY)(uq:aD->Bool)(t:aD):Bool :=
 match P.underlying t with
 | some (.slice e)=>uq e
 | _=>false
def ye(P:aY)(a b:aD)(x:a_)(env:aG):Option (V×aG) :=
 match Nat.beq a b,P.underlying a with
 | true,some (.slice e)=>match P.underlying e,take env x with
  | some (.int .u8),some (.sl sz (y::ys) (.yes _),env)=>some (.sl sz (y::ys) .no,env)
  | _,_=>none
 | _,_=>none
def xz(takes:cw)(x:a_)(lo hi:Option a_):Bool :=
 match x,lo,hi with
 | .tmp k,some _,none=>takes.any (Nat.beq (1048576+k))
 | _,_,_=>false
def Kw(P:aY)(t:aD)(x:a_)(lo:Option a_)(env:aG):Option (V×aG) :=
 match P.underlying t,take env x,de env lo with
 | some (.slice e'),some (.sl sz xs (.yes e),env),some (some (.int _ i))=>match z4 P e' with
  | some n=>match Nat.beq n sz && decide (0<=i) && Nat.ble i.toNat xs.length with
   | true=>some (.sl sz (xs.drop i.toNat) (.yes e),env)
   | false=>none
  | none=>none
 | _,_,_=>none
def Cx.mV(cx:Cx)(t:aD)(x y:a_)(env:aG)(H:Hp)(lk:aP)(df:bS):Option (OR×St):=do
 let .slice e <- cx.P.underlying t|none
 let n <- z4 cx.P e
 let i <- cx.P.info? e
 let z <- i.zero
 let ys <- wu cx.P H e (<- ak env y)
 if !Nat.beq z.cells.size n || Nat.beq n 0 then none else
 match <- ak env x with
 | .aH=>match ys with
  | []=>some (.val .aH,⟨env,H,lk,df⟩)
  | _=>if ku ys.length i.bytes then AI (cg ys) λcs=>wI ys.length λlen=>xS H (.ul 0 n cs e) λb H=>some (.val (.dF b 0 len),⟨env,H,lk,df⟩) else none
 | .dF b u len=>match H.get b with
  | some (.ul eK sz cs e') =>
   if Nat.beq e e' && Nat.beq n sz && Nat.beq eK u && ku (len+ys.length) i.bytes then
    AI (cs++cg ys) λcs=>wI (eK+1) λu=>wI (len+ys.length) λlen=>EL H b (.ul u sz cs e) (.bx ys) λH=>some (.val (.dF b u len),⟨env,H,lk,df⟩)
   else none
  | _=>none
 | .sr b off len cap=>match H.get b with
  | some (.cells cs ty) =>
   let new:=(cg ys).map bg
   if Nat.beq off 0 && Nat.beq n 1 && Nat.beq ty e && Nat.beq new.length ys.length && Nat.ble (len+ys.length) cap && Nat.ble (len+ys.length) cs.length && wr lk b len ys.length (cs.drop len) then
    AI (storeCells cs len new) λcs=>wI (len+ys.length) λlen=>EL H b (.cells cs ty) (.bx new) λH=>some (.val (.sr b 0 len cap),⟨env,H,lk,df⟩)
   else match wu cx.P H e (.sr b off len cap) with
    | some xs =>
     if Nat.beq xs.length len && Nat.ble 1 len && Nat.ble (cap+1) (len+ys.length) && ku (len+ys.length) i.bytes then
      AI (cg xs++cg ys) λcs=>wI (len+ys.length) λlen=>xS H (.ul 0 n cs e) λb H=>some (.val (.dF b 0 len),⟨env,H,lk,df⟩)
     else none
    | none=>none
  | _=>none
 | _=>none
def Cx.oT(cx:Cx)(t:aD)(x:a_)(lo hi:Option a_)(env:aG)(H:Hp)(lk:aP)(df:bS):Option (OR×St) :=
 match cx.P.underlying t,ak env x,de env lo,de env hi with
 | some (.slice e'),some (.dF b u len),some none,some (some (.int _ h))=>match z4 cx.P e',H.get b with
  | some _,some (.ul eK sz cs e) =>
   if Nat.beq eK u && decide (0<=h) && Nat.ble h.toNat len then
    fL (cs.take (h.toNat * sz)) λcs=>wI (eK+1) λu=>wI h.toNat λlen=>EL H b (.ul u sz cs e) .fQ λH=>some (.val (.dF b u len),⟨env,H,lk,df⟩)
   else none
  | _,_=>none
 | _,some (.sr b off len cap),some lo,some hi=>match y4 cx.P t (.sr b off len cap) lo hi with
  | some v=>some (.val v,⟨env,H,lk,df⟩)
  | none=>none
 | _,_,_,_=>none
def Cx.sx(cx:Cx)(t:aD)(x y:a_)(env:aG)(H:Hp)(lk:aP)(df:bS):Option (OR×St):=do
 let .slice e <- cx.P.underlying t|none
 let n <- z4 cx.P e
 let ys <- wu cx.P H e (<- ak env y)
 match <- ak env x with
 | .sr b off len _=>match H.get b with
  | some (.cells cs ty) =>
   let m:=min len ys.length
   let new:=(cg (ys.take m)).map bg
   if Nat.beq n 1 && Nat.beq new.length m && Nat.ble (off+m) cs.length && wr lk b off m (cs.drop off) then
    AI (storeCells cs off new) λcs=>EL H b (.cells cs ty) (.bx new) λH=>some (.val (.int .i64 (m:Nat)),⟨env,H,lk,df⟩)
   else none
  | _=>none
 | _=>none
def Cx.op(cx:Cx)(takes:cw)(o:Oper)(env:aG)(H:Hp)(lk:aP)(df:bS):Option (OR×St) :=
  let P:=cx.P
  let taken:=match o.dst with
    | some d=>takes.any (Nat.beq d)
    | none=>false
  let read (_:Unit):Option (OR×St):=match jc P cx.gl o env H with
    | none=>none
    | some v=>some (.val v,⟨env,H,lk,df⟩)
  match o.op with
  | .move x=>match taken with
    | true=>match take env x with
      | none=>none
      | some (v,env)=>some (.val v,⟨env,H,lk,df⟩)
    | false=>read ()
  | .assign x=>match take env x with
    | none=>none
    | some (v,env)=>some (.val v,⟨env,H,lk,df⟩)
  | .load t a=>match taken with
    | false=>read ()
    | true=>match qG P t,ak env a with
      | some false,some (.ptr b off)=>match H.get b with
        | some (.cells cs ty)=>match nth cs off with
          | some (.sl sz xs (.yes e))=>I6 cs off (.sl sz xs .lock) λcs=>EL H b (.cells cs ty) .fQ λH=>some (.val (.sl sz xs (.yes e)),⟨env,H,(b,off)::lk,df⟩)
          | some .aH=>some (.val .aH,⟨env,H,lk,df⟩)
          | some (.dF c u n)=>some (.val (.dF c u n),⟨env,H,lk,df⟩)
          | _=>none
        | _=>none
      | some false,some (.vp cs)=>match nth cs 0 with
        | some (.sr c o l k)=>some (.val (.sr c o l k),⟨env,H,lk,df⟩)
        | _=>none
      | _,_=>none
  | .alloc t=>match qL P t with
    | none=>none
    | some z=>if !dD z then none else fV z λz=>xS H (.cells z.cells t) λn H=>some (.val (.ptr n 0),⟨env,H,lk,df⟩)
  | .box t x=>match take env x with
    | none=>none
    | some (v,env)=>if !dD v then none else fV v λv=>AI v.laid λcs=>xS H (.cells cs t) λn H=>some (.val (.ptr n 0),⟨env,H,lk,df⟩)
  | .store t a x=>match ak env a with
    | some (.ptr b off)=>match take env x,z4 P t,H.get b with
      | some (v,env),some n,some (.cells cs ty) =>
        fV v λv=>AI v.laid λvs =>
          if dD v && Nat.beq vs.length n && Nat.ble (off+n) cs.length && wr lk b off n (cs.drop off) then
            fL (storeCells cs off vs) λcs=>EL H b (.cells cs ty) v λH=>some (.skip,⟨env,H,lk,df⟩)
          else none
      | _,_,_=>none
    | some (.gk b u k)=>match take env x,z4 P t,H.get b with
      | some (x,env),some n,some (.ul eK sz cs e) =>
        fV (bg x) λx=>if Nat.beq eK u && dD x && Nat.beq x.cells.length n && Nat.ble (k+n) cs.length then
          fL (storeCells cs k x.cells) λcs=>EL H b (.ul eK sz cs e) x λH=>some (.skip,⟨env,H,lk,df⟩)
        else none
      | _,_,_=>none
    | _=>none
  | .makeMap _ r=>match r with
    | some _=>none
    | none=>xS H (.map []) λn H=>some (.val (.map n),⟨env,H,lk,df⟩)
  | .makeSlice t l c=>match P.underlying t,ak env l,ak env c with
    | some (.slice e),some (.int _ l),some (.int _ c)=>match z4 P e,P.info? e,qL P e with
      | some n,some i,some z =>
        if Nat.beq n 0 || l<0 || c<l || !ku c.toNat i.bytes || !Nat.beq z.cells.length n || !dD z then none else
        match cx.uq e && Nat.blt 0 c.toNat with
        | true=>AI (List.replicate c.toNat z.cells).flatten λcs=>xS H (.cells cs e) λn H=>wI l.toNat λl=>wI c.toNat λc=>some (.val (.sr n 0 l c),⟨env,H,lk,df⟩)
        | false =>
        if l=0 then some (.val (.sl n [] (.yes e)),⟨env,H,lk,df⟩) else
        if l=c then AI (List.replicate c.toNat z.cells).flatten λcs=>xS H (.cells cs e) λn H=>some (.val (.sr n 0 l.toNat c.toNat),⟨env,H,lk,df⟩) else none
      | _,_,_=>none
    | _,_,_=>none
  | .mapUpdate t m k x|.insert t m k x=>match ak env m,ak env k,ak env x with
    | some (.map b),some k,some x=>if !M3 P t k then none else fV k λk=>fV x λx=>match H.get b with
      | some (.map es)=>match G6 k x es with
        | some es=>fL es λes=>EL H b (.map es) (.bx [k,x]) λH=>some (.skip,⟨env,H,lk,df⟩)
        | none=>none
      | _=>none
    | _,_,_=>none
  | .range t x=>match P.underlying t,ak env x with
    | some .string,some (.str l)=>xS H (.iter l 0) λn H=>some (.val (.ptr n 0),⟨env,H,lk,df⟩)
    | _,_=>none
  | .next it true=>match ak env it with
    | some (.ptr b 0)=>match H.get b with
      | some (.iter l pos) =>
        if Nat.blt pos l.length then
          let (c,w):=G7 (l.drop pos)
          wI (pos+w) λq=>EL H b (.iter l q) .fQ λH=>some (.val (.bx [.bool true,.int .i64 pos,.int .i32 c]),⟨env,H,lk,df⟩)
        else some (.val (.bx [.bool false]),⟨env,H,lk,df⟩)
      | _=>none
    | _=>none
  | .convert a b x=>match ye P a b x env with
    | some (v,env)=>some (.val v,⟨env,H,lk,df⟩)
    | none=>match cx.uq (w8 a) with
      | true=>match Kv P H a b (ak env x) with
        | some v=>some (.val v,⟨env,H,lk,df⟩)
        | none=>none
      | false=>read ()
  | .slice t x lo hi none=>match xz takes x lo hi with
    | true=>match Kw P t x lo env with
      | some (v,env)=>some (.val v,⟨env,H,lk,df⟩)
      | none=>none
    | false=>match rC P cx.uq t with
      | true=>cx.oT t x lo hi env H lk df
      | false=>read ()
  | .call c=>match c.callee with
    | .builtin b=>match b,c.args.toList,c.argTypes.toList with
     | .copy,[x,y],t::_=>cx.sx t x y env H lk df
     | .append,[x,y],[t,u]=>match rC P cx.uq t with
       | true=>if Nat.beq t u then cx.mV t x y env H lk df else none
       | false=>match cx.builtin b c.argTypes c.args env H with
        | none=>none
        | some (r,env)=>some (r,⟨env,H,lk,df⟩)
     | _,_,_=>match cx.builtin b c.argTypes c.args env H with
      | none=>none
      | some (r,env)=>some (r,⟨env,H,lk,df⟩)
    | .value f=>match ak env f,av env c.args.toList with
      | some f,some args=>match cx.mB f args H with
        | none=>none
        | some (r,H)=>some (r,⟨env,H,lk,df⟩)
      | _,_=>none
    | .invoke r m=>match ak env r,av env c.args.toList with
      | some r,some args=>match cx.mB (.fn (.method m) [] []) (r::args) H with
        | none=>none
        | some (r,H)=>some (r,⟨env,H,lk,df⟩)
      | _,_=>none
  | .defer c=>match c.callee with
    | .value f=>match ak env f,av env c.args.toList with
      | some (.fn (.func f) first cap),some args=>some (.skip,⟨env,H,lk,(.fn (.func f) first cap,args)::df⟩)
      | _,_=>none
    | _=>none
  | .panic x=>match ak env x with
    | some (.dX t v)=>some (.pX (.dX t v),⟨env,H,lk,df⟩)
    | _=>none
  | _=>read ()
def aq(env:aG)(dst:fz)(v:V):aG :=
 match dst with
 | some d=>env.set d v
 | none=>env
def EN{β:Type}(env:aG)(dst:fz)(v:V)(k:aG->β):β :=
 match dst with
 | some d=>fV v λv=>I6 env d v k
 | none=>k env
def zZ(ops:Array Oper)(o:Oper)(env:aG):Option Bool :=
 match o.guard with
 | none=>some true
 | some (j,want)=>match (ops[j]?).bind (·.dst) with
  | none=>none
  | some d=>match nth env d with
   | some (.bool b)=>some (b == want)
   | some (.bx _)=>some false
   | _=>none
def Cx.ops(cx:Cx)(all:Array Oper)(takes:cw):List Oper->St->Option (Ex×St)
 | [],s=>some (.normal,s)
 | o::os,⟨env,H,lk,df⟩ =>
  match zZ all o env with
  | none=>none
  | some false=>EN env o.dst (.bx []) λenv=>cx.ops all takes os ⟨env,H,lk,df⟩
  | some true=>match cx.op takes o env H lk df with
   | none=>none
   | some (.val v,⟨env,H,lk,df⟩)=>EN env o.dst v λenv=>cx.ops all takes os ⟨env,H,lk,df⟩
   | some (.skip,⟨env,H,lk,df⟩)=>EN env o.dst (.bx []) λenv=>cx.ops all takes os ⟨env,H,lk,df⟩
   | some (.pX v,s)=>some (.pX v,s)
mutual
def V.same:V->V->Bool
 | .bool a,.bool b=>a == b
 | .int k n,.int k' n'=>if k=k' then n == n' else false
 | .str a,.str b=>ot a b
 | .fQ,.fQ=>true
 | .ptr a b,.ptr c d=>Nat.beq a c && Nat.beq b d
 | .eV a b,.eV c d=>Nat.beq a c && Nat.beq b d
 | .obj a,.obj b=>Nat.beq a b
 | .vp a,.vp b=>eG a b
 | .aH,.aH=>true
 | .sl s a o,.sl s' b o'=>Nat.beq s s' && (if o=o' then eG a b else false)
 | .sr a b c d,.sr a' b' c' d'=>Nat.beq a a' && Nat.beq b b' && Nat.beq c c' && Nat.beq d d'
 | .mz,.mz=>true
 | .map a,.map b=>Nat.beq a b
 | .pH,.pH=>true
 | .fn f a c,.fn f' a' c'=>(if f=f' then true else false) && eG a a' && eG c c'
 | .bP,.bP=>true
 | .dX t v,.dX t' v'=>Nat.beq t t' && V.same v v'
 | .agg a,.agg b=>eG a b
 | .bx a,.bx b=>eG a b
 | .eC,.eC=>true
 | .dF a b n,.dF c d m=>Nat.beq a c && Nat.beq b d && Nat.beq n m
 | .gk a b e,.gk c d f=>Nat.beq a c && Nat.beq b d && Nat.beq e f
 | _,_=>false
def eG:aG->aG->Bool
 | [],[]=>true
 | x::xs,y::ys=>V.same x y && eG xs ys
 | _,_=>false
end
def jg(P:aY)(uq:aD->Bool)(takes:cw)(o:Oper):Bool :=
 match o.op with
 | .alloc _|.box ..|.store ..|.makeMap ..|.makeSlice ..|.mapUpdate ..|.insert ..|.range ..|.next ..|.defer _|.panic _=>true
 | .load ..=>match o.dst with
  | some d=>takes.any (Nat.beq d)
  | none=>false
 | .slice t _ _ _ none=>rC P uq t
 | .call c=>match c.callee with
  | .builtin .copy=>true
  | .builtin .append=>match c.argTypes.toList with
   | t::_=>rC P uq t
   | _=>false
  | .builtin _=>false
  | _=>true
 | _=>false
def kW(P:aY)(uq:aD->Bool)(o:Oper):Bool :=
 match o.op with
 | .slice t _ _ _ none=>rC P uq t
 | .convert a _ _=>uq (w8 a)
 | .load ..|.lookup ..|.call _=>true
 | _=>false
def kj(takes:cw)(o:Oper):Option a_ :=
 match o.op with
 | .move x=>if (match o.dst with|some d=>takes.any (Nat.beq d)|none=>false) then some x else none
 | .assign x|.box _ x|.store _ _ x=>some x
 | .convert a b x=>if Nat.beq a b then some x else none
 | .slice _ x lo hi none=>if xz takes x lo hi then some x else none
 | .call c=>match c.callee with
  | .builtin .append=>c.args.toList.head?
  | _=>none
 | _=>none
def gp:List a_->Nat
 | []=>0
 | .tmp t::xs=>Nat.lor (Nat.pow 2 t) (gp xs)
 | _::xs=>gp xs
structure Rec where
 idx:Nat
 o:Oper
 m:Nat
 tm:Nat
 lm:Nat
 hp:Bool
 free:Bool
 env:aG
 v:V
structure ez where
 D:Nat
 H:Hp
 lk:aP
 df:bS
def bit(m i:Nat):Bool:=Nat.beq (Nat.mod (Nat.shiftRight m i) 2) 1
def vU(a b:Nat):Bool:=Nat.beq (Nat.land a b) a
def maskAt:List Rec->Nat->Option Nat
 | [],_=>none
 | r::rs,j=>if Nat.beq r.idx j then some r.m else maskAt rs j
def wv(rs:List Rec):List Edge->Option Nat
 | []=>some 0
 | e::es=>match Region.binds .any e with
  | false=>wv rs es
  | true=>match maskAt rs e.on with
   | none=>none
   | some m=>match wv rs es with
    | none=>none
    | some k=>some (Nat.lor k (Nat.lor m (Nat.pow 2 e.on)))
def Cx.d_(cx:Cx)(takes:cw)(o:Oper)(env:aG)(c:ez)(D:Nat):Option (V×ez) :=
 match cx.op takes o env c.H c.lk c.df with
 | some (.val v,s)=>some (v,⟨D,s.H,s.lk,s.defers⟩)
 | some (.skip,s)=>some (.bx [],⟨D,s.H,s.lk,s.defers⟩)
 | _=>none
def Cx.eZ(cx:Cx)(takes:cw)(o:Oper)(env:aG)(v:V)(c:ez):Bool :=
 match cx.d_ takes o env c 0 with
 | some (u,_)=>V.same u v
 | none=>false
def rE:List (V×V)->List (V×V)->Bool
 | [],[]=>true
 | (a,b)::x,(c,d)::y=>V.same a c && V.same b d && rE x y
 | _,_=>false
def gq:bq->bq->Bool
 | .cells a t,.cells b u=>Nat.beq t u && eG a b
 | .map a,.map b=>rE a b
 | .iter a i,.iter b j=>Nat.beq i j && ot a b
 | .ul a b c d,.ul a' b' c' d'=>Nat.beq a a' && Nat.beq b b' && Nat.beq d d' && eG c c'
 | _,_=>false
def mW:List bq->List bq->Bool
 | [],[]=>true
 | a::x,b::y=>gq a b && mW x y
 | _,_=>false
def mg:aP->aP->Bool
 | [],[]=>true
 | (a,b)::x,(c,d)::y=>Nat.beq a c && Nat.beq b d && mg x y
 | _,_=>false
def nH:bS->bS->Bool
 | [],[]=>true
 | (a,b)::x,(c,d)::y=>V.same a c && eG b d && nH x y
 | _,_=>false
def yg(a b:ez):Bool:=mg a.lk b.lk && nH a.df b.df && mg a.H.bJ b.H.bJ && mW a.H.az b.H.az
def yh(D:Nat):List ez->Option ez
 | []=>none
 | c::cs=>if Nat.beq c.D D then some c else yh D cs
def eL:List Rec->Nat
 | []=>0
 | r::rs=>match r.hp with
  | true=>Nat.lor (Nat.pow 2 r.idx) (eL rs)
  | false=>eL rs
def kA{α:Type}(f:α->Bool):List α->Bool
 | []=>true
 | q::qs=>match f q with
  | true=>kA f qs
  | false=>false
def Kx(D:Nat)(q:Rec):List Rec->Bool
 | []=>false
 | c::cs=>(c.hp && bit D c.idx && bit c.m q.idx) || Kx D q cs
def kq(r q:Rec):Bool :=
 match bit r.m q.idx with
 | true=>true
 | false=>Nat.beq (Nat.land q.tm r.lm) 0 && Nat.beq (Nat.land r.tm q.lm) 0
def Cx.iC(cx:Cx)(takes:cw)(o:Oper)(env:aG)(v:V)(m b:Nat):List ez->Option (List ez)
 | []=>some []
 | c::cs=>match vU m c.D with
  | false=>cx.iC takes o env v m b cs
  | true=>match cx.d_ takes o env c (Nat.lor c.D b) with
   | none=>none
   | some (u,c2)=>match V.same u v with
    | false=>none
    | true=>match cx.iC takes o env v m b cs with
     | none=>none
     | some l=>some (c2::l)
def Cx.fG(cx:Cx)(takes:cw)(rs:List Rec)(Ky:Nat)(r:Rec)(all:List ez)(c:ez):Bool :=
 kA (λq=>match vU (Nat.land q.m Ky) c.D with
  | false=>true
  | true=>match q.hp with
   | true=>match bit c.D q.idx with
    | true=>true
    | false=>match cx.d_ takes q.o q.env c 0,yh (Nat.lor c.D (Nat.pow 2 q.idx)) all with
     | some (u,c2),some c3=>V.same u q.v && yg c2 c3
     | _,_=>false
   | false=>q.free || bit r.m q.idx || Kx c.D q rs || cx.eZ takes q.o q.env q.v c) rs
def zes(all:Array Oper)(o:Oper):Nat :=
 match o.guard with
 | none=>0
 | some (j,_)=>match (all[j]?).bind (·.dst) with
  | none=>0
  | some d=>Nat.pow 2 d
def m7(takes:cw)(o:Oper):Nat :=
 match o.dst with
 | some d=>Nat.lor (Nat.pow 2 d) (gp (match kj takes o with|some x=>[x]|none=>[]))
 | none=>gp (match kj takes o with|some x=>[x]|none=>[])
def tC(all:Array Oper)(o:Oper):Nat:=Nat.lor (gp o.op.operands.toList) (zes all o)
def Cx.fH(cx:Cx)(takes:cw)(rs:List Rec)(r:Rec)(c0 c1:ez)(cs:List ez)(k:List ez->Option (Ex×St)):Option (Ex×St) :=
 let Ky:=eL rs
 match r.hp with
 | false=>match r.free || kA (λc=>match vU (Nat.land r.m Ky) c.D with
   | true=>cx.eZ takes r.o r.env r.v c
   | false=>true) cs with
  | true=>k (c0::cs)
  | false=>none
 | true=>match cx.iC takes r.o r.env r.v (Nat.land r.m Ky) (Nat.pow 2 r.idx) cs with
  | none=>none
  | some l =>
   let all:=c1::l++c0::cs
   match kA (λc=>cx.fG takes rs Ky r all c) (c1::l) with
   | true=>k all
   | false=>none
def Cx.eO(cx:Cx)(all:Array Oper)(takes:cw):Nat->List Rec->List ez->List Oper->St->Option (Ex×St)
 | _,_,_,[],s=>some (.normal,s)
 | i,rs,cs,o::os,⟨env,H,lk,df⟩ =>
  match wv rs o.after.toList with
  | none=>none
  | some m=>wI m λm=>wI (m7 takes o) λtm=>wI (Nat.lor tm (tC all o)) λlm =>
   let next (hp free:Bool) (v:V) (s1:St):Option (Ex×St) :=
    match s1 with
    | ⟨cR,H1,eE,eD⟩=>fV v λv=>EN cR o.dst v λcR =>
     match kA (kq ⟨i,o,m,tm,lm,hp,free,env,v⟩) rs,cs with
     | true,c0::cs=>cx.fH takes rs ⟨i,o,m,tm,lm,hp,free,env,v⟩ c0 ⟨Nat.lor c0.D (Nat.pow 2 i),H1,eE,eD⟩ cs λcs =>
      cx.eO all takes (i+1) (⟨i,o,m,tm,lm,hp,free,env,v⟩::rs) cs os ⟨cR,H1,eE,eD⟩
     | _,_=>none
   match zZ all o env with
   | none=>none
   | some false=>next false true (.bx []) ⟨env,H,lk,df⟩
   | some true=>match cx.op takes o env H lk df with
    | none=>none
    | some (.val v,s1)=>next (jg cx.P cx.uq takes o) (!kW cx.P cx.uq o) v s1
    | some (.skip,s1)=>next (jg cx.P cx.uq takes o) false (.bx []) s1
    | some (.pX _,_)=>none
def Cx.drawn(cx:Cx)(ops:Array Oper):St->Option (Ex×St)
 | ⟨env,H,_,df⟩=>cx.eO ops (jQ ops) 0 [] [⟨0,H,[],df⟩] ops.toList ⟨env,H,[],df⟩
def CS(after:Array Edge):Oper:=⟨none,.move (.const (.bool true)),0,"",after,none⟩
def Si(es:List Edge):Nat->Bool
 | 0=>true
 | n+1=>(es.any λe=>Nat.beq e.on n && Region.binds .any e) && Si es n
def Sj(takes:cw)(d:Tmp)(o:Oper):Bool :=
 (match o.dst with|some k=>!(Nat.beq k d)|none=>true) && (match kj takes o with|some (.tmp k)=>!(Nat.beq k d)|_=>true) && (match o.guard with|none=>true|some _=>false)
def xN(ops:Array Oper):Option (List Oper×Tmp×aD×a_) :=
 match ops.toList.reverse with
 | ⟨none,.store t (.tmp d) x,_,_,after,none⟩::⟨some e,.alloc u,_,_,af,none⟩::os =>
  match Nat.beq d e && Nat.beq t u && Si after.toList (os.length+1) with
  | true=>some ((CS after::CS af::os).reverse,d,t,x)
  | false=>none
 | _=>none
def Cx.late(cx:Cx)(ops:Array Oper):St->Option (Ex×St)
 | ⟨env,H,_,df⟩=>match xN ops with
  | none=>none
  | some (os,d,t,x)=>match kA (Sj (jQ os.toArray) d) os && Nat.blt d env.length with
   | false=>none
   | true=>match cx.eO os.toArray (jQ os.toArray) 0 [] [⟨0,H,[],df⟩] os ⟨env.set d .eC,H,[],df⟩ with
    | some (_,⟨env,H,lk,df⟩)=>match take env x,z4 cx.P t,qL cx.P t with
     | some (v,env),some n,some z =>
      match dD v && dD z && Nat.beq z.cells.length n with
      | true=>fV v λv=>AI v.laid λcs=>match Nat.beq cs.length n with
       | true=>xS H (.cells cs t) λn H=>some (.normal,⟨env.set d (.ptr n 0),H,lk,df⟩)
       | false=>none
      | false=>none
     | _,_,_=>none
    | none=>none
def mC:Nat:=1099511627775
def Cx.draw(cx:Cx)(ops:Array Oper)(s:St):Option (Ex×St) :=
 match cx.uq mC with
 | true=>match xN ops with
  | some _=>cx.late ops s
  | none=>cx.drawn ops s
 | false=>cx.drawn ops s
def Kz(step:St->Option (Ex×St)):Nat->St->Option (Ex×St)
 | 0,_=>none
 | n+1,s=>match step s with
  | none=>none
  | some (.normal,s)=>Kz step n s
  | some (e,s)=>some (e,s)
def Ge(f:FuncId)(back:Bool)(t:aD):aD:=1099511627776+2 * (f * 1048576+t)+(if back then 1 else 0)
def Cx.code(cx:Cx)(n:Nat):Code->St->Option (Ex×St)
 | .skip,s=>some (.normal,s)
 | .label _,s=>some (.normal,s)
 | .region _ ops false,⟨env,H,_,df⟩=>cx.ops ops (jQ ops) ops.toList ⟨env,H,[],df⟩
 | .region _ ops true,s=>cx.draw ops s
 | .seq a b,s=>match cx.code n a s with
  | none=>none
  | some (.normal,s)=>cx.code n b s
  | some (e,s)=>some (e,s)
 | .cond c a b,s=>match ak s.env c with
  | some (.bool true)=>cx.code n a s
  | some (.bool false)=>cx.code n b s
  | _=>none
 | .block id c,s=>match cx.code n c s with
  | none=>none
  | some (.exit i,s)=>some (if Nat.beq i id then .normal else .exit i,s)
  | some (e,s)=>some (e,s)
 | .loop c,s=>Kz (cx.code n c) n s
 | .exit id,s=>some (.exit id,s)
 | .ret,s=>some (.ret,s)
 | .scope c,s=>match cx.code n c s with
  | none=>none
  | some (.goto _,_)=>none
  | some (e,s)=>some (e,s)
 | _,_=>none
def zy(P:aY)(H:Hp)(env:aG):List ResultVar->Option aG
 | []=>some []
 | .tmp t::r=>match nth env t,zy P H env r with
  | some v,some vs=>some (v::vs)
  | _,_=>none
 | .cell a t::r=>match nth env a with
  | some p=>match zk P H (λ_ _=>none) t p,zy P H env r with
   | some v,some vs=>some (bg v::vs)
   | _,_=>none
  | none=>none
def j_:aG->V
 | [v]=>v
 | vs=>.bx (vs.map bg)
def Oo{β:Type}(n0:Nat)(es:aP)(top:Nat)(H:Hp)(k:Hp->β):β :=
 match H with
 | ⟨bs,new⟩ =>
  if Nat.ble top n0 && new.all (λe=>Nat.ble n0 e.1 || Nat.ble e.2 n0) then
   fL (bs.take n0) λbs=>fL (new.filter (λe=>Nat.blt e.1 n0)) λnew=>k ⟨bs,new++es⟩
  else k ⟨bs,new++es⟩
def zoE(o:Oper):Bool :=
 match o.op with
 | .call c=>match c.callee with
  | .builtin .recover=>true
  | _=>false
 | _=>false
def Cx.tE(cx:Cx)(iL:cj)(all:Array Oper)(takes:cw):List Oper->Bool->St->Option (Ex×Bool×St)
 | [],r,s=>some (.normal,r,s)
 | o::os,r,⟨env,H,lk,df⟩ =>
  match zZ all o env with
  | none=>none
  | some false=>EN env o.dst (.bx []) λenv=>cx.tE iL all takes os r ⟨env,H,lk,df⟩
  | some true=>match zoE o with
   | true=>match iL,r with
    | some v,false=>EN env o.dst (bg v) λenv=>cx.tE iL all takes os true ⟨env,H,lk,df⟩
    | _,_=>EN env o.dst .bP λenv=>cx.tE iL all takes os r ⟨env,H,lk,df⟩
   | false=>match cx.op takes o env H lk df with
    | none=>none
    | some (.val v,⟨env,H,lk,df⟩)=>EN env o.dst v λenv=>cx.tE iL all takes os r ⟨env,H,lk,df⟩
    | some (.skip,⟨env,H,lk,df⟩)=>EN env o.dst (.bx []) λenv=>cx.tE iL all takes os r ⟨env,H,lk,df⟩
    | some (.pX v,s)=>some (.pX v,r,s)
def Cx.m8(cx:Cx)(n:Nat)(iL:cj):Code->Bool->St->Option (Ex×Bool×St)
 | .seq a b,r,s=>match cx.m8 n iL a r s with
  | none=>none
  | some (.normal,r,s)=>cx.m8 n iL b r s
  | some x=>some x
 | .cond c a b,r,s=>match ak s.env c with
  | some (.bool true)=>cx.m8 n iL a r s
  | some (.bool false)=>cx.m8 n iL b r s
  | _=>none
 | .region _ ops false,r,⟨env,H,_,df⟩=>cx.tE iL ops (jQ ops) ops.toList r ⟨env,H,[],df⟩
 | c,r,s=>match cx.code n c s with
  | none=>none
  | some (e,s)=>some (e,r,s)
def KA(P:aY)(gl:Nat->Nat->cj)(uq:aD->Bool)(call:FuncId->aG->Hp->Option (Out×Hp))(n:Nat)(iL:cj)(f:FuncId)(args:aG)(H:Hp):Option (Bool×Hp) :=
 match H with
 | ⟨bs,es⟩ =>
  match P.funcs[f]? with
  | none=>none
  | some fn=>match fn.body with
   | none=>none
   | some body =>
    wI bs.length λn0 =>
    fL (args++List.replicate (fn.ntmps - args.length) (.bx [])) λenv =>
    match Cx.m8 { P,gl,call,uq } n iL body false ⟨env,⟨bs,[]⟩,[],[]⟩ with
    | some (.normal,r,⟨env,H,_,[]⟩)|some (.ret,r,⟨env,H,_,[]⟩)=>match zy P H env fn.results.toList with
     | none=>none
     | some _=>Oo n0 es 0 H λH=>some (r,H)
    | _=>none
def vh(call:cj->FuncId->aG->Hp->Option (Bool×Hp)):cj->bS->Hp->Option (cj×Hp)
 | iL,[],H=>some (iL,H)
 | iL,(.fn (.func f) first cap,args)::ds,H=>fL ((first++args++cap).map bg) λargs=>match call iL f args H with
  | none=>none
  | some (true,H)=>vh call none ds H
  | some (false,H)=>vh call iL ds H
 | _,_,_=>none
def Sk(call:cj->FuncId->aG->Hp->Option (Bool×Hp))(iL:cj)(ds:bS)(H:Hp):Option (cj×Hp):=vh call iL ds H
def AK:Ex->Option cj
 | .normal|.ret=>some none
 | .pX v=>some (some v)
 | _=>none
structure Gl where
 g:Nat->Nat->cj
 hk:FuncId->aG->cj:=λ_ _=>none
 uq:aD->Bool:=λ_=>false
 fq:Nat->FuncId->aG->Hp->Option (Out×Hp):=λ_ _ _ _=>none
instance : CoeFun Gl (λ_=>Nat->Nat->cj):=⟨Gl.g⟩
instance : Coe Gl (Nat->Nat->cj):=⟨Gl.g⟩
def zj(P:aY)(gl:Gl):Nat->FuncId->aG->Hp->Option (Out×Hp)
 | 0,_,_,_=>none
 | n+1,f,args,⟨bs,es⟩ =>
  match gl.hk f args with
  | some v=>some (.ret v,⟨bs,es⟩)
  | none =>
  match gl.fq n f args ⟨bs,es⟩ with
  | some r=>some r
  | none =>
  match P.funcs[f]? with
  | none=>none
  | some fn=>match fn.body with
   | none=>none
   | some body =>
    wI bs.length λn0 =>
    fL (args++List.replicate (fn.ntmps - args.length) (.bx [])) λenv =>
    match Cx.code { P,gl:=gl.g,call:=zj P gl n,uq:=gl.uq } n body ⟨env,⟨bs,[]⟩,[],[]⟩ with
    | none=>none
    | some (ex,⟨env,H,_,df⟩)=>match AK ex with
     | none=>none
     | some iL=>match Sk (KA P gl.g gl.uq (zj P gl n) n) iL df H with
      | none=>none
      | some (some v,H)=>Oo n0 es v.top H λH=>some (.pX v,H)
      | some (none,H)=>match zy P H env fn.results.toList with
       | none=>none
       | some vs=>fV (j_ vs) λv=>Oo n0 es v.top H λH=>some (.ret v,H)
end
section
inductive Loc where
 |slot (d t:Nat)
 |cell (b off:Nat)
 |ret
 deriving DecidableEq
structure Ob where
 adr:Nat->Addr
 lo:Nat->Prop
instance : CoeFun Ob (λ_=>Nat->Addr):=⟨Ob.adr⟩
structure Gh where
 M:Nat->Nat->Option bC
 bT:Nat->Nat
 obj:Ob
 own:Nat->Option Loc
 lk:Nat->Nat->bC
 fm:Nat->Nat->Option bC
abbrev V.one(v:V):Bool:=Du v
theorem zg{α:Type}:∀(l:List α)(n:Nat),nth l n=l[n]?
 | [],_=>by simp[nth]
 | _::_,0=>by simp[nth]
 | _::xs,n+1=>by simp[nth,zg xs n]
section force
variable{α β:Type}
theorem qw(n:Nat)(k:Nat->β):wI n k=k n:=by cases n<;>rfl
theorem znh(n:Int)(k:Int->β):U1 n k=k n:=by cases n<;>simp[U1,qw]
theorem AL:∀(l:bO)(k:bO->β),Se l k=k l
 | [],_=>rfl
 | x::xs,k=>by simp[Se,qw,AL xs]
theorem eH:∀(l:List α)(k:List α->β),fL l k=k l
 | [],_=>rfl
 | x::xs,k=>by simp[fL,eH xs]
theorem zoF(v:V)(k:V->β):fC v k=k v:=by
 unfold fC;split<;>simp[znh,AL,qw,eH]
theorem dj:∀(l:aG)(k:aG->β),AI l k=k l
 | [],_=>rfl
 | x::xs,k=>by simp[AI,zoF,dj xs]
theorem ql(v:V)(k:V->β):fV v k=k v:=by
 unfold fV;split<;>simp[dj,zoF]
theorem eP:∀(l:List α)(n:Nat)(v:α)(k:List α->β),I6 l n v k=k (l.set n v)
 | [],_,_,_=>rfl
 | _::_,0,_,_=>rfl
 | x::xs,n+1,v,k=>by simp[I6,eP xs]
theorem qm(H:Hp)(b:bq)(k:Nat->Hp->β):xS H b k=k H.az.length (H.push b):=by
 cases H;simp[xS,qw,eH,Hp.push]
theorem ji(H:Hp)(b:Nat)(x:bq)(v:V)(k:Hp->β):EL H b x v k=k ((H.set b x).bU b v):=by
 cases H;simp only[EL,eP,qw,Hp.set,Hp.bU];split<;>rfl
theorem jR(env:aG)(dst:fz)(v:V)(k:aG->β):EN env dst v k=k (aq env dst v):=by
 cases dst<;>simp[EN,aq,ql,eP]
end force
theorem ziR{P:aY}{H:Hp}{a:aD}{v:V}(hv:∀b o l c,v≠.sr b o l c):Ku P H a v=some v:=by
 unfold Ku;split
 ·exact absurd rfl (hv _ _ _ _)
 ·rfl
theorem zni{P:aY}{H:Hp}{a:aD}{sz:Nat}{xs:aG}{o:uj}:Ku P H a (.sl sz xs o)=some (.sl sz xs o):=ziR (by simp)
def zK(xs:aG):aG:=xs.flatMap V.cells
def bytes(s:bO):ByteArray:=⟨(s.map UInt8.ofNat).toArray⟩
inductive aX(g:Gh):V->bC->Prop where
 |bool (b:Bool):aX g (.bool b) (.bool b)
 |int (k:IntKind) (n:Int):aX g (.int k n) (.int k n)
 |str {s:bO}:(∀b:Nat,b∈s->b<256)->aX g (.str s) (.string (bytes s))
 |fQ:aX g .fQ (.pointer none)
 |ptr (b off:Nat):aX g (.ptr b off) (.pointer (some ⟨g.bT b,off,none⟩))
 |eV (k off:Nat):aX g (.eV k off) (.pointer (some ⟨k,off,none⟩))
 |obj (k:Nat):aX g (.obj k) (.pointer (some (g.obj k)))
 |vp {cs:aG} {c o:Nat} (f:Nat->bC):(∀(j:Nat)(x:V),cs[j]?=some x->x.one=true)->(∀(j:Nat)(x:V),cs[j]?=some x->g.M c (o+j)=some (f j))->(∀(j:Nat)(x:V),cs[j]?=some x->aX g x (f j)) ->
   aX g (.vp cs) (.pointer (some ⟨c,o,none⟩))
 |aH:aX g .aH (.slice none 0 0)
 |sl {sz:Nat} {xs:aG} {ow:uj} {a:Option Addr} {cap c o:Nat} (f:Nat->bC):(∀x:V,x∈xs->x.cells.length=sz)->xs.length<=cap->(xs≠[]->a=some ⟨c,o,none⟩) ->
   (∀(j:Nat)(x:V),(zK xs)[j]?=some x->x.one=true)->(∀(j:Nat)(x:V),(zK xs)[j]?=some x->g.M c (o+j)=some (f j))->(∀(j:Nat)(x:V),(zK xs)[j]?=some x->aX g x (f j)) ->
   aX g (.sl sz xs ow) (.slice a xs.length cap)
 |sr {b off len cap:Nat}:len<=cap->aX g (.sr b off len cap) (.slice (some ⟨g.bT b,off,none⟩) len cap)
 |mz:aX g .mz (.map none)
 |map (b:Nat):aX g (.map b) (.map (some (g.bT b)))
 |pH:aX g .pH .nilFunc
 |fn {f:Fn} {as cs:aG} {fa fc:dR}:as.length=fa.size->cs.length=fc.size->(∀(j:Nat)(x:V)(v:bC),as[j]?=some x->fa[j]?=some v->aX g x v) ->
   (∀(j:Nat)(x:V)(v:bC),cs[j]?=some x->fc[j]?=some v->aX g x v)->aX g (.fn f as cs) (.func f fa fc)
 |bP:aX g .bP .nilIface
 |dX {t:aD} {v:V} {cv:bC}:aX g v cv->aX g (.dX t v) (.iface t cv)
 |agg {cs:aG} {arr:dR}:cs.length=arr.size->(∀(j:Nat)(x:V),cs[j]?=some x->x.one=true)->(∀(j:Nat)(x:V)(v:bC),cs[j]?=some x->arr[j]?=some v->aX g x v)->aX g (.agg cs) (.agg arr)
 |bx {cs:aG} {arr:dR}:cs.length=arr.size->(∀(j:Nat)(x:V)(v:bC),cs[j]?=some x->arr[j]?=some v->aX g x v)->aX g (.bx cs) (.tuple arr)
 |dF {b u len cap c o:Nat}:g.fm b u=some (.slice (some ⟨c,o,none⟩) len cap)->aX g (.dF b u len) (.slice (some ⟨c,o,none⟩) len cap)
 |gk {b u len cap c o:Nat} (k:Nat):g.fm b u=some (.slice (some ⟨c,o,none⟩) len cap)->aX g (.gk b u k) (.pointer (some ⟨c,o+k,none⟩))
 |eC (v:bC):aX g .eC v
theorem zn{x:V}:∀{cs:aG},x∈cs->x.top<=aL cs
 | c::cs,h=>by
  simp only[aL];rcases dM.1 h with rfl|h
  ·exact Ds _ _
  ·exact cZ (zn h) (G5 _ _)
theorem qO{n:Nat}:∀{cs:aG},(∀x∈cs,x.top<=n)->aL cs<=n
 | [],_=>dP _
 | c::cs,h=>by
  simp only[aL];exact tw.2 ⟨h c (fy ..),qO λx hx=>h x (eo _ hx)⟩
theorem Sl{x y:V}(h:y∈x.cells):y.top<=x.top:=by
 cases x<;>simp only[V.cells,r9] at h<;>try (subst h;exact dB _)
 simp only[V.top];exact zn h
theorem xU{xs:aG}{y:V}(h:y∈zK xs):y.top<=aL xs:=by
 obtain⟨x,hx,hy⟩:=List.mem_flatMap.1 h;exact cZ (Sl hy) (zn hx)
theorem jq(v:V):(bg v).top=v.top:=by
 cases v<;>rfl
theorem eR:∀(cs:aG),aL (cs.map bg)=aL cs
 | []=>rfl
 | c::cs=>by simp[aL,jq,eR cs]
theorem U4(v:V):(bg v).one=v.one:=by cases v<;>rfl
theorem aX.bg{g:Gh}{v:V}{cv:bC}(h:aX g v cv):aX g (bg v) cv:=by
 cases h<;>first
  |constructor<;>assumption
  |(rename_i f h1 h2 h3 h4 h5 h6;exact .sl f h1 h2 h3 h4 h5 h6)
  |(rename_i f h1 h2 h3;exact .vp f h1 h2 h3)
structure Gh.Le(n:Nat)(g g':Gh):Prop where
 M:∀c o v,g.M c o=some v->g'.M c o=some v
 bT:∀b,b<n->g'.bT b=g.bT b
 obj:g'.obj=g.obj
 fm:∀b u v,b<n->g.fm b u=some v->g'.fm b u=some v
theorem Gh.Le.refl(n:Nat)(g:Gh):Gh.Le n g g:=⟨λ_ _ _ h=>h,λ_ _=>rfl,rfl,λ_ _ _ _ h=>h⟩
theorem Gh.Le.trans{n:Nat}{a b c:Gh}(h:Gh.Le n a b)(k:Gh.Le n b c):Gh.Le n a c :=
 ⟨λ_ _ _ e=>k.M _ _ _ (h.M _ _ _ e),λi hi=>(k.bT i hi).trans (h.bT i hi),k.obj.trans h.obj,λb u v hb e=>k.fm b u v hb (h.fm b u v hb e)⟩
theorem Gh.Le.mono{n m:Nat}{a b:Gh}(h:Gh.Le n a b)(hm:m<=n):Gh.Le m a b:=⟨h.M,λi hi=>h.bT i (uO hi hm),h.obj,λb u v hb e=>h.fm b u v (uO hb hm) e⟩
theorem zw{α:Type}{l:List α}{j:Nat}{x:α}(h:l[j]?=some x):x∈l:=pG h
theorem aX.le{n:Nat}{g g':Gh}(hg:Gh.Le n g g'){v:V}{cv:bC}(h:aX g v cv):v.top<=n->aX g' v cv:=by
 induction h with
 | bool b=>intro _;exact .bool b
 | int k m=>intro _;exact .int k m
 | str h=>intro _;exact .str h
 | fQ=>intro _;exact .fQ
 | ptr b off=>intro ht;simp only[V.top] at ht;rw[<- hg.bT b (by omega)];exact .ptr b off
 | eV k off=>intro _;exact .eV k off
 | obj k=>intro _;rw[<- hg.obj];exact .obj k
 | vp f h1 h2 _ ih=>intro ht;exact .vp f h1 (λj x hx=>hg.M _ _ _ (h2 j x hx)) λj x hx=>ih j x hx (cZ (zn (zw hx)) ht)
 | aH=>intro _;exact .aH
 | sl f h1 h2 h3 h4 h5 _ ih=>intro ht;exact .sl f h1 h2 h3 h4 (λj x hx=>hg.M _ _ _ (h5 j x hx)) λj x hx=>ih j x hx (cZ (xU (zw hx)) ht)
 | sr hl=>intro ht;simp only[V.top] at ht;rw[<- hg.bT _ (by omega)];exact .sr hl
 | mz=>intro _;exact .mz
 | map b=>intro ht;simp only[V.top] at ht;rw[<- hg.bT b (by omega)];exact .map b
 | pH=>intro _;exact .pH
 | fn h1 h2 _ _ iha ihc =>
  intro ht;simp only[V.top] at ht;have:=tw.1 ht;exact .fn h1 h2 (λj x v hx hv=>iha j x v hx hv (cZ (zn (zw hx)) this.1)) (λj x v hx hv=>ihc j x v hx hv (cZ (zn (zw hx)) this.2))
 | bP=>intro _;exact .bP
 | dX _ ih=>intro ht;exact .dX (ih ht)
 | agg h1 h2 _ ih=>intro ht;exact .agg h1 h2 λj x v hx hv=>ih j x v hx hv (cZ (zn (zw hx)) ht)
 | bx h1 _ ih=>intro ht;exact .bx h1 λj x v hx hv=>ih j x v hx hv (cZ (zn (zw hx)) ht)
 | dF h=>intro ht;simp only[V.top] at ht;exact .dF (hg.fm _ _ _ (by omega) h)
 | gk k h=>intro ht;simp only[V.top] at ht;exact .gk k (hg.fm _ _ _ (by omega) h)
 | eC v=>intro _;exact .eC v
theorem aX.nY{g:Gh}{v:V}{cv:bC}(h:aX g v cv)(h1:v.one=true):cv.oneCell'=true:=by
 cases h<;>first|rfl|(simp[V.one,Du] at h1)
def rowAt(w:aQ)(e sz:Nat)(cv:bC)(n:Nat)(xs:ei):Prop :=
 xs.length=n * sz/\((cv=.slice none 0 0/\n=0)\/∃c o cap cur,cv=.slice (some ⟨c,o,none⟩) n cap/\w.heap[c]?=some (.cells cur e (0,0))/\n<=cap/\cap<=maxLen/\(cap=0\/cur.size=o+cap * sz)/\(cur.toList.drop o).take (n * sz)=xs)
def pI(sz len:Nat)(M:Nat->Option bC):bC->Prop
 | .slice (some a) _ cap=>∀j,a.off+len * sz<=j->j<a.off+cap * sz->M j=none
 | _=>True
def fI(g:Gh)(n:Nat)(w:aQ)(l:Loc)(e sz len:Nat)(cv:bC):Prop :=
 ∃xs,rowAt w e sz cv len xs/\∀c,cv.ownBlock=some c->g.own c=some l/\pI sz len (g.M c) cv/\(∀b,b<n->g.bT b≠c)
theorem pI.eq{sz len:Nat}{M M':Nat->Option bC}{cv:bC}(h:pI sz len M cv)(hm:∀j,M' j=M j):pI sz len M' cv:=by
 unfold pI at *;split
 next a _ cap=>intro j h1 h2;rw[hm];exact h j h1 h2
 ·trivial
theorem zgc{w:aQ}{e sz n:Nat}{cv:bC}{xs:ei}(h:w.ownsRow 0 e sz cv n xs):rowAt w e sz cv n xs:=by
 obtain⟨h1,h|⟨c,cap,cur,h2,_,h3,h4,h5,h6,h7⟩⟩:=h
 ·exact⟨h1,.inl h⟩
 ·exact⟨h1,.inr ⟨c,0,cap,cur,h2,h3,h4,h5,.inr (by omega),by rw[ny];exact h7⟩⟩
theorem rowAt.lt{w:aQ}{e sz n:Nat}{cv:bC}{xs:ei}(h:rowAt w e sz cv n xs):∀c,cv.ownBlock=some c->c<w.heap.size:=by
 obtain⟨_,⟨rfl,_⟩|⟨c,o,cap,cur,rfl,h3,_⟩⟩:=h
 ·intro c hc;cases hc
 ·intro c' hc;cases hc;exact(s_.1 h3).1
theorem rowAt.cells{w:aQ}{e sz n:Nat}{c o cap:Nat}{xs:ei}(h:rowAt w e sz (.slice (some ⟨c,o,none⟩) n cap) n xs):∀j u,xs[j]?=some u->w.cell? ⟨c,o+j,none⟩=some u:=by
 obtain⟨_,⟨h,_⟩|⟨c,o,cap,cur,h,h3,_,_,_,rfl⟩⟩:=h
 ·cases h
 ·cases h;intro j u hu;rw[cell_of_row w _ _ cur _ _ h3];rw[Ak] at hu;split at hu
  ·rw[G4] at hu;simpa using hu
  ·cases hu
def cW(g:Gh)(n:Nat)(w:aQ)(l:Loc):V->bC->Prop
 | .sl sz xs (.yes e),cv=>fI g n w l e sz xs.length cv
 | _,_=>True
def Oq(g:Gh)(b off:Nat):V->bC->Prop
 | .sl _ _ .lock,cv=>cv=g.lk b off
 | _,_=>True
def bq.top:bq->Nat
 | .cells cs _=>aL cs
 | .map es=>max (aL (es.map (·.1))) (aL (es.map (·.2)))
 | .iter _ _=>0
 | .ul _ _ cs _=>aL cs
structure G9(g:Gh)(n:Nat)(w:aQ)(b eK sz:Nat)(cs:aG)(e:aD)(c len cap:Nat)(vs:ei):Prop where
 fm:g.fm b eK=some (.slice (some ⟨c,0,none⟩) len cap)
 pos:0<sz
 row:w.ownsRow 0 e sz (.slice (some ⟨c,0,none⟩) len cap) len vs
 BS:c=g.bT b\/g.own c=some (.cell b 0)
 M:∀o,g.M c o=none
 others:∀b',b'<n->b'≠b->g.bT b'≠c
 len:cs.length=vs.length
 cells:∀(j:Nat)(x:V)(v:bC),cs[j]?=some x->vs[j]?=some v->x.one=true/\aX g x v
 fresh:∀u,eK<u->g.fm b u=none
def fR(g:Gh)(n:Nat)(w:aQ)(b:Nat):bq->Prop
 | .cells cs t=>∃arr,w.heap[g.bT b]?=some (.cells arr t (0,0))/\cs.length=arr.size /\
   ∀(j:Nat)(x:V)(v:bC),cs[j]?=some x->arr[j]?=some v->x.one=true/\aX g x v/\cW g n w (.cell b j) x v/\Oq g b j x v
 | .map es=>∃en ck,w.heap[g.bT b]?=some (.map en ck)/\es.length=en.size/\∀(j:Nat)(x:V×V)(me:MapEntry),es[j]?=some x->en[j]?=some me->aX g x.1 me.key/\aX g x.2 me.val
 | .iter s pos=>w.heap[g.bT b]?=some (.stringIter (bytes s) pos)/\∀b:Nat,b∈s->b<256
 | .ul eK sz cs e=>∃c len cap vs,G9 g n w b eK sz cs e c len cap vs
structure p7(g:Gh)(bs:List bq)(w:aQ):Prop where
 mem:∀c o v,g.M c o=some v->w.cell? ⟨c,o,none⟩=some v
 lt:∀b,b<bs.length->g.bT b<w.heap.size
 inj:∀b b',b<bs.length->b'<bs.length->g.bT b=g.bT b'->b=b'
 apart:∀b,b<bs.length->∀o,g.M (g.bT b) o=none
 eI:∀c l,g.own c=some l->c<w.heap.size
 dN:∀b,b<bs.length->g.own (g.bT b)=none
 ok:∀(b:Nat)(x:bq),bs[b]?=some x->fR g bs.length w b x
 aL:∀(b:Nat)(x:bq),bs[b]?=some x->x.top<=bs.length
 laid:∀c,g.obj.lo c->(∃cs t,w.heap[c]?=some (.cells cs t (0,0)))/\g.own c=none/\∀b,b<bs.length->g.bT b≠c
def rU(d n:Nat)(g:Gh)(w:aQ)(c:Nat):Prop :=
 c<w.heap.size/\(∀b,b<n->g.bT b≠c)/\(g.own c=none\/∃d' t,g.own c=some (.slot d' t)/\d<d')
def ju(bs:List bq)(b off:Nat):Prop:=∃cs t sz xs,bs[b]?=some (.cells cs t)/\cs[off]?=some (.sl sz xs .lock)
structure Fr(d:Nat)(bs:List bq)(g:Gh)(w:aQ)(g':Gh)(w':aQ):Prop where
 le:Gh.Le bs.length g g'
 heap:∀c,rU d bs.length g w c->w'.heap[c]?=w.heap[c]?
 own:∀c,rU d bs.length g w c->g'.own c=g.own c
 M:∀c,rU d bs.length g w c->∀o,g'.M c o=g.M c o
 size:w.heap.size<=w'.heap.size
 lk:∀b off,ju bs b off->g'.lk b off=g.lk b off
 os:w'.os=w.os
 tape:w'.tape=w.tape
 output:w'.output=w.output
theorem Fr.refl(d:Nat)(bs:List bq)(g:Gh)(w:aQ):Fr d bs g w g w :=
 ⟨.refl _ _,λ_ _=>rfl,λ_ _=>rfl,λ_ _ _=>rfl,dB _,λ_ _ _=>rfl,rfl,rfl,rfl⟩
theorem Fr.trans{d:Nat}{Ed bs:List bq}{g0 g g':Gh}{w0 w w':aQ}(h1:Fr d Ed g0 w0 g w)(hlen:Ed.length<=bs.length)
  (dY:∀b,Ed.length<=b->b<bs.length->w0.heap.size<=g.bT b) (pY:∀b off,ju Ed b off->ju bs b off) (h2:Fr d bs g w g' w'):Fr d Ed g0 w0 g' w':=by
 have hp:∀c,rU d Ed.length g0 w0 c->rU d bs.length g w c:=λc hc=>by
  refine⟨uO hc.1 h1.size,λb hb e=>?_,by rw[h1.own c hc];exact hc.2.2⟩
  rcases eY b Ed.length with bW|uR
  ·exact hc.2.1 b bW ((h1.le.bT b bW).symm.trans e)
  ·have:=dY b uR hb;have:=hc.1;omega
 exact⟨h1.le.trans (h2.le.mono hlen),λc hc=>(h2.heap c (hp c hc)).trans (h1.heap c hc),λc hc=>(h2.own c (hp c hc)).trans (h1.own c hc),
  λc hc o=>(h2.M c (hp c hc) o).trans (h1.M c hc o),cZ h1.size h2.size,λb off hl=>(h2.lk b off (pY b off hl)).trans (h1.lk b off hl),
  h2.os.trans h1.os,h2.tape.trans h1.tape,h2.output.trans h1.output⟩
def Ot(Ed:List bq)(H:Hp):Prop :=
 ∀(b:Nat)(x:bq),H.az[b]?=some x->x.top<=b+1\/(∃m,(b,m)∈H.bJ/\x.top<=m)\/∃y:bq,Ed[b]?=some y/\x.top<=y.top
structure KB where
 t:Nat
 v:V
 cv:bC
 at_:Option (Nat×Nat)
structure dS where
 d:Nat
 bs:List bq
 g:Gh
 w:aQ
 dg:List KB
def Dx(B:dS)(b off:Nat):Prop:=ju B.bs b off\/∃q∈B.dg,q.at_=some (b,off)
def CT(g:Gh)(n:Nat)(x:V×aG)(d:Deferred):Prop :=
 ∃(f:FuncId)(as cs:aG)(fc:dR),x.1=.fn (.func f) as cs/\d.target=.fn (.func f) fc/\(as++x.2).length=d.args.size/\cs.length=fc.size/\(∀(j:Nat)(y:V)(v:bC),(as++x.2)[j]?=some y->d.args[j]?=some v->aX g y v) /\
  (∀(j:Nat)(y:V)(v:bC),cs[j]?=some y->fc[j]?=some v->aX g y v)/\aL (as++x.2)<=n/\aL cs<=n
def uS(g:Gh)(n:Nat)(x:V×aG)(d:Deferred):Prop:=CT g n x d\/(x=(.fQ,[])/\∃D,d={ target:=.collected D,args:=#[] })
def zqv(g:Gh)(n:Nat)(w:aQ)(D:Nat):Prop:=w.heap[D]?=some (.deferred (some []))/\(∀b,b<n->g.bT b≠D)/\g.own D=none
structure Rel(B:dS)(g:Gh)(s:St)(a:Act)(w:aQ):Prop where
 di:p7 g s.H.az w
 len:s.env.length=a.tmps.size
 env:∀(t:Nat)(x:V)(v:bC),s.env[t]?=some x->a.tmps[t]?=some v->aX g x v/\cW g s.H.az.length w (.slot B.d t) x v
 dO:∀(t:Nat)(x:V),s.env[t]?=some x->x.top<=s.H.az.length
 n0:B.bs.length<=s.H.az.length
 bJ:Ot B.bs s.H
 dZ:∀b,B.bs.length<=b->b<s.H.az.length->B.w.heap.size<=g.bT b
 fr:Fr B.d B.bs B.g B.w g w
 lK:∀b off,Dx B b off->ju s.H.az b off
 oI:∀p∈s.lk,¬Dx B p.1 p.2
 dg:∀p∈B.dg,s.env.length<p.t/\aX g p.v p.cv/\cW g s.H.az.length w (.slot B.d p.t) p.v p.cv/\p.v.top<=s.H.az.length/\∀b off,p.at_=some (b,off)->g.lk b off=p.cv
 eJ:s.defers.length=a.defers.length
 defers:∀(j:Nat)(x:V×aG)(d:Deferred),s.defers[j]?=some x->a.defers[j]?=some d->uS g s.H.az.length x d
 marks:∀d∈a.defers,∀D,d.target=.collected D->B.w.heap.size<=D/\zqv g s.H.az.length w D
 nI:a.defers.Pairwise λd d'=>∀D,d.target=.collected D->d'.target≠.collected D
structure gS(d:Nat)(b0:Option Nat)(l0:Option Loc)(n:Nat)(g:Gh)(w:aQ)(g':Gh)(w':aQ):Prop where
 le:Gh.Le n g g'
 heap:∀c,c<w.heap.size->(∀b,b0=some b->g.bT b≠c)->(∀l,l0=some l->g.own c≠some l)->w'.heap[c]?=w.heap[c]?
 own:∀c,c<w.heap.size->(∀l,l0=some l->g.own c≠some l)->g'.own c=g.own c
 M:∀c,c<w.heap.size->(∀l,l0=some l->g.own c≠some l)->∀o,g'.M c o=g.M c o
 size:w.heap.size<=w'.heap.size
 lk:∀b off,(∀l,l0=some l->l≠.cell b off)->g'.lk b off=g.lk b off
 Ou:∀l,l0=some l->(∃t,l=.slot d t)\/∃b j,l=.cell b j/\b0=some b
 Dy:∀b,b0=some b->b<n
 fm:∀b u,b<n->b0≠some b->g'.fm b u=g.fm b u
 os:w'.os=w.os
 tape:w'.tape=w.tape
 output:w'.output=w.output
theorem zcK{w w':aQ}{base e sz:Nat}{cv:bC}{n:Nat}{xs:ei}(h:w.ownsRow base e sz cv n xs)(hh:∀c,cv.ownBlock=some c->w'.heap[c]?=w.heap[c]?) :
  w'.ownsRow base e sz cv n xs:=by
 refine⟨h.1,h.2.imp id ?_⟩;rintro⟨c,cap,cur,rfl,hb,hc,r⟩;exact⟨c,cap,cur,rfl,hb,by rw[hh c rfl];exact hc,r⟩
theorem zaV{w w':aQ}{e sz:Nat}{cv:bC}{n:Nat}{xs:ei}(h:rowAt w e sz cv n xs)(hh:∀c,cv.ownBlock=some c->w'.heap[c]?=w.heap[c]?):rowAt w' e sz cv n xs:=by
 refine⟨h.1,h.2.imp id ?_⟩;rintro⟨c,o,cap,cur,rfl,hc,r⟩;exact⟨c,o,cap,cur,rfl,by rw[hh c rfl];exact hc,r⟩
theorem fI.lt{g:Gh}{n:Nat}{w:aQ}{l:Loc}{e sz len:Nat}{cv:bC}(h:fI g n w l e sz len cv):∀c,cv.ownBlock=some c->c<w.heap.size:=by
 obtain⟨xs,ho,_⟩:=h;exact λc hc=>ho.lt c hc
def M5(g:Gh)(l0:Option Loc)(w:aQ)(c:Nat):Prop:=w.heap.size<=c\/∃l,l0=some l/\g.own c=some l
theorem fI.nJ{d:Nat}{b0:Option Nat}{l0:Option Loc}{n n':Nat}{g g':Gh}{w w':aQ}(hs:gS d b0 l0 n g w g' w'){l:Loc}(hl:l0≠some l)
  (hn:∀b,n<=b->b<n'->M5 g l0 w (g'.bT b)) {e sz len:Nat} {cv:bC} (h:fI g n w l e sz len cv):fI g' n' w' l e sz len cv:=by
 have bW:=h.lt;obtain⟨xs,ho,hc⟩:=h;have cK:∀c,cv.ownBlock=some c->∀l',l0=some l'->g.own c≠some l':=λc rF l' iM e=>by
  rw[(hc c rF).1] at e;cases e;exact hl iM
 refine⟨xs,zaV ho λc rF=>hs.heap c (bW c rF) (λb hb=>(hc c rF).2.2 b (hs.Dy b hb)) (cK c rF),λc rF=>⟨?_,?_,?_⟩⟩
 ·rw[hs.own c (bW c rF) (cK c rF)];exact(hc c rF).1
 ·exact(hc c rF).2.1.eq λo=>hs.M c (bW c rF) (cK c rF) o
 ·intro b hb e;rcases eY b n with h1|h1
  ·exact(hc c rF).2.2 b h1 ((hs.le.bT b h1).symm.trans e)
  ·have:=bW c rF;rcases hn b h1 hb with h2|⟨l',h2,h3⟩
   ·omega
   ·rw[e,(hc c rF).1] at h3;cases h3;exact hl h2
theorem fI.same{d:Nat}{b0:Option Nat}{l0:Option Loc}{n n':Nat}{g g':Gh}{w w':aQ}(hs:gS d b0 l0 n g w g' w'){l:Loc}(hl:l0≠some l)
  (hn:∀b,n<=b->b<n'->w.heap.size<=g'.bT b) {e sz len:Nat} {cv:bC} (h:fI g n w l e sz len cv):fI g' n' w' l e sz len cv :=
 fI.nJ hs hl (λb h1 h2=>.inl (hn b h1 h2)) h
theorem cW.nJ{d:Nat}{b0:Option Nat}{l0:Option Loc}{n n':Nat}{g g':Gh}{w w':aQ}(hs:gS d b0 l0 n g w g' w'){l:Loc}(hl:l0≠some l)
  (hn:∀b,n<=b->b<n'->M5 g l0 w (g'.bT b)) {x:V} {cv:bC} (h:cW g n w l x cv):cW g' n' w' l x cv:=by
 unfold cW at *;split
 ·exact fI.nJ hs hl hn h
 ·trivial
theorem cW.same{d:Nat}{b0:Option Nat}{l0:Option Loc}{n n':Nat}{g g':Gh}{w w':aQ}(hs:gS d b0 l0 n g w g' w'){l:Loc}(hl:l0≠some l)
  (hn:∀b,n<=b->b<n'->w.heap.size<=g'.bT b) {x:V} {cv:bC} (h:cW g n w l x cv):cW g' n' w' l x cv :=
 cW.nJ hs hl (λb h1 h2=>.inl (hn b h1 h2)) h
theorem vi(g:Gh)(n:Nat)(w:aQ)(l:Loc)(x:V)(cv:bC):cW g n w l (bg x) cv:=by
 cases x<;>simp[bg,cW]
theorem fR.nJ{d:Nat}{b0:Option Nat}{l0:Option Loc}{n n':Nat}{g g':Gh}{w w':aQ}(hs:gS d b0 l0 n g w g' w'){b:Nat}(hb:b0≠some b)(M6:b<n)
  (bW:g.bT b<w.heap.size) (iD:g.own (g.bT b)=none) (BT:∀b',b0=some b'->g.bT b'≠g.bT b)
  (hn:∀b,n<=b->b<n'->M5 g l0 w (g'.bT b)) {x:bq} (dH:x.top<=n) (h:fR g n w b x):fR g' n' w' b x:=by
 have cK:∀l,l0=some l->g.own (g.bT b)≠some l:=by
  intro l _;rw[iD];simp
 have oJ:w'.heap[g'.bT b]?=w.heap[g.bT b]?:=by
  rw[hs.le.bT b M6];exact hs.heap _ bW BT cK
 have dy:∀j,l0≠some (.cell b j):=λj e=>by
  rcases hs.Ou _ e with⟨t,ht⟩|⟨b',j',he,dw⟩
  ·cases ht
  ·cases he;exact hb dw
 cases x with
 | cells cs t =>
  obtain⟨arr,ha,hl,hj⟩:=h;refine⟨arr,oJ.trans ha,hl,λj x v hx hv=>?_⟩;obtain⟨h1,h2,h3,h4⟩:=hj j x v hx hv;have Dz:x.top<=n:=cZ (zn (zw hx)) dH;refine⟨h1,h2.le hs.le Dz,cW.nJ hs (dy j) hn h3,?_⟩;unfold Oq at *;split
  ·rw[hs.lk b j λl hl e=>dy j (e ▸ hl)];exact h4
  ·trivial
 | map es =>
  obtain⟨en,ck,ha,hl,hj⟩:=h;have ht:=tw.1 (show max (aL (es.map (·.1))) (aL (es.map (·.2)))<=n from dH);refine⟨en,ck,oJ.trans ha,hl,λj x me hx KC=>?_⟩;obtain⟨h1,h2⟩:=hj j x me hx KC;exact⟨h1.le hs.le (cZ (zn (List.mem_map_of_mem (f:=(·.1)) (zw hx))) ht.1),h2.le hs.le (cZ (zn (List.mem_map_of_mem (f:=(·.2)) (zw hx))) ht.2)⟩
 | iter s pos=>exact⟨oJ.trans h.1,h.2⟩
 | ul eK sz cs e =>
  obtain⟨c,len,cap,vs,hu⟩:=h;have bW:c<w.heap.size:=(hu.row.lt c rfl).2;have e_:∀l,l0=some l->g.own c≠some l:=λl iM e'=>by
   rcases hu.BS with h1|h1
   ·exact cK l iM (h1 ▸ e')
   ·rw[h1] at e';cases e';exact dy 0 iM
  have hnb:∀b',b0=some b'->g.bT b'≠c:=λb' dw=>hu.others b' (hs.Dy b' dw) λe'=>hb (e' ▸ dw);refine⟨c,len,cap,vs,?_,hu.pos,zcK hu.row λk hk=>?_,?_,λo=>?_,λb' dw U5 e'=>?_,hu.len,λj x v hx hv=>?_,λu hlu=>?_⟩
  ·rw[hs.fm b eK M6 hb];exact hu.fm
  ·cases hk;exact hs.heap c bW hnb e_
  ·rw[hs.le.bT b M6,hs.own c bW e_];exact hu.BS
  ·rw[hs.M c bW e_];exact hu.M o
  ·rcases eY b' n with h1|h1
   ·exact hu.others b' h1 U5 ((hs.le.bT b' h1).symm.trans e')
   ·rcases hn b' h1 dw with h2|⟨l,h2,h3⟩
    ·omega
    ·exact e_ l h2 (e' ▸ h3)
  ·obtain⟨h1,h2⟩:=hu.cells j x v hx hv;exact⟨h1,h2.le hs.le (cZ (zn (zw hx)) dH)⟩
  ·rw[hs.fm b u M6 hb];exact hu.fresh u hlu
theorem fR.same{d:Nat}{b0:Option Nat}{l0:Option Loc}{n n':Nat}{g g':Gh}{w w':aQ}(hs:gS d b0 l0 n g w g' w'){b:Nat}(hb:b0≠some b)(M6:b<n)
  (bW:g.bT b<w.heap.size) (iD:g.own (g.bT b)=none) (BT:∀b',b0=some b'->g.bT b'≠g.bT b)
  (hn:∀b,n<=b->b<n'->w.heap.size<=g'.bT b) {x:bq} (dH:x.top<=n) (h:fR g n w b x):fR g' n' w' b x :=
 fR.nJ hs hb M6 bW iD BT (λb h1 h2=>.inl (hn b h1 h2)) dH h
theorem gS.fr{d:Nat}{b0:Option Nat}{l0:Option Loc}{bs:List bq}{g g':Gh}{w w':aQ}(hs:gS d b0 l0 bs.length g w g' w')(hl:∀b j,l0=some (.cell b j)->¬ju bs b j) :
  Fr d bs g w g' w':=by
 have cK:∀c,rU d bs.length g w c->∀l,l0=some l->g.own c≠some l:=by
  intro c hc l iM e;rcases hc.2.2 with h0|⟨d',t,h1,hd⟩
  ·rw[h0] at e;cases e
  ·rw[h1] at e;cases e;rcases hs.Ou _ iM with⟨t',ht⟩|⟨b,j,hj,_⟩
   ·cases ht;omega
   ·cases hj
 exact⟨hs.le,λc hc=>hs.heap c hc.1 (λb hb=>hc.2.1 b (hs.Dy b hb)) (cK c hc),λc hc=>hs.own c hc.1 (cK c hc),λc hc=>hs.M c hc.1 (cK c hc),hs.size,
  λb off pY=>hs.lk b off λl iM e=>hl b off (e ▸ iM) pY,hs.os,hs.tape,hs.output⟩
theorem CT.le{n n':Nat}{g g':Gh}(hg:Gh.Le n g g')(hn:n<=n'){x:V×aG}{d:Deferred}(h:CT g n x d):CT g' n' x d:=by
 obtain⟨f,as,cs,fc,h1,h2,h3,h4,h5,h6,h7,h8⟩:=h
 exact⟨f,as,cs,fc,h1,h2,h3,h4,λj y v hy hv=>(h5 j y v hy hv).le hg (cZ (zn (zw hy)) h7),λj y v hy hv=>(h6 j y v hy hv).le hg (cZ (zn (zw hy)) h8),
  cZ h7 hn,cZ h8 hn⟩
theorem uS.le{n n':Nat}{g g':Gh}(hg:Gh.Le n g g')(hn:n<=n'){x:V×aG}{d:Deferred}(h:uS g n x d):uS g' n' x d:=h.imp (λh=>h.le hg hn) id
theorem Rel.CU{B:dS}{g:Gh}{s:St}{a:Act}{w:aQ}(h:Rel B g s a w){b0:Option Nat}{l0:Option Loc}{g':Gh}{w':aQ}(hs:gS B.d b0 l0 s.H.az.length g w g' w'){s':St}
  (hlen:s.H.az.length<=s'.H.az.length)
  (hold:∀b,b<s.H.az.length->b0≠some b->s'.H.az[b]?=s.H.az[b]?)
  (G_:∀(b:Nat)(x:bq),(b0=some b\/s.H.az.length<=b)->s'.H.az[b]?=some x->fR g' s'.H.az.length w' b x/\x.top<=s'.H.az.length)
  (dY:∀b,s.H.az.length<=b->b<s'.H.az.length->(M5 g l0 w (g'.bT b)/\B.w.heap.size<=g'.bT b)/\g'.bT b<w'.heap.size/\g'.own (g'.bT b)=none/\∀o,g'.M (g'.bT b) o=none)
  (BT:∀b b',s.H.az.length<=b->b<s'.H.az.length->s.H.az.length<=b'->b'<s'.H.az.length->g'.bT b=g'.bT b'->b=b')
  (dI:∀c o v,g'.M c o=some v->w'.cell? ⟨c,o,none⟩=some v)
  (sy:∀c l,g'.own c=some l->c<w'.heap.size)
  (KD:∀b j,l0=some (.cell b j)->¬ju s.H.az b j)
  (CV:s'.env.length=s.env.length) (DA:s'.defers=s.defers)
  (k_:∀(t:Nat)(x:V),s'.env[t]?=some x->∃y,s.env[t]?=some y/\(x=y/\l0≠some (.slot B.d t)\/x=bg y))
  (BU:Ot B.bs s'.H) (DB:∀b off,Dx B b off->ju s'.H.az b off) (KE:∀p∈s'.lk,¬Dx B p.1 p.2) (tG:∀t,l0=some (.slot B.d t)->∀p∈B.dg,p.t≠t):Rel B g' s' a w':=by
 have hn:∀b,s.H.az.length<=b->b<s'.H.az.length->M5 g l0 w (g'.bT b):=λb h1 h2=>(dY b h1 h2).1.1;have uT:∀b,s.H.az.length<=b->b<s'.H.az.length->∀c,c<w.heap.size->(∀l,l0=some l->g.own c≠some l)->g'.bT b≠c:=λb h1 h2 c h3 h4 e=>by
  rcases hn b h1 h2 with h5|⟨l,h5,h6⟩
  ·omega
  ·exact h4 l h5 (e ▸ h6)
 have cK:∀b,b<s.H.az.length->∀l,l0=some l->g.own (g.bT b)≠some l:=λb hb l _=>by rw[h.di.dN b hb];simp
 have ou:∀b,b<s.H.az.length->g'.bT b=g.bT b:=λb hb=>hs.le.bT b hb;refine { di:=?_,len:=CV.trans h.len,env:=?_,dO:=?_,n0:=cZ h.n0 hlen,bJ:=BU,dZ:=?_,fr:=?_,lK:=DB,oI:=KE,dg:=?_,eJ:=by rw[DA];exact h.eJ,defers:=?_,marks:=λd hd D hD=>?_,nI:=h.nI }
 ·refine { mem:=dI,lt:=?_,inj:=?_,apart:=?_,eI:=sy,dN:=?_,ok:=?_,aL:=?_,laid:=?_ }
  ·intro b hb;rcases eY b s.H.az.length with h1|h1
   ·rw[ou b h1];exact uO (h.di.lt b h1) hs.size
   ·exact(dY b h1 hb).2.1
  ·intro b b' hb dw e;rcases eY b s.H.az.length with h1|h1<;>rcases eY b' s.H.az.length with h2|h2
   ·rw[ou b h1,ou b' h2] at e;exact h.di.inj b b' h1 h2 e
   ·rw[ou b h1] at e;exact absurd e.symm (uT b' h2 dw _ (h.di.lt b h1) (cK b h1))
   ·rw[ou b' h2] at e;exact absurd e (uT b h1 hb _ (h.di.lt b' h2) (cK b' h2))
   ·exact BT b b' h1 hb h2 dw e
  ·intro b hb o;rcases eY b s.H.az.length with h1|h1
   ·rw[ou b h1,hs.M _ (h.di.lt b h1) (cK b h1)];exact h.di.apart b h1 o
   ·exact(dY b h1 hb).2.2.2 o
  ·intro b hb;rcases eY b s.H.az.length with h1|h1
   ·rw[ou b h1,hs.own _ (h.di.lt b h1) (cK b h1)];exact h.di.dN b h1
   ·exact(dY b h1 hb).2.2.1
  ·intro b x hx
   by_cases hc:b0=some b\/s.H.az.length<=b
   ·exact(G_ b x hc hx).1
   ·have h1:b<s.H.az.length:=by omega
    have h2:b0≠some b:=λe=>hc (.inl e);rw[hold b h1 h2] at hx;exact fR.nJ hs h2 h1 (h.di.lt b h1) (h.di.dN b h1) (λb' dw e=>h2 (by rw[dw,h.di.inj b' b (hs.Dy b' dw) h1 e])) hn (h.di.aL b x hx) (h.di.ok b x hx)
  ·intro b x hx
   by_cases hc:b0=some b\/s.H.az.length<=b
   ·exact(G_ b x hc hx).2
   ·have h1:b<s.H.az.length:=by omega
    rw[hold b h1 (λe=>hc (.inl e))] at hx;exact cZ (h.di.aL b x hx) hlen
  ·intro c hc;rw[hs.le.obj] at hc;obtain⟨⟨cs,t,h1⟩,h2,h3⟩:=h.di.laid c hc;have bW:c<w.heap.size:=(s_.1 h1).1;have e_:∀l,l0=some l->g.own c≠some l:=λl _=>by rw[h2];simp
   refine⟨⟨cs,t,by rw[hs.heap c bW (λb hb=>h3 b (hs.Dy b hb)) e_];exact h1⟩,by rw[hs.own c bW e_];exact h2,λb hb e=>?_⟩
   rcases eY b s.H.az.length with h4|h4
   ·rw[ou b h4] at e;exact h3 b h4 e
   ·exact uT b h4 hb c bW e_ e
 ·intro t x v hx hv;obtain⟨y,hy,He⟩:=k_ t x hx;obtain⟨h1,h2⟩:=h.env t y v hy hv;have h3:=h.dO t y hy;rcases He with⟨rfl,hl⟩|rfl
  ·exact⟨h1.le hs.le h3,cW.nJ hs hl hn h2⟩
  ·exact⟨(h1.le hs.le h3).bg,vi _ _ _ _ _ _⟩
 ·intro t x hx;obtain⟨y,hy,He⟩:=k_ t x hx;have h3:=h.dO t y hy;rcases He with⟨rfl,_⟩|rfl
  ·exact cZ h3 hlen
  ·rw[jq];exact cZ h3 hlen
 ·intro b h1 h2;rcases eY b s.H.az.length with h3|h3
  ·rw[ou b h3];exact h.dZ b h1 h3
  ·exact(dY b h3 h2).1.2
 ·exact h.fr.trans h.n0 h.dZ (λb off hl=>h.lK b off (.inl hl)) (hs.fr KD)
 ·intro p hp;obtain⟨p1,p2,p3,p4,p5⟩:=h.dg p hp;refine⟨by rw[CV];exact p1,p2.le hs.le p4,cW.nJ hs (λe=>?_) hn p3,cZ p4 hlen,λb off e=>?_⟩
  ·exact tG _ e p hp rfl
  ·rw[hs.lk b off λl hl e'=>KD b off (e' ▸ hl) (h.lK b off (.inr ⟨p,hp,e⟩))];exact p5 b off e
 ·intro j x d hx hd;rw[DA] at hx;exact(h.defers j x d hx hd).le hs.le hlen
 ·obtain⟨h0,h1,h2,h3⟩:=h.marks d hd D hD;have bW:D<w.heap.size:=(s_.1 h1).1;have e_:∀l,l0=some l->g.own D≠some l:=λl _=>by rw[h3];simp
  refine⟨h0,by rw[hs.heap D bW (λb hb=>h2 b (hs.Dy b hb)) e_];exact h1,λb hb e=>?_,by rw[hs.own D bW e_];exact h3⟩
  rcases eY b s.H.az.length with h4|h4
  ·rw[ou b h4] at e;exact h2 b h4 e
  ·exact uT b h4 hb D bW e_ e
theorem Rel.lf{B:dS}{g:Gh}{s:St}{a:Act}{w:aQ}(h:Rel B g s a w){b0:Option Nat}{l0:Option Loc}{g':Gh}{w':aQ}(hs:gS B.d b0 l0 s.H.az.length g w g' w'){s':St}
  (hlen:s.H.az.length<=s'.H.az.length)
  (hold:∀b,b<s.H.az.length->b0≠some b->s'.H.az[b]?=s.H.az[b]?)
  (G_:∀(b:Nat)(x:bq),(b0=some b\/s.H.az.length<=b)->s'.H.az[b]?=some x->fR g' s'.H.az.length w' b x/\x.top<=s'.H.az.length)
  (dY:∀b,s.H.az.length<=b->b<s'.H.az.length->w.heap.size<=g'.bT b/\g'.bT b<w'.heap.size/\g'.own (g'.bT b)=none/\∀o,g'.M (g'.bT b) o=none)
  (BT:∀b b',s.H.az.length<=b->b<s'.H.az.length->s.H.az.length<=b'->b'<s'.H.az.length->g'.bT b=g'.bT b'->b=b')
  (dI:∀c o v,g'.M c o=some v->w'.cell? ⟨c,o,none⟩=some v)
  (sy:∀c l,g'.own c=some l->c<w'.heap.size)
  (KD:∀b j,l0=some (.cell b j)->¬ju s.H.az b j)
  (CV:s'.env.length=s.env.length) (DA:s'.defers=s.defers)
  (k_:∀(t:Nat)(x:V),s'.env[t]?=some x->∃y,s.env[t]?=some y/\(x=y/\l0≠some (.slot B.d t)\/x=bg y))
  (BU:Ot B.bs s'.H) (DB:∀b off,Dx B b off->ju s'.H.az b off) (KE:∀p∈s'.lk,¬Dx B p.1 p.2) (tG:∀t,l0=some (.slot B.d t)->t<=s.env.length):Rel B g' s' a w' :=
 h.CU hs hlen hold G_ (λb h1 h2=>⟨⟨.inl (dY b h1 h2).1,cZ h.fr.size (dY b h1 h2).1⟩,(dY b h1 h2).2⟩) BT dI sy KD CV DA k_ BU DB KE
  λt e p hp e'=>by have:=tG t e;have:=(h.dg p hp).1;omega
end
section
mutual
theorem U6(g:Gh):∀(v:bC)(x:V),aj v=some x->aX g x v/\x.top=0
 | .bool b,x,h=>by simp only[aj,bz] at h;subst h;exact⟨.bool b,rfl⟩
 | .int k n,x,h=>by simp only[aj,bz] at h;subst h;exact⟨.int k n,rfl⟩
 | .float _ _,x,h=>by simp[aj] at h
 | .complex _ _ _,x,h=>by simp[aj] at h
 | .string s,x,h=>by
  simp only[aj,bz] at h;subst h;have e:s=bytes (s.data.toList.map UInt8.toNat):=by
   cases s;simp[bytes,Function.comp_def]
  refine⟨?_,rfl⟩
  conv=>rhs;rw[e]
  exact .str λb hb=>by
   obtain⟨c,_,rfl⟩:=mU.1 hb;exact c.toNat_lt
 | .pointer a,x,h=>by
  cases a with
  | none=>simp only[aj,bz] at h;subst h;exact⟨.fQ,rfl⟩
  | some _=>simp[aj] at h
 | .slice a n c,x,h=>by
  unfold aj at h;split at h<;>first|(rename_i e;cases e;done)|skip
  all_goals first
   |(simp only[bz] at h;subst h;rename_i e;cases e;first|exact⟨.aH,rfl⟩)
   |(cases h;done)
   |(rename_i e;cases e)
 | .map r,x,h=>by
  cases r with
  | none=>simp only[aj,bz] at h;subst h;exact⟨.mz,rfl⟩
  | some _=>simp[aj] at h
 | .chan _,x,h=>by simp[aj] at h
 | .func f ⟨as⟩ ⟨cs⟩,x,h=>by
  cases as with
  | nil=>cases cs with
   | nil =>
    simp only[aj,bz] at h;subst h;exact⟨.fn rfl rfl (λj x v hx=>by simp at hx) (λj x v hx=>by simp at hx),rfl⟩
   | cons _ _=>simp[aj] at h
  | cons _ _=>simp[aj] at h
 | .nilFunc,x,h=>by simp only[aj,bz] at h;subst h;exact⟨.pH,rfl⟩
 | .iface _ _,x,h=>by simp[aj] at h
 | .nilIface,x,h=>by simp only[aj,bz] at h;subst h;exact⟨.bP,rfl⟩
 | .agg ⟨cs⟩,x,h=>by
  simp only[aj,eM] at h;obtain⟨l,hl,h⟩:=h;split at h
  ·rename_i dG;simp only[bz] at h;subst h;obtain⟨h1,h2,h3⟩:=zdc g cs l hl;refine⟨.agg (by simpa using h1) (λj x hx=>Dr.1 dG x (zw hx)) (λj x v hx hv=>h2 j x v hx (by simpa using hv)),?_⟩
   simp only[V.top];exact h3
  ·cases h
 | .tuple ⟨vs⟩,x,h=>by
  cases vs with
  | nil=>simp only[aj,bz] at h;subst h;exact⟨.bx rfl (λj x v hx=>by simp at hx),rfl⟩
  | cons _ _=>simp[aj] at h
theorem zdc(g:Gh):∀(vs:ei)(xs:aG),nF vs=some xs->xs.length=vs.length/\(∀(j:Nat)(x:V)(v:bC),xs[j]?=some x->vs[j]?=some v->aX g x v)/\aL xs=0
 | [],xs,h=>by simp only[nF,bz] at h;subst h;exact⟨rfl,λj x v hx=>by simp at hx,rfl⟩
 | v::vs,xs,h=>by
  simp only[nF] at h;split at h
  ·rename_i x ys hx th;simp only[bz] at h;subst h;obtain⟨h1,h2⟩:=U6 g v x hx;obtain⟨h3,h4,h5⟩:=zdc g vs ys th;refine⟨by simp[h3],λj y u hy hu=>?_,by simp[aL,h2,h5]⟩
   cases j with
   | zero=>simp at hy hu;subst hy;subst hu;exact h1
   | succ j=>simp at hy hu;exact h4 j y u hy hu
  ·cases h
end
variable{B:dS}{g:Gh}{s:St}{a:Act}{w:aQ}
theorem Rel.slot(h:Rel B g s a w){t:Nat}{x:V}(hx:s.env[t]?=some x):∃v,a.tmps[t]?=some v/\a.eval (.tmp t)=v:=by
 have bW:t<a.tmps.size:=by rw[<- h.len];exact(dA.1 hx).1
 refine⟨a.tmps[t],D_ bW,?_⟩;simp[Act.eval,Array.getD,bW]
theorem zeu{n:Nat}{l:Loc}{x:V}{v cv:bC}(h:aj v=some x):cW g n w l x cv:=by
 unfold cW;split
 ·unfold aj at h;split at h<;>try (simp at h;done)
  all_goals (simp only[eM] at h;obtain⟨l,_,h⟩:=h;split at h<;>simp at h)
 ·trivial
theorem zI(h:Rel B g s a w){x:a_}{v:V}(hp:ak s.env x=some v) :
  aX g v (a.eval x)/\v.top<=s.H.az.length/\∀n l,cW g n w l v (a.eval x):=by
 cases x with
 | tmp t =>
  simp only[ak,zg] at hp;split at hp<;>simp only[bz,reduceCtorEq] at hp;rename_i y hy;subst hp;obtain⟨cv,iW,he⟩:=h.slot hy;rw[he];exact⟨(h.env t y cv hy iW).1.bg,by rw[jq];exact h.dO t y hy,λ_ _=>vi _ _ _ _ _ _⟩
 | const c =>
  simp only[ak] at hp;obtain⟨h1,h2⟩:=U6 g c v hp;exact⟨h1,by omega,λ_ _=>zeu hp⟩
 | global k =>
  simp only[ak,bz] at hp;subst hp;exact⟨.eV k 0,dP _,λ_ _=>trivial⟩
 | func f =>
  simp only[ak,bz] at hp;subst hp;exact⟨.fn rfl rfl (λj x v hx=>by simp at hx) (λj x v hx=>by simp at hx),dP _,λ_ _=>trivial⟩
theorem Rel.hand(h:Rel B g s a w){t:Nat}{v:V}(hv:s.env[t]?=some v)(c:Nat)(hc:g.own c=some (.slot B.d t))(hcw:c<w.heap.size)(l:Loc) :
  Rel B { g with own:=λx=>if x=c then some l else g.own x } { s with env:=s.env.set t (bg v) } a w:=by
 have ht:t<s.env.length:=(dA.1 hv).1;refine h.lf (b0:=none) (l0:=some (.slot B.d t)) ?_ (dB _) (λ_ _ _=>rfl) (λb x hb hx=>?_) (λb h1 h2=>?_) (λb b' h1 h2=>?_) h.di.mem (λc' l' eA=>?_) (λb j e=>by cases e) (by simp) rfl (λt' x hx=>?_) h.bJ h.lK h.oI ?_
 ·refine⟨⟨λ_ _ _ e=>e,λ_ _=>rfl,rfl,λ_ _ _ _ e=>e⟩,λ_ _ _ _=>rfl,λc' _ h'=>?_,λ_ _ _ _=>rfl,dB _,λ_ _ _=>rfl,λl' iM=>?_,λb hb=>(by cases hb),λ_ _ _ _=>rfl,rfl,rfl,rfl⟩
  ·show(if c'=c then some l else g.own c')=g.own c'
   rw[if_neg];rintro rfl;exact h' _ rfl hc
  ·cases iM;exact .inl ⟨t,rfl⟩
 ·rcases hb with hb|hb
  ·cases hb
  ·have:=(dA.1 hx).1;simp only at this;omega
 ·simp only at h2;omega
 ·simp only at h2;omega
 ·simp only at eA;split at eA
  next e=>rw[e];exact hcw
  ·exact h.di.eI c' l' eA
 ·simp only[tc] at hx;split at hx
  next e=>subst e;simp only[bz] at hx;exact⟨v,hv,.inr hx.symm⟩
  next e=>exact⟨x,hx,.inl ⟨rfl,λe'=>e (by cases e';rfl)⟩⟩
 ·intro t' e;cases e;exact Nat.le_of_lt ht
theorem Rel.clear(h:Rel B g s a w){t:Nat}{v:V}(hv:s.env[t]?=some v):Rel B g { s with env:=s.env.set t (bg v) } a w:=by
 have ht:t<s.env.length:=(dA.1 hv).1;refine h.lf (b0:=none) (l0:=none) ?_ (dB _) (λ_ _ _=>rfl) (λb x hb hx=>?_) (λb h1 h2=>?_) (λb b' h1 h2=>?_) h.di.mem h.di.eI (λb j e=>by cases e) (by simp) rfl (λt' x hx=>?_) h.bJ h.lK h.oI ?_
 ·exact⟨⟨λ_ _ _ e=>e,λ_ _=>rfl,rfl,λ_ _ _ _ e=>e⟩,λ_ _ _ _=>rfl,λ_ _ _=>rfl,λ_ _ _ _=>rfl,dB _,λ_ _ _=>rfl,λl' iM=>(by cases iM),λb hb=>(by cases hb),λ_ _ _ _=>rfl,rfl,rfl,rfl⟩
 ·rcases hb with hb|hb
  ·cases hb
  ·have:=(dA.1 hx).1;simp only at this;omega
 ·simp only at h2;omega
 ·simp only at h2;omega
 ·simp only[tc] at hx;split at hx
  next e=>subst e;simp only[bz] at hx;exact⟨v,hv,.inr hx.symm⟩
  ·exact⟨x,hx,.inl ⟨rfl,λe'=>by cases e'⟩⟩
 ·intro t' e;cases e
structure Gh.Alike(g g':Gh):Prop where
 M:g'.M=g.M
 bT:g'.bT=g.bT
 obj:g'.obj=g.obj
 lk:g'.lk=g.lk
 fm:g'.fm=g.fm
theorem Gh.Alike.refl(g:Gh):Gh.Alike g g:=⟨rfl,rfl,rfl,rfl,rfl⟩
theorem Gh.Alike.le{g g':Gh}(h:Gh.Alike g g')(n:Nat):Gh.Le n g g':=⟨λ_ _ _ e=>by rw[h.M];exact e,λ_ _=>by rw[h.bT],h.obj,λ_ _ _ _ e=>by rw[h.fm];exact e⟩
theorem Gh.Alike.rel{g g':Gh}(h:Gh.Alike g g'){v:V}{cv:bC}(hr:aX g v cv):aX g' v cv:=hr.le (h.le v.top) (dB _)
theorem vJ(h:Rel B g s a w){x:a_}{v:V}{dh:aG}(ht:take s.env x=some (v,dh))(l:Loc) :
  ∃g',Rel B g' { s with env:=dh } a w/\aX g' v (a.eval x)/\cW g' s.H.az.length w l v (a.eval x)/\v.top<=s.H.az.length/\Gh.Alike g g':=by
 have plain:∀y,(∀t,y≠.tmp t)->take s.env y=some (v,dh)->∃g',Rel B g' { s with env:=dh } a w/\aX g' v (a.eval y)/\cW g' s.H.az.length w l v (a.eval y)/\v.top<=s.H.az.length/\Gh.Alike g g':=by
  intro y hy r_;have hp:ak s.env y=some v/\s.env=dh:=by
   cases y with
   | tmp t=>exact absurd rfl (hy t)
   | _ =>
    simp only[take,mS,cq] at r_;obtain⟨u,hu,rfl,rfl⟩:=r_;exact⟨hu,rfl⟩
  obtain⟨h1,h2,h3⟩:=zI h hp.1;rw[<- hp.2];exact⟨g,h,h1,h3 _ _,h2,.refl g⟩
 cases x with
 | tmp t =>
  simp only[take,zg,eP] at ht;split at ht<;>simp only[bz,cq,reduceCtorEq] at ht
  ·rename_i sz xs e hy;obtain⟨rfl,rfl⟩:=ht;obtain⟨cv,iW,he⟩:=h.slot hy;obtain⟨h1,h2⟩:=h.env t _ cv hy iW;have h3:=h.dO t _ hy;rw[he];have Gf:fI g s.H.az.length w (.slot B.d t) e sz xs.length cv:=h2;cases Gg:cv.ownBlock with
   | none =>
    obtain⟨ys,ho,_⟩:=Gf;exact⟨g,h.clear hy,h1,⟨ys,ho,λc hc=>by rw[Gg] at hc;cases hc⟩,h3,.refl g⟩
   | some c =>
    have bW:=Gf.lt c Gg;obtain⟨ys,ho,hc⟩:=Gf;obtain⟨c1,c2,c3⟩:=hc c Gg;refine⟨_,h.hand hy c c1 bW l,?_,⟨ys,ho,λc' eA=>?_⟩,h3,⟨rfl,rfl,rfl,rfl,rfl⟩⟩
    ·exact Gh.Alike.rel (g:=g) (g':={ g with own:=λx=>if x=c then some l else g.own x }) ⟨rfl,rfl,rfl,rfl,rfl⟩ h1
    ·rw[Gg] at eA;cases eA;exact⟨by simp,c2,c3⟩
  next y _ hy=>obtain⟨rfl,rfl⟩:=ht;obtain⟨cv,iW,he⟩:=h.slot hy;obtain⟨h1,h2⟩:=h.env t _ cv hy iW;rw[he];exact⟨g,h,h1.bg,vi _ _ _ _ _ _,by rw[jq];exact h.dO t _ hy,.refl g⟩
 | const c=>exact plain _ (λt=>by simp) ht
 | global k=>exact plain _ (λt=>by simp) ht
 | func f=>exact plain _ (λt=>by simp) ht
structure DC(B:dS)(g:Gh)(s:St)(a:Act)(w:aQ)(dst:fz)(v:V)(cv:bC):Prop where
 rel:Rel B g s a w
 val:aX g v cv
 own:∀t,dst=some t->cW g s.H.az.length w (.slot B.d t) v cv
 top:v.top<=s.H.az.length
theorem wQ{dst:fz}{v:V}{cv:bC}(h:DC B g s a w dst v cv):Rel B g { s with env:=aq s.env dst v } (a.put dst cv) w:=by
 cases dst with
 | none=>exact h.rel
 | some t =>
  have hr:=h.rel;refine { di:=hr.di,len:=by simpa[aq,Act.put] using hr.len,env:=?_,dO:=?_,n0:=hr.n0,bJ:=hr.bJ,dZ:=hr.dZ,fr:=hr.fr,lK:=hr.lK,oI:=hr.oI,dg:=by simpa[aq] using hr.dg,eJ:=hr.eJ,defers:=hr.defers,marks:=hr.marks,nI:=hr.nI }
  ·intro t' x u hx hu;simp only[aq,tc] at hx;simp only[Act.put,Array.getElem?_setIfInBounds] at hu
   by_cases e:t=t'
   ·subst e;simp only[aI] at hx hu;split at hx
    ·simp only[bz] at hx;split at hu
     ·simp only[bz] at hu;subst hx;subst hu;exact⟨h.val,h.own t rfl⟩
     ·cases hu
    ·cases hx
   ·simp only[e,bD] at hx hu;exact hr.env t' x u hx hu
  ·intro t' x hx;simp only[aq,tc] at hx
   by_cases e:t=t'
   ·subst e;simp only[aI] at hx;split at hx
    ·simp only[bz] at hx;subst hx;exact h.top
    ·cases hx
   ·simp only[e,bD] at hx;exact hr.dO t' x hx
end
section
variable{P:aY}{g:Gh}{w:aQ}
theorem jA{t:aD}{n:Nat}(h:z4 P t=some n)(w:aQ):(sizeOf t).run P w=.ok n w:=by
 simp only[z4,mS] at h;obtain⟨i,hi,rfl⟩:=h;simp[sizeOf,typeInfo,hi]
theorem Sm{t:aD}{b:Bool}(h:qG P t=some b)(w:aQ):(isAgg t).run P w=.ok b w:=by
 simp only[qG,mS] at h;obtain⟨d,hd,rfl⟩:=h;unfold isAgg;simp only[Sem.run_bind,run_underlying hd,Result.andThen_ok];cases d<;>rfl
structure bQ(g:Gh)(cs:aG)(vs:ei):Prop where
 len:cs.length=vs.length
 one:∀(j:Nat)(x:V),cs[j]?=some x->x.one=true
 rel:∀(j:Nat)(x:V)(v:bC),cs[j]?=some x->vs[j]?=some v->aX g x v
theorem bQ.get{cs:aG}{vs:ei}(h:bQ g cs vs){j:Nat}{x:V}(hx:cs[j]?=some x):∃v,vs[j]?=some v/\aX g x v:=by
 have bW:j<vs.length:=by rw[<- h.len];exact(dA.1 hx).1
 exact⟨vs[j],gG bW,h.rel j x _ hx (gG bW)⟩
theorem bQ.drop{cs:aG}{vs:ei}(h:bQ g cs vs)(k:Nat):bQ g (cs.drop k) (vs.drop k) :=
 ⟨by simp[h.len],λj x hx=>h.one (k+j) x (by simpa using hx),λj x v hx hv=>h.rel (k+j) x v (by simpa using hx) (by simpa using hv)⟩
theorem bQ.take{cs:aG}{vs:ei}(h:bQ g cs vs)(k:Nat):bQ g (cs.take k) (vs.take k):=by
 refine⟨by simp[h.len],λj x hx=>?_,λj x v hx hv=>?_⟩
 ·rw[Ak] at hx;split at hx
  ·exact h.one j x hx
  ·cases hx
 ·rw[Ak] at hx hv;split at hx
  next hj=>rw[if_pos hj] at hv;exact h.rel j x v hx hv
  ·cases hx
theorem bQ.agg{cs:aG}{arr:dR}(h:bQ g cs arr.toList):aX g (.agg cs) (.agg arr) :=
 .agg (by simpa using h.len) h.one λj x v hx hv=>h.rel j x v hx (by simpa using hv)
theorem vj{cs:aG}{cv:bC}(h:aX g (.agg cs) cv):∃arr,cv=.agg arr/\bQ g cs arr.toList:=by
 cases h with
 | agg h1 h2 h3=>exact⟨_,rfl,⟨by simpa using h1,h2,λj x v hx hv=>h3 j x v hx (by simpa using hv)⟩⟩
theorem bQ.uU{cs:aG}{vs:ei}(h:bQ g cs vs):bQ g (cs.map bg) vs:=by
 refine⟨by simp[h.len],λj x hx=>?_,λj x v hx hv=>?_⟩
 ·simp only[mu,mS] at hx;obtain⟨y,hy,rfl⟩:=hx;exact(U4 y).trans (h.one j y hy)
 ·simp only[mu,mS] at hx;obtain⟨y,hy,rfl⟩:=hx;exact(h.rel j y v hy hv).bg
theorem M7{cs:aG}{arr:dR}(h:bQ g cs arr.toList){t:aD}{off:Nat}{v:V}(hv:kV P t cs off=some v)(w:aQ) :
  ∃cv,(part t arr off).run P w=.ok cv w/\aX g v cv/\v.top<=aL cs/\(∀ys,v=.agg ys->∃vs,cv=.agg vs/\vs=arr.extract off (off+ys.length)):=by
 simp only[kV,Option.bind_eq_bind,eM] at hv;obtain⟨b,hb,hv⟩:=hv;unfold part;simp only[Sem.run_bind,Sm hb,Result.andThen_ok];cases b with
 | true =>
  simp only[aI,eM] at hv;obtain⟨n,hn,hv⟩:=hv;split at hv<;>simp only[bz,reduceCtorEq] at hv;rename_i hle;subst hv;simp only[aI,Sem.run_bind,jA hn,Result.andThen_ok,Sem.run_pure];have hl:(List.take n (List.drop off cs)).length=n:=by simp;omega
  refine⟨_,rfl,?_,?_,λys th=>?_⟩
  ·refine bQ.agg ?_;have:=(h.drop off).take n;simpa[List.take_drop] using this
  ·simp only[V.top];exact qO λx hx=>zn (BP (Bt hx))
  ·cases th;exact⟨_,rfl,by rw[hl]⟩
 | false =>
  simp only[gh,bD,zg] at hv;obtain⟨cv,iW,hr⟩:=h.get hv;simp only[gh,bD];have:arr[off]?=some cv:=by simpa using iW
  rw[this];refine⟨cv,rfl,hr,zn (zw hv),λys th=>?_⟩;subst th;have:=h.one off _ hv;simp[V.one,Du] at this
theorem U7{cs:aG}{vs:ei}(h:bQ g cs vs){c o:Nat}(hc:∀j v,vs[j]?=some v->w.cell? ⟨c,o+j,none⟩=some v){t:aD}{off:Nat}{v:V}(hv:kV P t cs off=some v) :
  ∃cv,(loadVar t ⟨c,o+off,none⟩).run P w=.ok cv w/\aX g v cv/\v.top<=aL cs:=by
 simp only[kV,Option.bind_eq_bind,eM] at hv;obtain⟨b,hb,hv⟩:=hv;unfold loadVar;simp only[Sem.run_bind,Sm hb,Result.andThen_ok];cases b with
 | true =>
  simp only[aI,eM] at hv;obtain⟨n,hn,hv⟩:=hv;split at hv<;>simp only[bz,reduceCtorEq] at hv;rename_i hle;subst hv;have hr:=(h.drop off).take n;have hl:((vs.drop off).take n).length=n:=by simp;have:=h.len;omega
  have cL:=run_loadCells_list (P:=P) (w:=w) ⟨c,o+off,none⟩ ((vs.drop off).take n) (λj v hj=>by
   rw[Ak] at hj;split at hj
   ·rw[Addr.add_lit];rw[G4] at hj;rw[p6];exact hc _ _ hj
   ·cases hj)
  rw[hl] at cL;simp only[aI,Sem.run_bind,jA hn,Result.andThen_ok,cL,Sem.run_pure];refine⟨_,rfl,bQ.agg (by simpa using hr),?_⟩
  simp only[V.top];exact qO λx hx=>zn (BP (Bt hx))
 | false =>
  simp only[gh,bD,zg] at hv;obtain⟨cv,iW,hr⟩:=h.get hv;refine⟨cv,?_,hr,zn (zw hv)⟩;simp[hc off cv iW]
end
section
variable{P:aY}{g:Gh}{w:aQ}
theorem zkY{op:BinOp}{k:IntKind}{x y:Int}{v:V}(t:aD)(h:j3 op k x y=some v)(w:aQ) :
  ∃cv,(binOp op t (.int k x) (.int k y)).run P w=.ok cv w/\aX g v cv/\v.top=0/\∀m l,cW g m w l v cv:=by
 cases op<;>simp only[j3,bz,reduceCtorEq] at h
 case quo =>
  split at h<;>simp only[bz,reduceCtorEq] at h;rename_i hy;subst h;refine⟨.int _ _,?_,.int _ _,rfl,λ_ _=>trivial⟩;simp[binOp,Op.intDiv,hy]
 case rem =>
  split at h<;>simp only[bz,reduceCtorEq] at h;rename_i hy;subst h;refine⟨.int _ _,?_,.int _ _,rfl,λ_ _=>trivial⟩;simp[binOp,Op.intDiv,hy]
 all_goals subst h
 all_goals first
  | (refine⟨.int _ _,?_,.int _ _,rfl,λ_ _=>trivial⟩;simp[binOp,Op.intArith,Op.intBits];done)
  | (refine⟨.bool _,?_,.bool _,rfl,λ_ _=>trivial⟩;simp[binOp,Op.intCmp];done)
theorem zgf{op:BinOp}{k k':IntKind}{x y:Int}{v:V}(h:Kt op k x y=some v)(w:aQ) :
  ∃cv,(Op.shift op k x k' y).run P w=.ok cv w/\aX g v cv/\v.top=0/\∀m l,cW g m w l v cv:=by
 simp only[Kt] at h;split at h
 ·cases h
 ·rename_i hy;cases op<;>simp only[bz,reduceCtorEq] at h
  all_goals
   subst h;refine⟨.int _ _,?_,.int _ _,rfl,λ_ _=>trivial⟩;simp[Op.shift,hy]
theorem pJ:∀(x y:bO),(∀b:Nat,b∈x->b<256)->(∀b:Nat,b∈y->b<256)->(x.map UInt8.ofNat == y.map UInt8.ofNat)=ot x y
 | [],[],_,_=>rfl
 | [],_::_,_,_=>rfl
 | _::_,[],_,_=>rfl
 | a::x,b::y,hx,hy=>by
  have ih:=pJ x y (λc hc=>hx c (eo _ hc)) (λc hc=>hy c (eo _ hc));have ha:=hx a (fy ..);have hb:=hy b (fy ..);have e:(UInt8.ofNat a == UInt8.ofNat b)=Nat.beq a b:=by
   rw[EK,beq_iff_eq,Nat.beq_eq];constructor
   ·intro h;have:=congrArg UInt8.toNat h;simpa[UInt8.toNat_ofNat',EJ ha,EJ hb] using this
   ·rintro rfl;rfl
  simp only[bk,ot];rw[<- ih,<- e];rfl
theorem CW:∀(x y:bO),(∀b:Nat,b∈x->b<256)->(∀b:Nat,b∈y->b<256)->Op.bytesLess (x.map UInt8.ofNat) (y.map UInt8.ofNat)=Kq x y
 | [],[],_,_=>rfl
 | [],_::_,_,_=>rfl
 | _::_,[],_,_=>rfl
 | a::x,b::y,hx,hy=>by
  have ih:=CW x y (λc hc=>hx c (eo _ hc)) (λc hc=>hy c (eo _ hc));have ha:=hx a (fy ..);have hb:=hy b (fy ..);have e:(UInt8.ofNat a == UInt8.ofNat b)=Nat.beq a b:=by
   rw[EK,beq_iff_eq,Nat.beq_eq];constructor
   ·intro h;have:=congrArg UInt8.toNat h;simpa[UInt8.toNat_ofNat',EJ ha,EJ hb] using this
   ·rintro rfl;rfl
  have e2:decide (UInt8.ofNat a<UInt8.ofNat b)=Nat.blt a b:=by
   rw[EK,decide_eq_true_iff,UInt8.lt_iff_toNat_lt,UInt8.toNat_ofNat',UInt8.toNat_ofNat',EJ ha,EJ hb];simp only[Nat.blt,Nat.ble_eq];exact Nat.lt_iff_add_one_le
  simp only[bk,Op.bytesLess,Kq,ih,e,e2]
theorem vk(x:bO):(bytes x).toList=x.map UInt8.ofNat:=by
 rw[ByteArray.toList_eq];simp[bytes]
theorem kJ(x:bO):(bytes x).size=x.length:=by simp[bytes,ByteArray.size]
theorem zfa(x y:bO):bytes x++bytes y=bytes (x++y):=by
 apply ByteArray.ext;simp[bytes,ByteArray.data_append]
theorem zkZ{op:BinOp}{x y:bO}{v:V}(t:aD)(hx:∀b:Nat,b∈x->b<256)(hy:∀b:Nat,b∈y->b<256)(h:Om op x y=some v)(w:aQ) :
  ∃cv,(binOp op t (.string (bytes x)) (.string (bytes y))).run P w=.ok cv w/\aX g v cv/\v.top=0/\∀m l,cW g m w l v cv:=by
 have e1:=pJ x y hx hy;have e2:=CW x y hx hy;have e0:(binOp op t (.string (bytes x)) (.string (bytes y)))=Op.stringOp op (bytes x) (bytes y):=by
  cases op<;>rfl
 rw[e0];cases op<;>simp only[Om,bz,reduceCtorEq] at h
 case add =>
  split at h<;>simp only[bz,reduceCtorEq] at h;rename_i hl;subst h;have hm:IntKind.i64.max=9223372036854775807:=by decide
  refine⟨.string (bytes (x++y)),?_,.str λb hb=>?_,rfl,λ_ _=>trivial⟩
  ·have:¬(((bytes x).size+(bytes y).size:Nat):Int) > IntKind.i64.max:=by rw[hm,kJ,kJ];omega
   simp only[Op.stringOp,if_neg this,zfa];rfl
  ·rcases tu.1 hb with hb|hb
   ·exact hx b hb
   ·exact hy b hb
 all_goals
  subst h;refine⟨.bool _,?_,.bool _,rfl,λ_ _=>trivial⟩;simp only[Op.stringOp,vk,e1,e2,Sem.run_pure]
def M8(P:aY)(d:Nat)(e:aD)(n:Nat)(xs ys:dR):bO->Sem Bool
 | []=>pure true
 | i::is=>do
  let a <- part e xs (i * n)
  let b <- part e ys (i * n)
  let r <- Op.equalIn d e a b
  if (!r)=true then pure false else M8 P d e n xs ys is
theorem zbo(d:Nat)(t e:aD)(len n:Nat)(xs ys:dR)(ht:P.underlying t=some (.array len e))(hn:z4 P e=some n)(w:aQ) :
  (Op.equalIn (d+1) t (.agg xs) (.agg ys)).run P w=(M8 P d e n xs ys (List.range' 0 len)).run P w:=by
 simp only[Op.equalIn,Sem.run_bind,run_underlying ht,jA hn,Result.andThen_ok];rw[Std.Legacy.Range.forIn_eq_forIn_range'];simp only[Std.Legacy.Range.size,Nat.sub_zero,Nat.add_sub_cancel,Nat.div_one];generalize List.range' 0 len=is
 induction is generalizing w with
 | nil=>simp[M8]
 | cons f fs ih =>
  simp only[List.forIn_cons,M8,Sem.run_bind,Sem.run_ite];generalize (part e xs (f * n)).run P w=r1;cases r1 with
  | ok a w1 =>
   simp only[Result.andThen_ok];generalize (part e ys (f * n)).run P w1=r2;cases r2 with
   | ok b w2 =>
    simp only[Result.andThen_ok];generalize (Op.equalIn d e a b).run P w2=r3;cases r3 with
    | ok r w3 =>
     cases r
     ·simp only[Result.andThen_ok,oS,aI,Sem.run_pure]
     ·simp only[Result.andThen_ok,mw,gh,bD,Sem.run_pure];exact ih w3
    | halt x w3=>simp[Result.andThen]
   | halt x w2=>simp[Result.andThen]
  | halt x w1=>simp[Result.andThen]
theorem ziS{eq:aD->V->V->Option Bool}{d:Nat}(heq:∀t x y b cx cy,eq t x y=some b->aX g x cx->aX g y cy->(Op.equalIn d t cx cy).run P w=.ok b w){xs ys:aG}{ax ay:dR}
  (hx:bQ g xs ax.toList) (hy:bQ g ys ay.toList):∀(fs:List Field)(b:Bool),Ol P eq fs xs ys=some b->(Op.eqFields d ax ay fs).run P w=.ok b w
 | [],b,h=>by simp only[Ol,bz] at h;subst h;rfl
 | f::fs,b,h=>by
  simp only[Ol] at h;split at h
  ·cases h
  ·rename_i hf;simp only[Option.bind_eq_bind,eM] at h;obtain⟨u,hu,v,hv,r,hr,h⟩:=h;obtain⟨cu,KF,U8,_⟩:=M7 hx hu w;obtain⟨cv,EO,Gi,_⟩:=M7 hy hv w;simp only[Op.eqFields,ne_eq,hf,ug,aI,Sem.run_bind,KF,EO,heq _ _ _ _ _ _ hr U8 Gi,Result.andThen_ok];cases r with
   | true=>simp only[aI] at h;simpa using ziS heq hx hy fs b h
   | false=>simp only[gh,bD,bz] at h;subst h;simp
theorem ziT{eq:aD->V->V->Option Bool}{d:Nat}(heq:∀t x y b cx cy,eq t x y=some b->aX g x cx->aX g y cy->(Op.equalIn d t cx cy).run P w=.ok b w){xs ys:aG}{ax ay:dR}
  (hx:bQ g xs ax.toList) (hy:bQ g ys ay.toList) (e n:Nat):∀(k i:Nat)(b:Bool),M0 P eq e n xs ys i k=some b->(M8 P d e n ax ay (List.range' i k)).run P w=.ok b w
 | 0,i,b,h=>by simp only[M0,bz] at h;subst h;rfl
 | k+1,i,b,h=>by
  simp only[M0,Option.bind_eq_bind,eM] at h;obtain⟨u,hu,v,hv,r,hr,h⟩:=h;obtain⟨cu,KF,U8,_⟩:=M7 hx hu w;obtain⟨cv,EO,Gi,_⟩:=M7 hy hv w;simp only[List.range'_succ,M8,Sem.run_bind,KF,EO,heq _ _ _ _ _ _ hr U8 Gi,Result.andThen_ok];cases r with
  | true=>simp only[aI] at h;simpa using ziT heq hx hy e n k (i+1) b h
  | false=>simp only[gh,bD,bz] at h;subst h;simp
theorem zoX{D:Nat}{t:aD}{ds:TypeDesc}(hd:P.underlying t=some ds){x y:V}{b:Bool}{cx cy:bC}(h:Kr ds x y=some b)(hx:aX g x cx)(hy:aX g y cy):(Op.equalIn (D+1) t cx cy).run P w=.ok b w:=by
 have hu:=run_underlying hd w;unfold Kr at h;split at h
 ·split at h<;>simp only[bz,reduceCtorEq] at h;subst h;cases hx;cases hy;exact run_equalIn_bool' w D t _ _ hd
 ·split at h<;>try (simp only[reduceCtorEq] at h;done)
  split at h<;>simp only[bz,reduceCtorEq] at h;rename_i e;subst h;subst e;cases hx;cases hy;exact run_equalIn_int w D t _ _ _ _ hd
 ·split at h<;>simp only[bz,reduceCtorEq] at h;subst h;cases hx with
  | str h1=>cases hy with
   | str h2 =>
    rw[run_equalIn_string w D t _ _ hd,vk,vk,pJ _ _ h1 h2]
 ·split at h<;>simp only[bz,reduceCtorEq] at h
  all_goals (subst h;cases hx;cases hy;simp[Op.equalIn,hu];done)
 ·split at h<;>try (simp only[reduceCtorEq] at h;done)
  ·simp only[bz] at h;subst h;cases hx;cases hy;simp[Op.equalIn,hu]
  ·simp only[bz] at h;subst h;cases hx;cases hy;simp[Op.equalIn,hu]
  ·simp only[bz] at h;subst h;cases hx;cases hy;simp[Op.equalIn,hu]
  ·split at h<;>simp only[bz,reduceCtorEq] at h;rename_i e;subst h;cases hx;cases hy;simp[Op.equalIn,hu,e]
 ·split at h<;>simp only[bz,reduceCtorEq] at h
  ·subst h;cases hx;cases hy;simp[Op.equalIn,hu]
  ·subst h;cases hx;cases hy with
   | sl f h1 h2 h3=>rw[h3 (by simp)];simp[Op.equalIn,hu]
  ·subst h;cases hy;cases hx with
   | sl f h1 h2 h3=>rw[h3 (by simp)];simp[Op.equalIn,hu]
  ·subst h;cases hx;cases hy;simp[Op.equalIn,hu]
  ·subst h;cases hx;cases hy;simp[Op.equalIn,hu]
 ·split at h<;>simp only[bz,reduceCtorEq] at h
  all_goals (subst h;cases hx;cases hy;simp[Op.equalIn,hu];done)
 ·split at h<;>simp only[bz,reduceCtorEq] at h
  all_goals (subst h;cases hx;cases hy;simp[Op.equalIn,hu];done)
 ·cases h
theorem BV:∀(d D:Nat)(t:aD)(x y:V)(b:Bool)(cx cy:bC),d<=D->AJ P d t x y=some b->aX g x cx->aX g y cy->(Op.equalIn D t cx cy).run P w=.ok b w
 | 0,D,t,x,y,b,cx,cy,_,h,_,_=>by simp[AJ] at h
 | d+1,0,t,x,y,b,cx,cy,hD,h,_,_=>by omega
 | d+1,D+1,t,x,y,b,cx,cy,hD,h,hx,hy=>by
  have ih:=λt x y b cx cy=>BV d D t x y b cx cy (by omega)
  simp only[AJ] at h;split at h
  ·cases h
  ·rename_i ds hd;split at h
   ·obtain⟨ax,rfl,h1⟩:=vj hx;obtain⟨ay,rfl,h2⟩:=vj hy;split at h
    ·rename_i fs;split at h
     ·cases h
     ·rename_i hp;have hf:P.fieldsOf t=fs:=by simp[Program.fieldsOf,hd]
      rw[run_equalIn_struct w D t ax ay (by rw[hf];exact hd) (by simpa using hp),hf]
      exact ziS ih h1 h2 _ _ h
    ·split at h
     next n hn=>rw[zbo D t _ _ n ax ay hd hn];exact ziT ih h1 h2 _ _ _ _ _ h
     ·cases h
    ·cases h
   ·exact zoX hd h hx hy
theorem zk0{op:BinOp}{t:aD}{x y:V}{cx cy:bC}{ox oy:a_}(hg:jz P op t ox oy x y=true)(hx:aX g x cx)(hy:aX g y cy)(w:aQ):(eqGuard op t ox oy cx cy).run P w=.ok () w:=by
 have key:(op=.eql\/op=.neq)->(eqGuard op t ox oy cx cy).run P w=.ok () w:=by
  intro ho;have M9:yc P t ox oy x y=true:=by rcases ho with rfl|rfl<;>exact hg
  by_cases ha:∃xs ys,cx=.agg xs/\cy=.agg ys
  ·obtain⟨xs,ys,rfl,rfl⟩:=ha;refine run_eqGuard_agg w op t ox oy xs ys ?_;cases hx<;>cases hy<;>first|(simp[yc] at M9;done)|(simpa[yc] using M9)
  ·by_cases hn:cx=.nilIface/\cy=.nilIface
   ·obtain⟨rfl,rfl⟩:=hn;have hc:isConst ox=true\/isConst oy=true:=by
     cases hx<;>cases hy<;>first|(simp[yc] at M9;done)|(simpa[yc] using M9)
    rcases ho with rfl|rfl<;>rcases hc with hc|hc<;>(cases ox<;>cases oy<;>simp[isConst] at hc<;>simp[eqGuard])
   ·rcases ho with rfl|rfl
    all_goals
     cases cx<;>cases cy<;>first
      |rfl
      |exact absurd ⟨rfl,rfl⟩ hn
      |exact absurd ⟨_,_,rfl,rfl⟩ ha
 cases op<;>first
  |exact key (.inl rfl)
  |exact key (.inr rfl)
  |simp[eqGuard]
theorem ziU{d:Nat}{t:aD}{k:IntKind}{n:Int}{y:V}{b:Bool}(h:AJ P d t (.int k n) y=some b):∃k' m,y=.int k' m:=by
 cases d with
 | zero=>simp[AJ] at h
 | succ d =>
  simp only[AJ] at h;split at h
  ·cases h
  next ds _=>cases ds<;>cases y<;>simp[Kr] at h;exact⟨_,_,rfl⟩
theorem ziV{d:Nat}{t:aD}{s:bO}{y:V}{b:Bool}(h:AJ P d t (.str s) y=some b):∃s',y=.str s':=by
 cases d with
 | zero=>simp[AJ] at h
 | succ d =>
  simp only[AJ] at h;split at h
  ·cases h
  next ds _=>cases ds<;>cases y<;>simp[Kr] at h;exact⟨_,rfl⟩
theorem zgg{d:Nat}{t:aD}{y:V}{b:Bool}(h:AJ P d t .eC y=some b):False:=by
 cases d with
 | zero=>simp[AJ] at h
 | succ d =>
  simp only[AJ] at h;split at h
  ·cases h
  next ds _=>cases ds<;>simp[Kr] at h
theorem znj{op:BinOp}{t:aD}{x y:V}{v:V}{cx cy:bC}(h:wX P op t x y=some v)(hx:aX g x cx)(hy:aX g y cy)(w:aQ) :
  ∃cv,(binOp op t cx cy).run P w=.ok cv w/\aX g v cv/\v.top=0/\∀m l,cW g m w l v cv:=by
 unfold wX at h;split at h
 next k1 a1 k2 b1=>cases hx;cases hy;exact zgf (k':=k2) h w
 next k1 a1 k2 b1=>cases hx;cases hy;exact zgf (k':=k2) h w
 ·split at h
  next e=>subst e;cases hx;cases hy;exact zkY t h w
  ·cases h
 ·cases hx with
  | str h1=>cases hy with
   | str h2=>exact zkZ t h1 h2 h w
 ·rename_i n1 n2;simp only[mS] at h;obtain⟨b,hb,rfl⟩:=h;have e:binOp .eql t cx cy=(do pure (.bool (<- Op.equal t cx cy))):=by
   cases hx<;>first
    |rfl
    |(obtain⟨k',m,rfl⟩:=ziU hb;exact absurd rfl (n1 _ _ _ _ rfl))
    |(obtain⟨s',rfl⟩:=ziV hb;exact absurd rfl (n2 _ _ rfl))
    |exact(zgg hb).elim
  rw[e];refine⟨.bool b,?_,.bool b,rfl,λ_ _=>trivial⟩;simp only[Sem.run_bind,Op.equal,BV 100 Op.maxDepth t _ _ b cx cy (by decide) hb hx hy,Result.andThen_ok,Sem.run_pure]
 ·rename_i n1 n2;simp only[mS] at h;obtain⟨b,hb,rfl⟩:=h;have e:binOp .neq t cx cy=(do pure (.bool (!(<- Op.equal t cx cy)))):=by
   cases hx<;>first
    |rfl
    |(obtain⟨k',m,rfl⟩:=ziU hb;exact absurd rfl (n1 _ _ _ _ rfl))
    |(obtain⟨s',rfl⟩:=ziV hb;exact absurd rfl (n2 _ _ rfl))
    |exact(zgg hb).elim
  rw[e];refine⟨.bool (!b),?_,.bool _,rfl,λ_ _=>trivial⟩;simp only[Sem.run_bind,Op.equal,BV 100 Op.maxDepth t _ _ b cx cy (by decide) hb hx hy,Result.andThen_ok,Sem.run_pure]
 ·cases h
end
section
variable{P:aY}{B:dS}{g:Gh}{s:St}{a:Act}{w:aQ}
def KG(P:aY)(g:Gh)(n:Nat)(w:aQ)(m:Sem bC)(v:V):Prop:=∃cv,m.run P w=.ok cv w/\aX g v cv/\v.top<=n/\∀k l,cW g k w l v cv
theorem ziW{n:Nat}{l:Loc}{v:V}{cv:bC}(h:∀sz xs e,v≠.sl sz xs (.yes e)):cW g n w l v cv:=by
 cases v with
 | sl sz xs o=>cases o with
  | yes e=>exact absurd rfl (h sz xs e)
  | _=>trivial
 | _=>trivial
def Gj(g:Gh):cj->Option bC->Prop
 | none,none=>True
 | some x,some v=>aX g x v
 | _,_=>False
theorem U9{isSlice:Bool}{len cap:Nat}{lo hi:cj}{sA Ee:Option bC}{l h:Nat}(iB:Gj g lo sA)(Al:Gj g hi Ee)(h1:ka hi len=some h)(h2:ka lo 0=some l)
  (hl:l<=h) (hh:h<=cap) (w:aQ):(Instr.sliceBounds isSlice len cap sA Ee none).run P w=.ok (l,h,cap) w:=by
 have e1:∀code,(match Ee with|some v=>Instr.sliceBound v cap code|none=>pure len:Sem Nat).run P w=.ok h w:=by
  intro code;cases Ee with
  | none=>cases hi with
   | none=>simp only[ka,bz] at h1;simp[h1]
   | some _=>exact Al.elim
  | some cv=>cases hi with
   | none=>exact Al.elim
   | some x =>
    simp only[ka] at h1;split at h1<;>first|(rename_i e;simp at e;done)|skip
    ·rename_i k m e;simp only[bz] at e;subst e;split at h1<;>simp only[bz,reduceCtorEq] at h1;rename_i hm;have hr:aX g (.int k m) cv:=Al;cases hr;have:0<=m/\m<=(cap:Int):=⟨hm,by omega⟩
     simp[Instr.sliceBound,asIntOf,this,h1]
    ·cases h1
 have e2:∀code,(match sA with|some v=>Instr.sliceBound v h code|none=>pure 0:Sem Nat).run P w=.ok l w:=by
  intro code;cases sA with
  | none=>cases lo with
   | none=>simp only[ka,bz] at h2;simp[h2]
   | some _=>exact iB.elim
  | some cv=>cases lo with
   | none=>exact iB.elim
   | some x =>
    simp only[ka] at h2;split at h2<;>first|(rename_i e;simp at e;done)|skip
    ·rename_i k m e;simp only[bz] at e;subst e;split at h2<;>simp only[bz,reduceCtorEq] at h2;rename_i hm;have hr:aX g (.int k m) cv:=iB;cases hr;have:0<=m/\m<=(h:Int):=⟨hm,by omega⟩
     simp[Instr.sliceBound,asIntOf,this,h2]
    ·cases h2
 unfold Instr.sliceBounds;cases Ee with
 | none =>
  have Hf:=e1 .sliceAcap;simp only[Sem.run_pure,Result.ok.injEq,and_true] at Hf;cases sA with
  | none=>have EP:=e2 .sliceB;simp only[Sem.run_pure,Result.ok.injEq,and_true] at EP;simp[Hf,EP]
  | some cv=>have EP:=e2 .sliceB;simp only at EP;simp[Hf,EP]
 | some cu =>
  have Hf:=e1 (if isSlice then .sliceAcap else .sliceAlen)
  simp only at Hf;cases sA with
  | none=>have EP:=e2 .sliceB;simp only[Sem.run_pure,Result.ok.injEq,and_true] at EP;simp[Hf,EP]
  | some cv=>have EP:=e2 .sliceB;simp only at EP;simp[Hf,EP]
theorem xi{isSlice:Bool}{len cap:Nat}{lo hi:cj}{sA Ee:Option bC}{l h:Nat}(iB:Gj g lo sA)(Al:Gj g hi Ee)(h1:ka hi len=some h)(h2:ka lo 0=some l)
  (hl:l<=h) (hh:h<=len) (hc:len<=cap) (w:aQ):(Instr.sliceBounds isSlice len cap sA Ee none).run P w=.ok (l,h,cap) w:=U9 iB Al h1 h2 hl (cZ hh hc) w
theorem zoY{lo:cj}{sA:Option bC}{l h:Nat}(iB:Gj g lo sA)(h2:ka lo 0=some l)(hl:l<=h)(w:aQ)(code:BoundsCode):(match sA with|some v=>Instr.sliceBound v h code|none=>pure 0:Sem Nat).run P w=.ok l w:=by
 cases sA with
 | none=>cases lo with
  | none=>simp only[ka,bz] at h2;simp[h2]
  | some _=>exact iB.elim
 | some cv=>cases lo with
  | none=>exact iB.elim
  | some x =>
   simp only[ka] at h2;split at h2<;>first|(rename_i e;simp at e;done)|skip
   ·rename_i k m e;simp only[bz] at e;subst e;split at h2<;>simp only[bz,reduceCtorEq] at h2;rename_i hm;have hr:aX g (.int k m) cv:=iB;cases hr;have:0<=m/\m<=(h:Int):=⟨hm,by omega⟩
    simp[Instr.sliceBound,asIntOf,this,h2]
   ·cases h2
theorem zhM{isSlice:Bool}{len cap:Nat}{lo:cj}{sA:Option bC}{k k':IntKind}{l:Nat}{h m:Int}(iB:Gj g lo sA)(h2:ka lo 0=some l)(h0:0<=h)(hl:l<=h.toNat)(hm:h<=m)(hc:m<=cap)(w:aQ) :
  (Instr.sliceBounds isSlice len cap sA (some (.int k h)) (some (.int k' m))).run P w=.ok (l,h.toNat,m.toNat) w:=by
 have a1:0<=m/\m<=(cap:Int):=⟨by omega,hc⟩
 have a2:0<=h/\h<=(m.toNat:Int):=⟨h0,by omega⟩
 have e2:=zoY (P:=P) iB h2 hl w .slice3C;have r:∀(kk:IntKind)(i:Int)(y:Nat)(code:BoundsCode),0<=i->i<=(y:Int)->(Instr.sliceBound (.int kk i) y code).run P w=.ok i.toNat w:=λkk i y code h1 h2=>by
  have:0<=i/\i<=(y:Int):=⟨h1,h2⟩;simp[Instr.sliceBound,asIntOf,this]
 unfold Instr.sliceBounds;cases sA with
 | none=>simp only[Sem.run_pure,Result.ok.injEq,and_true] at e2;simp[r _ _ _ _ a1.1 a1.2,r _ _ _ _ a2.1 a2.2,e2]
 | some cv=>simp only at e2;simp[r _ _ _ _ a1.1 a1.2,r _ _ _ _ a2.1 a2.2,e2]
theorem zeh(x:bO)(l h:Nat):(bytes x).extract l h=bytes ((x.take h).drop l):=by
 apply ByteArray.ext;simp[bytes,ByteArray.data_extract,List.extract,<- List.map_take,<- List.map_drop,List.drop_take]
theorem zoZ{op:UnOp}{x v:V}{cx:bC}(h:i_ op x=some v)(hx:aX g x cx)(n:Nat)(w:aQ):KG P g n w (Op.unary op cx) v:=by
 unfold i_ at h;split at h
 ·simp only[bz] at h;subst h;cases hx;exact⟨.int _ _,by simp[Op.unary,Op.intArith],.int _ _,dP _,λ_ _=>trivial⟩
 ·simp only[j3,bz] at h;subst h;cases hx;exact⟨.int _ _,by simp[Op.unary,Op.intBits],.int _ _,dP _,λ_ _=>trivial⟩
 ·simp only[bz] at h;subst h;cases hx;exact⟨.bool _,by simp[Op.unary],.bool _,dP _,λ_ _=>trivial⟩
 ·cases h
theorem vK{t:aD}{f:Nat}{fs:Array Field}{fd:Field}{sz:Nat}(ht:P.underlying t=some (.struct fs))(hf:fs[f]?=some fd)(hs:z4 P fd.type=some sz)(h0:Nat.beq sz 0=false)(c o:Nat)(w:aQ) :
  (Instr.fieldAt t (.pointer (some ⟨c,o,none⟩)) f).run P w=.ok (.pointer (some ⟨c,o+fd.offset,none⟩)) w:=by
 have:sz≠0:=by intro e;subst e;simp at h0
 unfold Instr.fieldAt;simp[run_underlying ht,hf,Instr.sureAddr,fieldPlace,jA hs,this,Addr.add_lit]
theorem aX.CX{cs:aG}{c o:Nat}(h:aX g (.vp cs) (.pointer (some ⟨c,o,none⟩)))(k:Nat):aX g (.vp (cs.drop k)) (.pointer (some ⟨c,o+k,none⟩)):=by
 cases h with
 | vp f h1 h2 h3 =>
  refine .vp (λj=>f (k+j)) (λj x hx=>h1 (k+j) x (by simpa using hx)) (λj x hx=>?_) (λj x hx=>h3 (k+j) x (by simpa using hx))
  rw[p6];exact h2 (k+j) x (by simpa using hx)
theorem zev(cs:aG)(k:Nat):aL (cs.drop k)<=aL cs:=qO λ_ hx=>zn (BP hx)
theorem Sn{sz:Nat}:∀{xs:aG}{i:Nat}{x:V},(∀y:V,y∈xs->y.cells.length=sz)->xs[i]?=some x->∀j y,x.cells[j]?=some y->(zK xs)[i * sz+j]?=some y
 | [],i,x,_,h,_,_,_=>by simp at h
 | z::xs,0,x,hs,h,j,y,hy=>by
  simp at h;subst h;simp only[zK,Eb,Nat.zero_mul,oh];rw[gF (dA.1 hy).1];exact hy
 | z::xs,i+1,x,hs,h,j,y,hy=>by
  have hz:=hs z (fy ..);simp only[zK,Eb];rw[fM (by rw[hz,tv];omega),hz]
  have:=Sn (xs:=xs) (i:=i) (λy hy=>hs y (eo _ hy)) (by simpa using h) j y hy
  have e:(i+1) * sz+j - sz=i * sz+j:=by rw[tv];omega
  rw[e];exact this
theorem aX.elem{sz:Nat}{xs:aG}{ow:uj}{c o len cap:Nat}(h:aX g (.sl sz xs ow) (.slice (some ⟨c,o,none⟩) len cap)){i:Nat}{x:V}(hx:xs[i]?=some x) :
  aX g (.vp x.cells) (.pointer (some ⟨c,o+i * sz,none⟩)):=by
 cases h with
 | sl f h1 h2 h3 h4 h5 h6 =>
  have cK:xs≠[]:=by rintro rfl;simp at hx
  have he:=h3 cK;cases he;refine .vp (λj=>f (i * sz+j)) (λj y hy=>h4 _ _ (Sn h1 hx j y hy)) (λj y hy=>?_) (λj y hy=>h6 _ _ (Sn h1 hx j y hy));rw[p6];exact h5 _ _ (Sn h1 hx j y hy)
theorem aX.CY{sz:Nat}{xs:aG}{ow:uj}{cv:bC}(h:aX g (.sl sz xs ow) cv):∃ad cap,cv=.slice ad xs.length cap/\xs.length<=cap/\(xs≠[]->∃c o,ad=some ⟨c,o,none⟩):=by
 cases h with
 | sl f h1 h2 h3=>exact⟨_,_,rfl,h2,λcK=>⟨_,_,h3 cK⟩⟩
theorem y5{t e:aD}{c o len cap sz:Nat}{k:IntKind}{i:Int}(ht:P.underlying t=some (.slice e))(hs:z4 P e=some sz)(h0:0<=i)(hi:i<len)(w:aQ) :
  (Instr.indexAt t (.slice (some ⟨c,o,none⟩) len cap) (.int k i)).run P w=.ok (.pointer (some ⟨c,o+i.toNat * sz,none⟩)) w:=by
 unfold Instr.indexAt;simp[asIntOf,run_underlying ht,h0,hi,jA hs,Addr.add_lit]
theorem yi{t e:aD}{c o n sz:Nat}{k:IntKind}{i:Int}(ht:P.underlying t=some (.array n e))(hs:z4 P e=some sz)(h0:0<=i)(hi:i<n)(w:aQ) :
  (Instr.indexAt t (.pointer (some ⟨c,o,none⟩)) (.int k i)).run P w=.ok (.pointer (some ⟨c,o+i.toNat * sz,none⟩)) w:=by
 unfold Instr.indexAt;simp[asIntOf,run_underlying ht,h0,hi,jA hs,Addr.add_lit,Instr.sureAddr]
theorem qM{sz:Nat}:∀{xs:aG},(∀y:V,y∈xs->y.cells.length=sz)->(zK xs).length=xs.length * sz
 | [],_=>by simp[zK]
 | z::xs,hs=>by
  have:=qM (xs:=xs) λy hy=>hs y (eo _ hy);simp only[zK,Eb,aZ,bh,hs z (fy ..)] at *;rw[this,tv];omega
theorem xV(xs ys:aG):zK (xs++ys)=zK xs++zK ys:=by simp[zK]
theorem yz{sz:Nat}{xs:aG}(hs:∀y:V,y∈xs->y.cells.length=sz){b c j:Nat}{y:V}(h:(zK ((xs.take b).drop c))[j]?=some y):(zK xs)[c * sz+j]?=some y:=by
 have h1:(zK (xs.take b))[c * sz+j]?=some y:=by
  have hc:c<=(xs.take b).length:=by
   rcases eY (xs.take b).length c with bW|uR
   ·rw[List.drop_eq_nil_of_le (by omega)] at h;simp[zK] at h
   ·exact uR
  have e:zK (xs.take b)=zK ((xs.take b).take c)++zK ((xs.take b).drop c):=by rw[<- xV,Ea]
  have hl:(zK ((xs.take b).take c)).length=c * sz:=by
   rw[qM λy hy=>hs y (Bt (Bt hy)),uQ,Nat.min_eq_left hc]
  rw[e,fM (by omega),hl,MZ]
  exact h
 have e:zK xs=zK (xs.take b)++zK (xs.drop b):=by rw[<- xV,Ea]
 rw[e,gF (dA.1 h1).1];exact h1
theorem zew{t:aD}{x v:V}{lo hi:cj}{cx:bC}{sA Ee:Option bC}{n:Nat}(h:y4 P t x lo hi=some v)(hx:aX g x cx)(iB:Gj g lo sA)(Al:Gj g hi Ee)(ht:x.top<=n)(w:aQ) :
  KG P g n w (Instr.sliceAt t cx sA Ee none) v:=by
 simp only[y4,Option.bind_eq_bind,eM] at h;obtain⟨ds,hd,h⟩:=h;have hu:=run_underlying hd w;split at h
 ·rename_i l;simp only[eM] at h;obtain⟨b,hb,c,hc,h⟩:=h;split at h<;>simp only[bz,reduceCtorEq] at h;rename_i hle;subst h;cases hx with
  | str h1 =>
   refine⟨.string (bytes ((l.take b).drop c)),?_,.str λy hy=>h1 y (Bt (BP hy)),dP _,λ_ _=>trivial⟩;have dw:=xi (P:=P) (isSlice:=false) iB Al hb hc hle.1 hle.2 (dB _) w;rw[<- kJ l] at dw;simp[Instr.sliceAt,hu,Instr.slice,dw,zeh]
 ·rename_i e sz xs ow;simp only[eM] at h;obtain⟨b,hb,c,hc,m,hm,h⟩:=h;split at h<;>simp only[bz,reduceCtorEq] at h;rename_i hle;obtain⟨Hg,KH,rfl⟩:=hle;subst h;cases hx with
  | sl f h1 h2 h3 h4 h5 h6 =>
   rename_i ad cap cb o;have dw:=xi (P:=P) (isSlice:=true) iB Al hb hc Hg KH h2 w;have hlen:((xs.take b).drop c).length=b - c:=by simp;omega
   have cK:(xs.take b).drop c≠[]->xs≠[]:=by rintro h rfl;simp at h
   refine⟨.slice (if cap=c then ad else ad.map (·.add (c * m))) (b - c) (cap - c),?_,?_,?_,λ_ _=>trivial⟩
   ·simp[Instr.sliceAt,hu,Instr.slice,dw,jA hm]
   ·rw[<- hlen];refine .sl (c:=cb) (o:=o+c * m) (λj=>f (c * m+j)) (λy hy=>h1 y (Bt (BP hy))) (by rw[hlen];omega) (λhn=>?_) (λj x hx=>h4 _ x (yz h1 hx)) (λj x hx=>?_) (λj x hx=>h6 _ x (yz h1 hx))
    ·have:0<b - c:=by rw[<- hlen];exact Ki.2 hn
     rw[if_neg (by omega),h3 (cK hn)]
     simp[Addr.add_lit]
    ·rw[p6];exact h5 _ x (yz h1 hx)
   ·exact cZ (qO λy hy=>zn (Bt (BP hy))) ht
 next e=>simp only[eM] at h;obtain⟨b,hb,c,hc,m,hm,h⟩:=h;split at h<;>simp only[bz,reduceCtorEq] at h;rename_i hle;obtain⟨rfl,rfl⟩:=hle;subst h;cases hx;have dw:=xi (P:=P) (isSlice:=true) iB Al hb hc (dB _) (dB _) (dB _) w;exact⟨.slice none 0 0,by simp[Instr.sliceAt,hu,Instr.slice,dw,jA hm],.aH,dP _,λ_ _=>trivial⟩
 ·rename_i e bb off len cap;simp only[eM] at h;obtain⟨b,hb,c,hc,m,hm,h⟩:=h;cases hx with
  | sr ov =>
   split at h
   ·rename_i hle;simp only[bz] at h;subst h;have dw:=U9 (P:=P) (isSlice:=true) iB Al hb hc hle.1 hle.2.1 w;refine⟨.slice (some ⟨g.bT bb,off+c * m,none⟩) (b - c) (cap - c),?_,.sr (by omega),ht,λ_ _=>trivial⟩
    have:¬cap=c:=by omega
    simp[Instr.sliceAt,hu,Instr.slice,dw,jA hm,this,Addr.add_lit]
   ·split at h<;>simp only[bz,reduceCtorEq] at h;rename_i hle;obtain⟨rfl,hle⟩:=hle;subst h;have dw:=U9 (P:=P) (isSlice:=true) iB Al hb hc (dB _) hle w;refine⟨_,by simp only[Instr.sliceAt,hu,Instr.slice,dw,jA hm,Sem.run_bind,Result.andThen_ok,Sem.run_pure];rfl,?_,dP _,λ_ _=>trivial⟩
    rw[Dt];exact .sl (c:=0) (o:=0) (λ_=>.nilFunc) (λy hy=>by simp at hy) (dP _) (λhn=>absurd rfl hn) (λj x hx=>by simp[zK] at hx) (λj x hx=>by simp[zK] at hx) (λj x hx=>by simp[zK] at hx)
 ·cases h
theorem zj1{t:aD}{sz:Nat}{xs:aG}{ow:uj}{v:V}{lo:cj}{cx:bC}{sA:Option bC}{kh km:IntKind}{hh m:Int}{n:Nat}(h:y4 P t (.sl sz xs ow) lo (some (.int kh hh))=some v)(hx:aX g (.sl sz xs ow) cx)(iB:Gj g lo sA)(hm:hh<=m)(gI:m<=xs.length)
  (ht:(V.sl sz xs ow).top<=n) (w:aQ):KG P g n w (Instr.sliceAt t cx sA (some (.int kh hh)) (some (.int km m))) v:=by
 simp only[y4,Option.bind_eq_bind,eM] at h;obtain⟨ds,hd,h⟩:=h;have hu:=run_underlying hd w;cases ds<;>simp only[reduceCtorEq] at h;simp only[eM] at h;obtain⟨b,hb,c,hc,m',Ov,h⟩:=h;split at h<;>simp only[bz,reduceCtorEq] at h;rename_i hle;obtain⟨Hg,KH,rfl⟩:=hle;subst h;simp only[ka] at hb;split at hb<;>simp only[bz,reduceCtorEq] at hb;rename_i h0;subst hb;cases hx with
 | sl f h1 h2 h3 h4 h5 h6 =>
  rename_i ad cap cb o;have dw:=zhM (P:=P) (isSlice:=true) (len:=xs.length) (cap:=cap) (k:=kh) (k':=km) iB hc h0 Hg hm (by omega) w
  have hlen:((xs.take hh.toNat).drop c).length=hh.toNat - c:=by simp;omega
  have cK:(xs.take hh.toNat).drop c≠[]->xs≠[]:=by rintro h rfl;simp at h
  refine⟨.slice (if m.toNat=c then ad else ad.map (·.add (c * m'))) (hh.toNat - c) (m.toNat - c),?_,?_,?_,λ_ _=>trivial⟩
  ·simp[Instr.sliceAt,hu,Instr.slice,dw,jA Ov]
  ·rw[<- hlen];refine .sl (c:=cb) (o:=o+c * m') (λj=>f (c * m'+j)) (λy hy=>h1 y (Bt (BP hy))) (by rw[hlen];omega) (λhn=>?_) (λj x hx=>h4 _ x (yz h1 hx)) (λj x hx=>?_) (λj x hx=>h6 _ x (yz h1 hx))
   ·have:0<hh.toNat - c:=by rw[<- hlen];exact Ki.2 hn
    rw[if_neg (by omega),h3 (cK hn)]
    simp[Addr.add_lit]
   ·rw[p6];exact h5 _ x (yz h1 hx)
  ·exact cZ (qO λy hy=>zn (Bt (BP hy))) ht
end
section
variable{P:aY}{B:dS}{g:Gh}{s:St}{a:Act}{w:aQ}
def iu(_P:aY)(gl:Nat->Nat->cj)(g:Gh):Prop:=(∀k off v,gl k off=some v->∃cv,g.M k off=some cv/\aX g v cv/\v.top=0) /\
 ∀k U j,gl k 0=some (.dX U (.obj j))->g.obj.lo (g.obj j).block/\∀k' U' j',gl k' 0=some (.dX U' (.obj j'))->g.obj j=g.obj j'->j=j'
theorem iu.le{gl:Nat->Nat->cj}{n:Nat}{g g':Gh}(hg:Gh.Le n g g')(h:iu P gl g):iu P gl g':=by
 refine⟨λk off v hv=>?_,λk U j hv=>?_⟩
 ·obtain⟨cv,h1,h2,h3⟩:=h.1 k off v hv;exact⟨cv,hg.M _ _ _ h1,h2.le hg (by omega),h3⟩
 ·rw[hg.obj];exact h.2 k U j hv
theorem vV(v:V):∀sz xs e,bg v≠.sl sz xs (.yes e):=by
 intro sz xs e;cases v<;>simp[bg]
theorem xj(h:Rel B g s a w){b:Nat}{cs:aG}{t:aD}(hb:s.H.get b=some (.cells cs t)) :
  ∃arr,w.heap[g.bT b]?=some (.cells arr t (0,0))/\bQ g cs arr.toList/\aL cs<=s.H.az.length/\(∀(j:Nat)(x:V)(v:bC),cs[j]?=some x->arr[j]?=some v->cW g s.H.az.length w (.cell b j) x v/\Oq g b j x v):=by
 simp only[Hp.get,zg] at hb;obtain⟨arr,h1,h2,h3⟩:=h.di.ok b _ hb;have ht:=h.di.aL b _ hb;refine⟨arr,h1,⟨by simpa using h2,λj x hx=>?_,λj x v hx hv=>(h3 j x v hx (by simpa using hv)).2.1⟩,ht,λj x v hx hv=>(h3 j x v hx hv).2.2⟩
 have hj:j<arr.size:=by rw[<- h2];exact(dA.1 hx).1
 exact(h3 j x arr[j] hx (D_ hj)).1
theorem zk1{w:aQ}{e:aD}{sz c len cap:Nat}{vs:ei}(h:w.ownsRow 0 e sz (.slice (some ⟨c,0,none⟩) len cap) len vs){j:Nat}{v:bC}(hj:vs[j]?=some v):w.cell? ⟨c,j,none⟩=some v:=by
 obtain⟨_,h|⟨c',oU,cur,hv,_,hb,_,_,_,hx⟩⟩:=h
 ·cases h.1
 ·cases hv;refine(cell_of_row w c j cur e (0,0) hb).trans ?_;rw[<- hx,Ak] at hj;split at hj
  ·simpa using hj
  ·cases hj
theorem So(h:Rel B g s a w){b eK sz:Nat}{cs:aG}{e:aD}(hb:s.H.get b=some (.ul eK sz cs e)) :
  ∃c len cap vs,G9 g s.H.az.length w b eK sz cs e c len cap vs/\bQ g cs vs/\aL cs<=s.H.az.length:=by
 simp only[Hp.get,zg] at hb;obtain⟨c,len,cap,vs,hu⟩:=h.di.ok b _ hb;have ht:=h.di.aL b _ hb;refine⟨c,len,cap,vs,hu,⟨hu.len,λj x hx=>?_,λj x v hx hv=>(hu.cells j x v hx hv).2⟩,ht⟩;have hj:j<vs.length:=by rw[<- hu.len];exact(dA.1 hx).1
 exact(hu.cells j x vs[j] hx (gG hj)).1
theorem zgh(h:Rel B g s a w){gl:Nat->Nat->cj}(rG:iu P gl g){t:aD}{p v:V}{cp:bC}(hp:aX g p cp)(hpt:p.top<=s.H.az.length)(hv:zk P s.H gl t p=some v) :
  ∃cv,(Instr.loadAt t cp).run P w=.ok cv w/\aX g v cv/\v.top<=s.H.az.length:=by
 simp only[zk] at hv;split at hv
 ·rename_i b off;simp only[Option.bind_eq_bind,eM] at hv;obtain⟨x,hx,hv⟩:=hv;split at hv<;>try (cases hv;done)
  rename_i cs ty;obtain⟨arr,h1,h2,h3,_⟩:=xj h hx;cases hp;obtain⟨cv,c1,c2,c3⟩:=U7 (P:=P) (w:=w) h2 (c:=g.bT b) (o:=0) (λj v hj=>by rw[oh,cell_of_row w _ j arr ty (0,0) h1];simpa using hj) hv
  rw[oh] at c1;exact⟨cv,by simpa[Instr.loadAt,Instr.sureAddr] using c1,c2,cZ c3 h3⟩
 ·rename_i cs;cases hp with
  | vp f h1 h2 h3 =>
   rename_i c o
   have ec:bQ g cs ((List.range cs.length).map f):=⟨by simp,h1,λj x v hx hv=>by
    have hj:=(dA.1 hx).1;simp[hj] at hv;subst hv
    exact h3 j x hx⟩
   obtain⟨cv,c1,c2,c3⟩:=U7 (P:=P) (w:=w) ec (c:=c) (o:=o) (λj v hj=>by
    have sC:j<cs.length:=by have:=(dA.1 hj).1;simpa using this
    have hx:cs[j]?=some cs[j]:=gG sC;have e:f j=v:=by simpa[sC] using hj
    rw[<- e]
    exact h.di.mem _ _ _ (h2 j _ hx)) hv
   rw[om] at c1;exact⟨cv,by simpa[Instr.loadAt,Instr.sureAddr] using c1,c2,cZ c3 (by simpa[V.top] using hpt)⟩
 ·rename_i b u k;simp only[Option.bind_eq_bind,eM] at hv;obtain⟨x,hx,hv⟩:=hv;split at hv<;>try (cases hv;done)
  rename_i eK sz cs e;split at hv
  ·rename_i U_;have:=fo U_;subst this;obtain⟨c,len,cap,vs,hu,h2,h3⟩:=So h hx;cases hp with
   | gk k hh =>
    rw[hu.fm] at hh;cases hh;obtain⟨cv,c1,c2,c3⟩:=U7 (P:=P) (w:=w) h2 (c:=c) (o:=0) (λj v hj=>by rw[oh];exact zk1 hu.row hj) hv
    exact⟨cv,by simpa[Instr.loadAt,Instr.sureAddr] using c1,c2,cZ c3 h3⟩
  ·cases hv
 ·rename_i k off;simp only[Option.bind_eq_bind,eM] at hv;obtain⟨b,hb,hv⟩:=hv;split at hv
  ·cases hv
  ·rename_i dw;obtain⟨cv,c1,c2,c3⟩:=rG.1 k off v hv;cases hp;refine⟨cv,?_,c2,by omega⟩
   have hbf:b=false:=by simpa using dw
   subst hbf;simp[Instr.loadAt,Instr.sureAddr,loadVar,Sm hb,h.di.mem _ _ _ c1]
 ·cases hv
theorem zj2(l:bO)(i:Nat):(bytes l)[i]?=(l[i]?).map UInt8.ofNat:=by
 by_cases hi:i<l.length
 ·have h1:i<(bytes l).size:=by rw[kJ];exact hi
  rw[getElem?_pos (bytes l) i h1,gG hi];simp only[aW,bz];show(bytes l).data[i]=_;simp[bytes]
 ·rw[getElem?_neg (bytes l) i (by rw[kJ];exact hi),uf (by omega)]
  rfl
theorem zfb{t:aD}{l:bO}{k:IntKind}{i:Int}{b:Nat}(ht:P.underlying t=some .string)(hl:∀c:Nat,c∈l->c<256)(h0:¬i<0)(hb:l[i.toNat]?=some b)(w:aQ) :
  (Instr.index t (.string (bytes l)) (.int k i)).run P w=.ok (.int .u8 b) w:=by
 have dw:b<256:=hl b (zw hb);have hi:0<=i:=by omega
 unfold Instr.index;simp[asIntOf,run_underlying ht,hi,zj2,hb,UInt8.toNat_ofNat',EJ dw]
theorem zei{t e:aD}{cs:aG}{arr:dR}{len n:Nat}{k:IntKind}{i:Int}{v:V}(ht:P.underlying t=some (.array len e))(hn:z4 P e=some n)(hr:bQ g cs arr.toList)(h0:0<=i)(hi:i<len)
  (hv:kV P e cs (i.toNat * n)=some v) (w:aQ):∃cv,(Instr.index t (.agg arr) (.int k i)).run P w=.ok cv w/\aX g v cv/\v.top<=aL cs:=by
 obtain⟨cv,c1,c2,c3,_⟩:=M7 (P:=P) hr hv w;refine⟨cv,?_,c2,c3⟩;unfold Instr.index;simp[asIntOf,run_underlying ht,h0,hi,jA hn,c1]
theorem nK:∀{xs:aG}{l:bO},nG xs=some l->∃ns:List Int,xs=ns.map (V.int .u8)/\l=ns.map λn=>n.toNat % 256
 | [],l,h=>by simp only[nG,bz] at h;subst h;exact⟨[],rfl,rfl⟩
 | x::xs,l,h=>by
  unfold nG at h;split at h
  next e=>cases e
  next n r e=>cases e;simp only[mS] at h;obtain⟨l',hl,rfl⟩:=h;obtain⟨ns,rfl,rfl⟩:=nK hl;exact⟨n::ns,rfl,rfl⟩
  ·cases h
theorem rH:∀(ns:List Int)(l:bO),ns.foldl (λr n=>r.push (UInt8.ofNat n.toNat)) (bytes l)=bytes (l++ns.map λn=>n.toNat % 256)
 | [],l=>by simp
 | n::ns,l=>by
  have e:(bytes l).push (UInt8.ofNat n.toNat)=bytes (l++[n.toNat % 256]):=by
   apply ByteArray.ext;have:UInt8.ofNat (n.toNat % 256)=UInt8.ofNat n.toNat:=by
    apply UInt8.toNat_inj.1;simp[UInt8.toNat_ofNat']
   simp[bytes,ByteArray.push,this]
  simp only[List.foldl_cons,e,rH ns,bk,bp,List.singleton_append]
theorem zde{xs:aG}{ow:uj}{cx:bC}{l:bO}(h:nG xs=some l)(hx:aX g (.sl 1 xs ow) cx)(dI:∀c o u,g.M c o=some u->w.cell? ⟨c,o,none⟩=some u) :
  (Conv.bytesToString cx).run P w=.ok (.string (bytes l)) w/\∀b:Nat,b∈l->b<256:=by
 obtain⟨ns,rfl,rfl⟩:=nK h;refine⟨?_,λb hb=>?_⟩
 ·cases hx with
  | sl f h1 h2 h3 h4 h5 h6 =>
   rename_i ad cap c o;cases ad with
   | none =>
    have:ns=[]:=by
     cases ns with
     | nil=>rfl
     | cons n ns=>have:=h3 (by simp);cases this
    subst this;rfl
   | some ad =>
    have nZ:zK (ns.map (V.int .u8))=ns.map (V.int .u8):=by
     clear h h1 h2 h3 h4 h5 h6
     induction ns with
     | nil=>rfl
     | cons n ns ih=>simp only[zK,bk,Eb,V.cells] at *;rw[ih];rfl
    have hl:(loadCells ad (ns.map (V.int .u8)).length).run P w=.ok (ns.map (Value.int .u8)).toArray w:=by
     have:=run_loadCells_list (P:=P) w ad (ns.map (Value.int .u8)) (λj v hj=>by
      simp only[mu,mS] at hj;obtain⟨n,hn,rfl⟩:=hj;have pK:(zK (ns.map (V.int .u8)))[j]?=some (.int .u8 n):=by rw[nZ];simp[hn]
      have cK:ns.map (V.int .u8)≠[]:=by rintro e;simp at e;subst e;simp at hn
      have e:=h3 cK;cases e;rw[Addr.add_lit];have h7:=h6 j _ pK;have h8:=dI _ _ _ (h5 j _ pK);generalize f j=u at h7 h8;cases h7
      exact h8)
     simpa using this
    rw[run_bytesToString w ad _ cap ns hl];have:=rH ns [];have e0:bytes []=ByteArray.empty:=rfl;rw[e0] at this;rw[this];rfl
 ·obtain⟨n,_,rfl⟩:=mU.1 hb;omega
theorem zk2{src dst:aD}{x v:V}{cx:bC}{n:Nat}(h:vz P src dst x=some v)(hx:aX g x cx)(rI:∀s,x≠.str s\/P.underlying dst=some .string)(dI:∀c o u,g.M c o=some u->w.cell? ⟨c,o,none⟩=some u):KG P g n w (convert src dst cx) v:=by
 simp only[vz,Option.bind_eq_bind,eM] at h;obtain⟨ds,hs,dd,hd,h⟩:=h;have BX:=run_underlying hs w;have Va:=run_underlying hd w;split at h
 ·simp only[bz] at h;subst h;cases hx;exact⟨.int _ _,by simp[convert,BX,Va,Conv.intToInt],.int _ _,dP _,λ_ _=>trivial⟩
 ·rename_i k m;simp only[bz] at h;subst h;cases hx;have e:Utf8.encode m=bytes ((Utf8.encode m).data.toList.map UInt8.toNat):=by
   apply ByteArray.ext;simp[bytes,Function.comp_def]
  refine⟨.string (bytes ((Utf8.encode m).data.toList.map UInt8.toNat)),by rw[<- e];simp[convert,BX,Va,Conv.intToString],.str λb hb=>?_,dP _,λ_ _=>trivial⟩
  obtain⟨c,_,rfl⟩:=mU.1 hb;exact c.toNat_lt
 ·simp only[bz] at h;subst h;cases hx with
  | str h1=>exact⟨_,by simp[convert,BX,Va],.str h1,dP _,λ_ _=>trivial⟩
 ·rename_i e;simp only[eM] at h;obtain⟨d8,h8,h⟩:=h;split at h<;>simp only[bz,reduceCtorEq] at h;subst h;cases hx;refine⟨.string (bytes []),?_,.str (by simp),dP _,λ_ _=>trivial⟩
  rw[run_convert_bytes_string w src dst e _ _ _ hs h8 hd];rfl
 ·rename_i e xs ow;simp only[eM] at h;obtain⟨d8,h8,h⟩:=h;split at h<;>try (cases h;done)
  simp only[mS] at h;obtain⟨l,hl,rfl⟩:=h;obtain⟨ad,cap,rfl,_,_⟩:=hx.CY;obtain⟨c1,c2⟩:=zde (P:=P) hl hx dI;refine⟨.string (bytes l),?_,.str c2,dP _,λ_ _=>trivial⟩;rw[run_convert_bytes_string w src dst e _ _ _ hs h8 hd];exact c1
 ·rename_i l _ _;rcases rI _ with hn|hn
  ·exact absurd rfl hn
  ·rw[hd] at hn;cases hn
 ·cases h
theorem yA{t:aD}{v:V}(h:qL P t=some v)(w:aQ):∃cv,(zeroValue t).run P w=.ok cv w/\aX g v cv/\v.top=0/\(∀k l,cW g k w l v cv)/\(P.info? t).bind (·.zero)=some cv:=by
 simp only[qL,eM] at h;obtain⟨i,hi,z,hz,hv⟩:=h;obtain⟨h1,h2⟩:=U6 g z v hv;refine⟨z,?_,h1,h2,λk l=>zeu hv,by simp[hi,hz]⟩
 simp[zeroValue,typeInfo,hi,hz]
end
section
variable{P:aY}{B:dS}{g:Gh}{s:St}{a:Act}{w:aQ}
def KI(P:aY)(B:dS)(s:St)(a:Act)(w:aQ)(_g:Gh)(o:Oper)(v:V):Prop :=
 ∃g' cv w',(execOp a.eval o).run P w=.ok (.value cv) w'/\DC B g' s a w' o.dst v cv
theorem vW(h:Rel B g s a w){o:Oper}{m:Sem bC}{v:V}(hm:KG P g s.H.az.length w m v)(he:execOp a.eval o=(do pure (.value (<- m)))):KI P B s a w g o v:=by
 obtain⟨cv,h1,h2,h3,h4⟩:=hm;exact⟨g,cv,w,by rw[he];simp[h1],⟨h,h2,λ_ _=>h4 _ _,h3⟩⟩
theorem Sp(h:Rel B g s a w):∀{xs:List a_}{vs:aG},av s.env xs=some vs ->
  vs.length=xs.length/\(∀(j:Nat)(x:V)(v:bC),vs[j]?=some x->(xs.map a.eval)[j]?=some v->aX g x v)/\aL vs<=s.H.az.length/\∀x∈vs,∀sz ys e,x≠.sl sz ys (.yes e)
 | [],vs,hp=>by simp only[av,bz] at hp;subst hp;exact⟨rfl,λj x v hx=>by simp at hx,dP _,λx hx=>by simp at hx⟩
 | x::xs,vs,hp=>by
  simp only[av,ql] at hp;split at hp
  ·cases hp
  ·rename_i v hv;split at hp<;>simp only[bz,reduceCtorEq] at hp;rename_i ys th;subst hp;obtain⟨h1,h2,h3⟩:=zI h hv;obtain⟨i1,i2,i3,i4⟩:=Sp h th;refine⟨by simp[i1],λj y u hy hu=>?_,by simp only[aL];exact tw.2 ⟨h2,i3⟩,λy hy=>?_⟩
   ·cases j with
    | zero=>simp at hy hu;subst hy;subst hu;exact h1
    | succ j=>simp at hy;exact i2 j y u hy (by simpa using hu)
   ·rcases dM.1 hy with rfl|hy
    ·intro sz ys e he;subst he;cases x with
     | tmp t =>
      simp only[ak] at hv;split at hv<;>simp only[bz,reduceCtorEq] at hv;exact vV _ _ _ _ hv
     | const c =>
      simp only[ak] at hv;unfold aj at hv;split at hv<;>try (simp at hv;done)
      all_goals (simp only[eM] at hv;obtain⟨l,_,hv⟩:=hv;split at hv<;>simp at hv)
     | global k=>simp[ak] at hv
     | func f=>simp[ak] at hv
    ·exact i4 y hy
structure nL(g:Gh)(es:List (V×V))(en:List MapEntry):Prop where
 len:es.length=en.length
 rel:∀(j:Nat)(x:V×V)(e:MapEntry),es[j]?=some x->en[j]?=some e->aX g x.1 e.key/\aX g x.2 e.val
theorem nL.tail{x:V×V}{es:List (V×V)}{e:MapEntry}{en:List MapEntry}(h:nL g (x::es) (e::en)):nL g es en/\aX g x.1 e.key/\aX g x.2 e.val :=
 ⟨⟨by have:=h.len;simpa using this,λj y f hy hf=>h.rel (j+1) y f (by simpa using hy) (by simpa using hf)⟩,h.rel 0 x e (by simp) (by simp)⟩
theorem yB{kd:TypeDesc}{k x:V}{ck cx:bC}{b:Bool}(hk:yd kd k=true)(h:I7 k x=some b)(h1:aX g k ck)(h2:aX g x cx):Instr.sameNow kd ck cx=some b:=by
 unfold I7 at h;split at h
 ·split at h<;>simp only[bz,reduceCtorEq] at h;rename_i e;subst h;subst e;cases h1;cases h2;cases kd<;>simp[yd] at hk;simp[Instr.sameNow]
 ·simp only[bz] at h;subst h;cases h1 with
  | str b1=>cases h2 with
   | str b2 =>
    cases kd<;>simp[yd] at hk;simp only[Instr.sameNow,beq_toListBytes,vk,pJ _ _ b1 b2]
 ·simp only[bz] at h;subst h;cases h1;cases h2;cases kd<;>simp[yd] at hk;simp[Instr.sameNow]
 ·cases h
theorem zgi{kd:TypeDesc}{k:V}{ck:bC}(hk:yd kd k=true)(h1:aX g k ck):∀{es:List (V×V)}{en:List MapEntry}(i:Nat){r:cj},nL g es en->I8 k es=some r ->
  ∃r',Instr.findNow kd ck en i=some r'/\match r,r' with
   | none,none=>True
   | some v,some (_,cv)=>aX g v cv/\∃x∈es,x.2=v
   | _,_=>False
 | [],[],i,r,_,h=>by simp only[I8,bz] at h;subst h;exact⟨none,rfl,trivial⟩
 | [],_::_,i,r,hr,h=>by have:=hr.len;simp at this
 | _::_,[],i,r,hr,h=>by have:=hr.len;simp at this
 | (x,v)::es,e::en,i,r,hr,h=>by
  obtain⟨ht,hx,hv⟩:=hr.tail;simp only[I8] at h;split at h
  next rJ=>simp only[bz] at h;subst h;refine⟨some (i,e.val),?_,hv,_,fy ..,rfl⟩;simp[Instr.findNow,yB hk rJ h1 hx]
  ·rename_i rJ;obtain⟨r',h3,h4⟩:=zgi hk h1 (i+1) ht h;refine⟨r',by simp[Instr.findNow,yB hk rJ h1 hx,h3],?_⟩
   cases r<;>cases r'
   ·trivial
   ·exact h4
   ·exact h4
   ·obtain⟨h5,y,hy,Vb⟩:=h4;exact⟨h5,y,eo _ hy,Vb⟩
  ·cases h
theorem zfc(n:Nat){kt:aD}{kd:TypeDesc}(tj:P.underlying kt=some kd){k:V}{ck:bC}(hk:yd kd k=true)(h1:aX g k ck)(e:Bool)(w:aQ):(Instr.checkKey e (n+1) kt ck).run P w=.ok () w:=by
 have hu:=run_underlying tj w;cases kd<;>cases k<;>simp[yd] at hk
 all_goals (cases h1;simp[Instr.checkKey,hu])
theorem zcs{kt:aD}{kd:TypeDesc}(tj:P.underlying kt=some kd){k:V}{ck:bC}(hk:yd kd k=true)(h1:aX g k ck)(e:Bool)(w:aQ):(Instr.checkKey e 10000 kt ck).run P w=.ok () w :=
 zfc 9999 tj hk h1 e w
theorem xW(h:Rel B g s a w){b:Nat}{es:List (V×V)}(hb:s.H.get b=some (.map es)) :
  ∃en ck,w.heap[g.bT b]?=some (.map en ck)/\nL g es en.toList/\aL (es.map (·.1))<=s.H.az.length/\aL (es.map (·.2))<=s.H.az.length:=by
 simp only[Hp.get,zg] at hb;obtain⟨en,ck,h1,h2,h3⟩:=h.di.ok b _ hb;have ht:=tw.1 (show max (aL (es.map (·.1))) (aL (es.map (·.2)))<=_ from h.di.aL b _ hb);exact⟨en,ck,h1,⟨by simpa using h2,λj x e hx he=>h3 j x e hx (by simpa using he)⟩,ht.1,ht.2⟩
theorem zj3(h:Rel B g s a w){t kt e:aD}{kd:TypeDesc}{m k v:V}{cm ck:bC}{es:List (V×V)}{b ok:Bool}(ht:P.underlying t=some (.map kt e))(tj:P.underlying kt=some kd)(hk:yd kd k=true)
  (hm:aX g m cm) (KJ:aX g k ck) (Am:xh s.H m=some es) (hf:M4 P e k es=some (v,b)) :
  KG P g s.H.az.length w (Instr.lookup t cm ck ok) (if ok then .bx [bg v,.bool b] else bg v):=by
 have main:∃en:List MapEntry,nL g es en/\aL (es.map (·.2))<=s.H.az.length/\∀(K:Array MapEntry->Sem bC),(do
   let es <- match cm with
    | .map none=>pure #[]
    | .map (some r)=>do
     let .map es _ <- getObj r|stuck "Lookup: map expected"
     pure es
    | _=>stuck "Lookup: map expected"
   K es:Sem bC).run P w=(K en.toArray).run P w:=by
  unfold xh at Am;split at Am
  ·simp only[bz] at Am;subst Am;cases hm;exact⟨[],⟨rfl,λj x e hx=>by simp at hx⟩,dP _,λK=>by simp⟩
  next bb=>split at Am<;>simp only[bz,reduceCtorEq] at Am;rename_i iF hb;subst Am;cases hm;obtain⟨en,clock,h1,h2,_,h3⟩:=xW h hb;exact⟨en.toList,h2,h3,λK=>by simp[getObj,Sem.run,h1]⟩
  ·cases Am
 obtain⟨en,Vc,uk,cL⟩:=main
 have Gk:∃cv,∀(K:bC×Bool->Sem bC),(do
   Instr.checkKey en.toArray.isEmpty 10000 kt ck
   let x <- match <- Instr.findKey kt ck en.toArray.toList with
    | some (_,v)=>pure (v,true)
    | none=>pure (<- zeroValue e,false)
   K x:Sem bC).run P w=(K (cv,b)).run P w/\aX g v cv/\v.top<=s.H.az.length:=by
  unfold M4 at hf;cases Sq:I8 k es with
  | none=>rw[Sq] at hf;cases hf
  | some r =>
   obtain⟨r',h1,h2⟩:=zgi hk KJ 0 Vc Sq;have DD:=λb=>zcs (P:=P) tj hk KJ b w;cases r with
   | some v' =>
    rw[Sq] at hf;simp only[bz,cq] at hf;obtain⟨rfl,rfl⟩:=hf;cases r' with
    | none=>exact h2.elim
    | some ic =>
     obtain⟨i,cv⟩:=ic;obtain⟨h3,y,hy,Vb⟩:=h2;refine⟨cv,λK=>⟨?_,h3,?_⟩⟩
     ·simp[DD,Instr.findKey,run_underlying tj,h1]
     ·rw[<- Vb];exact cZ (zn (List.mem_map_of_mem (f:=(·.2)) hy)) uk
   | none =>
    rw[Sq] at hf;simp only[mS,cq] at hf;obtain⟨z,hz,rfl,rfl⟩:=hf;cases r' with
    | some ic=>obtain⟨i,cv⟩:=ic;exact h2.elim
    | none =>
     obtain⟨cz,z1,z2,z3,_⟩:=yA (g:=g) hz w;refine⟨cz,λK=>⟨?_,z2,by omega⟩⟩
     simp[DD,Instr.findKey,run_underlying tj,h1,z1]
 obtain⟨cv,Gk⟩:=Gk;have hrel:=(Gk (λ_=>pure .nilFunc)).2;refine⟨if ok then .tuple #[cv,.bool b] else cv,?_,?_,?_,λk l=>ziW ?_⟩
 ·unfold Instr.lookup;simp only[Sem.run_bind,run_underlying ht,Result.andThen_ok]
  have e1:=cL (λes=>do
   Instr.checkKey es.isEmpty 10000 kt ck
   let (v,ok') <- match <- Instr.findKey kt ck es.toList with
    | some (_,v)=>pure (v,true)
    | none=>pure (<- zeroValue e,false)
   pure (if ok then .tuple #[v,.bool ok'] else v))
  have e2:=(Gk (λx=>pure (if ok then .tuple #[x.1,.bool x.2] else x.1))).1
  simp only[Sem.run_bind] at e1;refine Eq.trans e1 ?_;refine Eq.trans ?_ e2;simp only[Sem.run_bind]
 ·cases ok with
  | true =>
   refine .bx rfl λj x u hx hu=>?_;rcases j with _|_|j
   ·simp at hx hu;subst hx;subst hu;exact hrel.1.bg
   ·simp at hx hu;subst hx;subst hu;exact .bool b
   ·simp at hx
  | false=>exact hrel.1.bg
 ·cases ok with
  | true=>simp only[aI,V.top,aL,jq];have:=hrel.2;omega
  | false=>simp only[gh,bD,jq];exact hrel.2
 ·cases ok with
  | true=>intro sz xs e he;simp at he
  | false=>intro sz xs e he;exact vV v sz xs e (by simpa using he)
end
section
variable{P:aY}{B:dS}{g:Gh}{s:St}{a:Act}{w:aQ}
theorem yC{w w':aQ}{c:Nat}(hh:w'.heap[c]?=w.heap[c]?)(o:Nat):w'.cell? ⟨c,o,none⟩=w.cell? ⟨c,o,none⟩:=by
 simp[World.cell?,hh]
theorem vl{c o:Nat}{v:bC}(h:w.cell? ⟨c,o,none⟩=some v):c<w.heap.size:=by
 rcases eY c w.heap.size with h1|h1
 ·exact h1
 ·simp[World.cell?,Array.getElem?_eq_none h1] at h
def Gh.row(g:Gh)(N:Nat)(vs:ei)(l:Option Loc):Gh :=
 {g with M:=λc o=>if c=N then vs[o]? else g.M c o,own:=λc=>if c=N then l else g.own c }
theorem Rel.settle(h:Rel B g s a w)(vs:ei)(l:Option Loc){w':aQ}(fD:w.heap.size<w'.heap.size)(hold:∀c,c<w.heap.size->w'.heap[c]?=w.heap[c]?)
  (dy:∀o v,vs[o]?=some v->w'.cell? ⟨w.heap.size,o,none⟩=some v) (pL:w'.os=w.os) (ht:w'.tape=w.tape) (nN:w'.output=w.output) :
  Rel B (g.row w.heap.size vs l) s a w':=by
 have hM:∀c o v,g.M c o=some v->c<w.heap.size:=λc o v hv=>vl (h.di.mem c o v hv);refine h.lf (b0:=none) (l0:=none) ?_ (dB _) (λ_ _ _=>rfl) (λb x hb hx=>?_) (λb h1 h2=>?_) (λb b' h1 h2=>?_) (λc o v hv=>?_) (λc l' hc=>?_) (λb j e=>by cases e) rfl rfl
  (λt x hx=>⟨x,hx,.inl ⟨rfl,λe=>by cases e⟩⟩) h.bJ h.lK h.oI (λ_ e=>by cases e)
 ·refine⟨⟨λc o v hv=>?_,λ_ _=>rfl,rfl,λ_ _ _ _ e=>e⟩,λc hc _ _=>hold c hc,λc hc _=>?_,λc hc _ o=>?_,Nat.le_of_lt fD,λ_ _ _=>rfl,λl' iM=>(by cases iM),λb hb=>(by cases hb),λ_ _ _ _=>rfl,pL,ht,nN⟩
  ·have:=hM c o v hv;simp only[Gh.row];rw[if_neg (by omega)]
   exact hv
  ·simp only[Gh.row];rw[if_neg (by omega)]
  ·simp only[Gh.row];rw[if_neg (by omega)]
 ·rcases hb with hb|hb
  ·cases hb
  ·have:=(dA.1 hx).1;omega
 ·omega
 ·omega
 ·simp only[Gh.row] at hv;split at hv
  next e=>subst e;exact dy o v hv
  ·rw[yC (hold c (hM c o v hv))];exact h.di.mem c o v hv
 ·simp only[Gh.row] at hc;split at hc
  next e=>omega
  ·exact Nat.lt_trans (h.di.eI c l' hc) fD
theorem aX.settled{n sz cap:Nat}{xs:aG}{vs:ei}{ow:uj}{N:Nat}{l:Option Loc}(hx:∀y:V,y∈xs->y.cells.length=sz)(ov:xs.length<=cap)(ec:bQ g (zK xs) vs)(ht:aL (zK xs)<=n)
  (hle:Gh.Le n g (g.row N vs l)):aX (g.row N vs l) (.sl sz xs ow) (.slice (some ⟨N,0,none⟩) xs.length cap):=by
 refine .sl (c:=N) (o:=0) (λj=>vs.getD j .nilFunc) hx ov (λ_=>rfl) ec.one (λj x hj=>?_) (λj x hj=>?_)
 ·obtain⟨v,hv,_⟩:=ec.get hj;simp[Gh.row,hv,List.getD]
 ·obtain⟨v,hv,hr⟩:=ec.get hj;have:=hr.le hle (cZ (zn (zw hj)) ht);simpa[List.getD,hv] using this
end
section
variable{P:aY}{B:dS}{g:Gh}{s:St}{a:Act}{w:aQ}
theorem Hh(h:Rel B g s a w){x:Option a_}{v:cj}(hv:de s.env x=some v):Gj g v (x.map a.eval):=by
 cases x with
 | none=>simp only[de,bz] at hv;subst hv;trivial
 | some x =>
  simp only[de] at hv;split at hv<;>simp only[bz,reduceCtorEq] at hv;rename_i u hu;subst hv;exact(zI h hu).1
theorem zgj(h:Rel B g s a w){x:a_}{u v:V}(hu:ak s.env x=some u)
  (hv:aa u=some v) :
  ∃cv,aX g v cv/\v.top<=s.H.az.length/\(∀m l,cW g m w l v cv)/\cv=a.eval x/\((∃p,cv=.pointer (some p))\/(∃f fa fc,cv=.func (.func f) fa fc)\/∃t u,cv=.iface t u):=by
 obtain⟨h1,h2,h3⟩:=zI h hu;generalize a.eval x=cv at h1 h3;unfold aa at hv;split at hv<;>simp only[bz,reduceCtorEq] at hv
 all_goals
  subst hv;refine⟨cv,h1,h2,h3,rfl,?_⟩;cases h1
  first
   |exact .inl ⟨_,rfl⟩
   |exact .inr (.inl ⟨_,_,_,rfl⟩)
   |exact .inr (.inr ⟨_,_,rfl⟩)
theorem bQ.set{cs:aG}{vs:ei}(h:bQ g cs vs){x:V}{v:bC}(h1:x.one=true)(hr:aX g x v)(i:Nat):bQ g (cs.set i x) (vs.set i v):=by
 refine⟨by simp[h.len],λj y hy=>?_,λj y u hy hu=>?_⟩
 ·rw[tc] at hy;split at hy
  ·split at hy<;>simp only[bz,reduceCtorEq] at hy;subst hy;exact h1
  ·exact h.one j y hy
 ·rw[tc] at hy hu;split at hy
  ·rename_i e;split at hy<;>simp only[bz,reduceCtorEq] at hy;rename_i hi;rw[if_pos e,if_pos (by rw[<- h.len];exact hi)] at hu
   simp only[bz] at hu;subst hy;subst hu;exact hr
  next e=>rw[if_neg e] at hu;exact h.rel j y u hy hu
theorem bQ.tail{x:V}{xs:aG}{u:bC}{us:ei}(h:bQ g (x::xs) (u::us)):x.one=true/\aX g x u/\bQ g xs us :=
 ⟨h.one 0 x rfl,h.rel 0 x u rfl rfl,⟨by have:=h.len;simpa using this,λj y hy=>h.one (j+1) y (by simpa using hy),λj y v hy hv=>h.rel (j+1) y v (by simpa using hy) (by simpa using hv)⟩⟩
theorem bQ.store:∀{xs:aG}{us:ei}{cs:aG}{vs:ei}(off:Nat),bQ g cs vs->bQ g xs us->bQ g (storeCells cs off xs) (storeCells vs off us)
 | [],[],_,_,_,h,_=>h
 | [],_::_,_,_,_,_,hx=>by have:=hx.len;simp at this
 | _::_,[],_,_,_,_,hx=>by have:=hx.len;simp at this
 | x::xs,u::us,cs,vs,off,h,hx=>by
  obtain⟨h1,h2,h3⟩:=hx.tail;exact bQ.store (off+1) (h.set h1 h2 off) h3
theorem vn{v:V}{cv:bC}(hr:aX g v cv)(hc:dD v=true):bQ g v.cells cv.cells.toList:=by
 by_cases ha:∃cs,v=.agg cs
 ·obtain⟨cs,rfl⟩:=ha;obtain⟨arr,rfl,h⟩:=vj hr;exact h
 ·have h1:v.one=true:=by
   cases v<;>first
    |rfl
    |(simp[dD] at hc;done)
    |exact absurd ⟨_,rfl⟩ ha
  have e1:v.cells=[v]:=by
   cases v<;>first
    |rfl
    |exact absurd ⟨_,rfl⟩ ha
  have e2:cv.cells.toList=[cv]:=by
   have:=hr.nY h1;cases cv<;>first
    |rfl
    |(simp[Value.oneCell'] at this)
  rw[e1,e2];refine⟨rfl,λj x hx=>?_,λj x u hx hu=>?_⟩
  ·cases j with
   | zero=>simp at hx;subst hx;exact h1
   | succ j=>simp at hx
  ·cases j with
   | zero=>simp at hx hu;subst hx;subst hu;exact hr
   | succ j=>simp at hx
theorem Vd(off:Nat):∀(l:ei)(k:Nat)(arr:dR),((l.zipIdx k).foldl (λcs (p:bC×Nat)=>cs.setIfInBounds (off+p.2) p.1) arr).toList=storeCells arr.toList (off+k) l
 | [],_,_=>rfl
 | x::l,k,arr=>by
  simp only[List.zipIdx_cons,List.foldl_cons];rw[Vd off l (k+1) _];simp[storeCells,p6]
theorem kB{α:Type}:∀(vs:List α)(cs:List α)(off:Nat),(storeCells cs off vs).length=cs.length
 | [],_,_=>rfl
 | v::vs,cs,off=>by simp only[storeCells];rw[kB vs];simp
theorem Ve{cs:aG}{i:Nat}{x:V}{n:Nat}(h:aL cs<=n)(hx:x.top<=n):aL (cs.set i x)<=n :=
 qO λy hy=>by
  rcases List.mem_or_eq_of_mem_set hy with hy|rfl
  ·exact cZ (zn hy) h
  ·exact hx
theorem vD{n:Nat}:∀{vs cs:aG}{off:Nat},aL cs<=n->aL vs<=n->aL (storeCells cs off vs)<=n
 | [],_,_,h,_=>h
 | v::vs,cs,off,h,hv=>by
  simp only[aL] at hv;have:=tw.1 hv;show aL (storeCells (cs.set off v) (off+1) vs)<=n;exact vD (cs:=cs.set off v) (Ve h this.1) this.2
theorem yD(v:V):aL v.cells<=v.top:=qO λ_ hx=>Sl hx
theorem Vf(h:Rel B g s a w){pA pC:Nat->Option (Nat×Nat)}(hp:∀i x,pA i=some x->pC i=some x):∀{parts:List (Nat×a_)}{cs cs':aG}{arr:dR},bQ g cs arr.toList->aL cs<=s.H.az.length ->
  xM cs pA s.env parts=some cs'->∃iw,Instr.fill pC arr (parts.map λ(i,x)=>(i,a.eval x))=some iw/\bQ g cs' iw.toList/\aL cs'<=s.H.az.length
 | [],cs,cs',arr,hr,ht,hf=>by simp only[xM,bz] at hf;subst hf;exact⟨arr,rfl,hr,ht⟩
 | (i,x)::parts,cs,cs',arr,hr,ht,hf=>by
  simp only[xM,Option.bind_eq_bind,eM] at hf;obtain⟨v,hv,⟨off,n⟩,KK,hf⟩:=hf;split at hf
  ·rename_i hc;simp only[eF,Nat.beq_eq,Nat.ble_eq] at hc;obtain⟨⟨nB,sg⟩,By⟩:=hc;obtain⟨h1,h2,h3⟩:=zI h hv;have ec:=vn h1 nB;have fD:(a.eval x).cells.size=n:=by rw[<- sg,ec.len];simp
   have oz:arr.size=cs.length:=by have:=hr.len;simp at this;exact this.symm
   have ER:((a.eval x).cells.zipIdx.foldl (λcs (p:bC×Nat)=>cs.setIfInBounds (off+p.2) p.1) arr).toList=storeCells arr.toList off (a.eval x).cells.toList:=by
    rw[<- Array.foldl_toList,Array.toList_zipIdx];have:=Vd off (a.eval x).cells.toList 0 arr;simpa using this
   have fe:=hr.store off ec;rw[<- ER] at fe;obtain⟨iw,f1,f2,f3⟩:=Vf h hp fe (vD ht (cZ (yD v) h2)) hf;refine⟨iw,?_,f2,f3⟩;simp only[bk,Instr.fill,hp i _ KK];have:¬(((a.eval x).cells.size≠n || off+(a.eval x).cells.size > arr.size)=true):=by
    rw[fD,oz];simp;exact By
   simp only[this];exact f1
  ·cases hf
theorem zj4(h:Rel B g s a w){t:aD}{parts:Array (Nat×a_)}{v:V}(hb:kw P t parts s.env=some v) :
  KG P g s.H.az.length w (Instr.build t (parts.map λ(i,x)=>(i,a.eval x))) v:=by
 unfold kw at hb;split at hb
 ·cases hb
 ·rename_i z hz;split at hb
  ·cases hb
  ·rename_i ek;obtain⟨cz,z1,z2,z3,_,M_⟩:=yA (g:=g) hz w;have ec:=vn z2 (by simpa using ek)
   have Gm:aL z.cells<=s.H.az.length:=cZ (yD z) (by omega)
   simp only[eM] at M_;obtain⟨it,hit,hiz⟩:=M_;have uV:(parts.map λ(i,x)=>(i,a.eval x)).toList=parts.toList.map λ(i,x)=>(i,a.eval x):=by simp
   split at hb
   ·rename_i fs hd;split at hb
    ·rename_i ps hps;simp only[mS] at hb;obtain⟨cs',hf,rfl⟩:=hb;obtain⟨iw,f1,f2,f3⟩:=Vf h (pC:=λi=>ps.toArray[i]?) (λi x hx=>by rw[zg] at hx;simpa using hx) ec Gm hf
     refine⟨.agg iw,run_build w t _ iw ?_,f2.agg,f3,λ_ _=>trivial⟩;unfold Sf at hps;rw[uV];simp only[Program.built,hit,hd,hiz,hps];exact f1
    ·cases hb
   ·rename_i n e hd;split at hb
    next ie hie=>simp only[mS] at hb;obtain⟨cs',hf,rfl⟩:=hb;obtain⟨iw,f1,f2,f3⟩:=Vf h (pC:=λi=>some (i * ie.size,ie.size)) (λi x hx=>hx) ec Gm hf;refine⟨.agg iw,run_build w t _ iw ?_,f2.agg,f3,λ_ _=>trivial⟩;rw[uV];simp only[Program.built,hit,hd,hiz,hie];exact f1
    ·cases hb
   ·cases hb
theorem kS{α:Type}:∀(new old pre post:List α),old.length=new.length->storeCells (pre++old++post) pre.length new=pre++new++post
 | [],old,pre,post,h=>by
  have:old=[]:=G0 h;subst this;rfl
 | v::new,[],pre,post,h=>by simp at h
 | v::new,x::old,pre,post,h=>by
  simp only[storeCells];have e:(pre++(x::old)++post).set pre.length v=(pre++[v])++old++post:=by
   simp
  rw[e];have:=kS new old (pre++[v]) post (by simpa using h)
  simp only[aZ,bh,List.length_nil,oh] at this;rw[this];simp
theorem zgk{n:Nat}{v:V}(hv:v.cells.length=n):∀{xs:aG}{i:Nat},(∀y:V,y∈xs->y.cells.length=n)->i<xs.length->zK (xs.set i v)=storeCells (zK xs) (i * n) v.cells
 | [],i,_,hi=>by simp at hi
 | x::xs,0,hs,_=>by
  have:=kS v.cells x.cells [] (zK xs) (by rw[hs x (fy ..),hv])
  simp only[bt,List.length_nil] at this;simp only[zK,bX,Eb,Nat.zero_mul] at *;exact this.symm
 | x::xs,i+1,hs,hi=>by
  have ih:=zgk hv (xs:=xs) (i:=i) (λy hy=>hs y (eo _ hy)) (by simpa using hi)
  have hx:=hs x (fy ..);simp only[zK,bY,Eb] at *;rw[ih];have shift:∀(l:aG)(r:aG)(k:Nat),x.cells++storeCells l k r=storeCells (x.cells++l) (n+k) r:=by
   intro l r
   induction r generalizing l with
   | nil=>intro k;rfl
   | cons y r Ow =>
    intro k;simp only[storeCells];rw[Ow (l.set k y) (k+1)];have e:(x.cells++l).set (n+k) y=x.cells++l.set k y:=by
     rw[uN _ _ (by omega),hx,MZ]
    rw[e];rfl
  rw[shift]
  congr 1
  rw[tv];omega
theorem ww{z:V}{n:Nat}(hz:z.cells.length=n):∀(len j:Nat),j<len * n->(zK (List.replicate len z))[j]?=z.cells[j % n]?
 | 0,j,h=>by simp at h
 | k+1,j,h=>by
  have hn:0<n:=by
   rcases Kk n with h0|h0
   ·subst h0;simp at h
   ·exact h0
  simp only[G3,zK,Eb];rcases eY j n with h1|h1
  ·rw[gF (by omega),EJ h1]
  ·rw[fM (by omega),hz]
   have:=ww hz k (j - n) (by rw[tv] at h;omega)
   simp only[zK] at this;rw[this,Nat.mod_eq_sub_mod h1]
theorem ziX(h:Rel B g s a w){n len:Nat}:∀{parts:List (Nat×a_)}{xs BY:aG}{arr:dR},xs.length=len->(∀y:V,y∈xs->y.cells.length=n)->bQ g (zK xs) arr.toList->aL xs<=s.H.az.length ->
  CR n len s.env xs parts=some BY->∃iw,Instr.fill (λi=>some (i * n,n)) arr (parts.map λ(i,x)=>(i,a.eval x))=some iw/\bQ g (zK BY) iw.toList/\BY.length=len/\(∀y:V,y∈BY->y.cells.length=n)/\aL BY<=s.H.az.length
 | [],xs,BY,arr,hl,hs,hr,ht,hf=>by simp only[CR,bz] at hf;subst hf;exact⟨arr,rfl,hr,hl,hs,ht⟩
 | (i,x)::parts,xs,BY,arr,hl,hs,hr,ht,hf=>by
  simp only[CR,Option.bind_eq_bind,eM,ql,eP] at hf;obtain⟨v,hv,hf⟩:=hf;split at hf
  ·rename_i hc;simp only[eF,Nat.beq_eq,Nat.blt_eq] at hc;obtain⟨⟨nB,sg⟩,By⟩:=hc;obtain⟨h1,h2,h3⟩:=zI h hv;have ec:=vn h1 nB;have fD:(a.eval x).cells.size=n:=by rw[<- sg,ec.len];simp
   have oz:arr.size=len * n:=by
    have:=hr.len;rw[qM hs,hl] at this;simpa using this.symm
   have ER:((a.eval x).cells.zipIdx.foldl (λcs (p:bC×Nat)=>cs.setIfInBounds (i * n+p.2) p.1) arr).toList=storeCells arr.toList (i * n) (a.eval x).cells.toList:=by
    rw[<- Array.foldl_toList,Array.toList_zipIdx];have:=Vd (i * n) (a.eval x).cells.toList 0 arr;simpa using this
   have fe:=hr.store (i * n) ec;rw[<- ER,<- zgk sg hs (by rw[hl];exact By)] at fe
   obtain⟨iw,f1,f2⟩:=ziX h (xs:=xs.set i v) (by simpa using hl) (λy hy=>by
    rcases List.mem_or_eq_of_mem_set hy with hy|rfl
    ·exact hs y hy
    ·exact sg) fe (Ve ht h2) hf
   refine⟨iw,?_,f2⟩;simp only[bk,Instr.fill];have hle:i * n+n<=len * n:=by
    have:=Nat.mul_le_mul_right n (Nat.succ_le_of_lt By);rw[Nat.succ_mul] at this;exact this
   have:¬(((a.eval x).cells.size≠n || i * n+(a.eval x).cells.size > arr.size)=true):=by
    rw[fD,oz];simp;exact hle
   simp only[this];exact f1
  ·cases hf
theorem yo{xs:aG}:aL (zK xs)<=aL xs:=qO λ_ hx=>xU hx
theorem zej(h:Rel B g s a w){t e:aD}{len n:Nat}{parts:Array (Nat×a_)}{z:V}{xs:aG}(hd:P.underlying t=some (.slice e))(hn:z4 P e=some n)(hz:qL P e=some z)
  (hc:(Nat.beq n 0 || Nat.blt 16777216 (len * n) || !Nat.beq z.cells.length n || !dD z)=false) (hx:CR n len s.env (List.replicate len z) parts.toList=some xs) {o:Oper} (ho:o.op=.buildSlice t len parts) :
  KI P B s a w g o (.sl n xs (.yes e)):=by
 simp only[Bool.or_eq_false_iff,Bool.not_eq_false'] at hc;obtain⟨⟨⟨c1,c2⟩,c3⟩,c4⟩:=hc;have nC:n≠0:=by intro e;subst e;simp at c1
 have Vg:¬len * n > 16777216:=by
  intro bW;have:Nat.blt 16777216 (len * n)=true:=by rw[Nat.blt_eq];exact bW
  rw[this] at c2;cases c2
 have Na:z.cells.length=n:=fo c3;obtain⟨cz,z1,z2,z3,_,_⟩:=yA (g:=g) hz w;have Bz:=vn z2 c4;have ES:cz.cells.size=n:=by rw[<- Na,Bz.len];simp
 have nq:bQ g (zK (List.replicate len z)) ((Array.range (len * n)).map (λj=>(cz.cells)[j % cz.cells.size]!)).toList:=by
  have nZ:(zK (List.replicate len z)).length=len * n:=by rw[qM (sz:=n) λy hy=>by rw[(List.mem_replicate.1 hy).2];exact Na];simp
  refine⟨by rw[nZ];simp,λj x hx=>?_,λj x v hx hv=>?_⟩
  ·have hj:j<len * n:=by rw[<- nZ];exact(dA.1 hx).1
   rw[ww Na len j hj] at hx;exact Bz.one _ x hx
  ·have hj:j<len * n:=by rw[<- nZ];exact(dA.1 hx).1
   rw[ww Na len j hj] at hx;have hm:j % n<cz.cells.size:=by rw[ES];exact Nat.mod_lt _ (by omega)
   simp only[Array.toList_map,Array.toList_range,mu,Kj,hj,aW,bz,ES] at hv;rw[getElem!_pos cz.cells (j % n) hm] at hv;refine Bz.rel _ x v hx ?_;rw[F9,D_ hm,hv]
 obtain⟨iw,f1,f2,f3,f4,f5⟩:=ziX h (xs:=List.replicate len z) (len:=len) (n:=n) (by simp) (λy hy=>by rw[(List.mem_replicate.1 hy).2];exact Na) nq
  (qO λy hy=>by rw[(List.mem_replicate.1 hy).2];omega) hx
 have uV:(parts.map λ(i,x)=>(i,a.eval x)).toList=parts.toList.map λ(i,x)=>(i,a.eval x):=by simp
 have oK:iw.size=len * n:=by
  have:=f2.len;rw[qM f4,f3] at this;simpa using this.symm
 have cL:(Instr.buildSlice t len (parts.map λ(i,x)=>(i,a.eval x))).run P w=.ok (.slice (some ⟨w.heap.size,0,none⟩) len len) (w.alloc (.cells iw e)):=by
  unfold Instr.buildSlice;rcases Kk len with h0|h0
  ·subst h0;simp only[Nat.zero_mul] at f1 oK;have r0:Array.range 0=#[]:=rfl;have f1':Instr.fill (λi=>some (i * n,n)) #[] (parts.toList.map λ(i,x)=>(i,a.eval x))=some iw:=by simpa[r0] using f1
   simp only[Sem.run_bind,run_underlying hd,jA hn,Result.andThen_ok,Nat.zero_mul,r0,uV];simp[f1',newRow]
   try rfl
  ·have:¬len * n=0:=by
    intro e0;rcases Nat.mul_eq_zero.1 e0 with e0|e0<;>omega
   simp[run_underlying hd,jA hn,Vg,this,z1,f1,newRow]
   try rfl
 refine⟨g.row w.heap.size iw.toList (o.dst.map (Loc.slot B.d)),.slice (some ⟨w.heap.size,0,none⟩) len len,w.alloc (.cells iw e),by simp only[execOp,ho,Sem.run_bind,cL,Result.andThen_ok,Sem.run_pure],?_⟩
 have hrel:=h.settle iw.toList (o.dst.map (Loc.slot B.d)) (w':=w.alloc (.cells iw e)) (by simp) (λc hc=>heap_alloc_old w _ hc) (λo v hv=>by rw[World.cell?_alloc_new];simpa using hv) rfl rfl rfl
 have bW:∀b,b<s.H.az.length->g.bT b<w.heap.size:=h.di.lt;have hle:Gh.Le s.H.az.length g (g.row w.heap.size iw.toList (o.dst.map (Loc.slot B.d))):=by
  refine⟨λc o v hv=>?_,λ_ _=>rfl,rfl,λ_ _ _ _ e=>e⟩;have:=vl (h.di.mem c o v hv);simp only[Gh.row];rw[if_neg (by omega)];exact hv
 refine⟨hrel,?_,λt ht=>?_,f5⟩
 ·have:=aX.settled (g:=g) (ow:=.yes e) (N:=w.heap.size) (l:=o.dst.map (Loc.slot B.d)) (cap:=len) f4 (by omega) f2 (cZ yo f5) hle
  rw[f3] at this;exact this
 ·refine⟨iw.toList,zgc ⟨by simp[oK,f3],.inr ⟨w.heap.size,len,iw,by rw[f3],dP _,heap_alloc_new w _,by omega,?_,oK,?_⟩⟩,λc hc=>?_⟩
  ·have:len<=len * n:=Nat.le_mul_of_pos_right _ (by omega)
   simp only[maxLen];omega
  ·rw[su (by simp[oK,f3])]
  ·simp only[Value.ownBlock,bz] at hc;subst hc;refine⟨by simp[Gh.row,ht],λo ho _=>?_,λb hb e=>?_⟩
   ·simp only[Gh.row,aI];simp only at ho;exact uf (by simp[oK];rw[f3] at ho;omega)
   ·have:=bW b hb;have e':g.bT b=w.heap.size:=e;omega
theorem zgl{isAgg:Bool}{sz:Nat}(h1:isAgg=false->sz=1):∀{n:Nat}{cs:aG},n * sz<=cs.length->(∀x∈cs,x.one=true)->zK (xR isAgg sz n cs)=cs.take (n * sz)/\(∀y∈xR isAgg sz n cs,y.cells.length=sz)/\(xR isAgg sz n cs).length=n
 | 0,cs,_,_=>by simp[xR,zK]
 | n+1,cs,hl,ho=>by
  have iM:n * sz<=(cs.drop sz).length:=by rw[tv] at hl;simp;omega
  obtain⟨i1,i2,i3⟩:=zgl h1 (n:=n) (cs:=cs.drop sz) iM (λx hx=>ho x (BP hx));have fD:sz<=cs.length:=by rw[tv] at hl;omega
  have e:cs.take ((n+1) * sz)=cs.take sz++(cs.drop sz).take (n * sz):=by
   rw[show(n+1) * sz=sz+n * sz by rw[tv];omega,List.take_add]
  cases isAgg with
  | true =>
   simp only[xR,aI,zK,Eb,V.cells] at *;refine⟨by rw[i1,e],λy hy=>?_,by simp[i3]⟩
   rcases dM.1 hy with rfl|hy
   ·simp;omega
   ·exact i2 y hy
  | false =>
   have Hj:=h1 rfl;subst Hj;cases cs with
   | nil=>simp at fD
   | cons x cs =>
    have hx:=ho x (fy ..);have Ef:x.cells=[x]:=by cases x<;>first|rfl|(simp[V.one,Du] at hx)
    simp only[xR,gh,bD,List.headD_cons,zK,Eb] at *;refine⟨by rw[i1,e,Ef];simp,λy hy=>?_,by rw[bh,i3]⟩
    rcases dM.1 hy with rfl|hy
    ·rw[Ef];rfl
    ·exact i2 y hy
structure Src(g:Gh)(n:Nat)(w:aQ)(sz:Nat)(ys:aG)(cy:bC):Prop where
 form:∃ad cap,cy=.slice ad ys.length cap/\(ys≠[]->∃a0 news,ad=some a0/\bQ g (zK ys) news/\∀j v,news[j]?=some v->w.cell? (a0.add j)=some v)
 sized:∀y:V,y∈ys->y.cells.length=sz
 aL:aL ys<=n
theorem yp(h:Rel B g s a w){e:aD}{sz:Nat}{y:V}{ys:aG}{cy:bC}(fD:z4 P e=some sz)(hy:wu P s.H e y=some ys)(hr:aX g y cy)(ht:y.top<=s.H.az.length):Src g s.H.az.length w sz ys cy:=by
 unfold wu at hy;split at hy
 ·simp only[bz] at hy;subst hy;cases hr;exact⟨⟨none,0,rfl,λhn=>absurd rfl hn⟩,λy hy=>by simp at hy,dP _⟩
 ·rename_i Ox xs ow;simp only[Option.bind_eq_bind,eM] at hy;obtain⟨n,hn,hy⟩:=hy;rw[fD] at hn;cases hn;split at hy<;>simp only[bz,reduceCtorEq] at hy;rename_i e';subst e';subst hy;cases hr with
  | sl f h1 h2 h3 h4 h5 h6 =>
   rename_i ad cap c o;refine⟨⟨ad,cap,rfl,λhn=>⟨⟨c,o,none⟩,(List.range (zK xs).length).map f,h3 hn,⟨by simp,h4,λj x v hx hv=>?_⟩,λj v hv=>?_⟩⟩,h1,ht⟩
   ·have hj:=(dA.1 hx).1;simp[hj] at hv;subst hv;exact h6 j x hx
   ·have hj:j<(zK xs).length:=by have:=(dA.1 hv).1;simpa using this
    have e':f j=v:=by simpa[hj] using hv
    rw[Addr.add_lit,<- e'];exact h.di.mem _ _ _ (h5 j _ (gG hj))
 ·rename_i b off len Vh;simp only[Option.bind_eq_bind,eM] at hy;obtain⟨x,hx,hy⟩:=hy;split at hy<;>try (cases hy;done)
  rename_i cs ty;simp only[eM] at hy;obtain⟨n,hn,ag,DE,hy⟩:=hy;rw[fD] at hn;cases hn;split at hy<;>simp only[bz,reduceCtorEq] at hy;rename_i hc;simp only[eF,tf] at hc;obtain⟨hle,Vi⟩:=hc;have ah7:off+len * sz<=cs.length:=rA hle;obtain⟨arr,a1,a2,a3,_⟩:=xj h hx;have sD:((cs.drop off).map bg).length=cs.length - off:=by simp
  obtain⟨f1,f2,f3⟩:=zgl (isAgg:=ag) (sz:=sz) (n:=len) (cs:=(cs.drop off).map bg) (λe=>Vi.elim (λh1=>by rw[e] at h1;cases h1) fo) (by rw[sD];omega) (λx hx=>by
   simp only[mU] at hx;obtain⟨y,hy,rfl⟩:=hx;rw[U4];obtain⟨j,hj⟩:=List.getElem?_of_mem (BP hy)
   exact a2.one j y hj)
  subst hy;cases hr with
  | sr BZ =>
   refine⟨⟨some ⟨g.bT b,off,none⟩,Vh,by rw[f3],λ_=>⟨_,(arr.toList.drop off).take (len * sz),rfl,?_,λj v hv=>?_⟩⟩,f2,?_⟩
   ·rw[f1];refine⟨?_,λj x hx=>?_,λj x v hx hv=>?_⟩
    ·have:=a2.len;simp at this ⊢;omega
    ·simp only[Ak] at hx;split at hx<;>try (cases hx;done)
     simp only[mu,G4,mS] at hx;obtain⟨y,hy,rfl⟩:=hx;rw[U4];exact a2.one _ _ hy
    ·simp only[Ak] at hx hv;split at hx<;>try (cases hx;done)
     rename_i hj;rw[if_pos hj] at hv;simp only[mu,G4,mS] at hx hv;obtain⟨y,hy,rfl⟩:=hx;exact(a2.rel _ _ _ hy hv).bg
   ·simp only[Ak] at hv;split at hv<;>try (cases hv;done)
    simp only[G4] at hv;rw[Addr.add_lit,cell_of_row w _ _ arr _ _ a1];simpa using hv
   ·refine qO λy hy=>?_;have nZ:∀z∈zK (xR ag sz len ((cs.drop off).map bg)),z.top<=s.H.az.length:=λz hz=>by
     rw[f1] at hz;have:=Bt hz;simp only[mU] at this;obtain⟨u,hu,rfl⟩:=this;rw[jq];exact cZ (zn (BP hu)) a3
    cases y with
    | agg us=>exact qO λz hz=>nZ z (List.mem_flatMap.2 ⟨_,hy,hz⟩)
    | _=>exact nZ _ (List.mem_flatMap.2 ⟨_,hy,r9.2 rfl⟩)
 ·cases hy
theorem zk3(h:Rel B g s a w){src dst:aD}{b off len cap:Nat}{u v:V}{x:a_}{o:Oper}(hu:Ku P s.H src (.sr b off len cap)=some u)(hr:vz P src dst u=some v)(hx:aX g (.sr b off len cap) (a.eval x))(ht:(V.sr b off len cap).top<=s.H.az.length)(ho:o.op=.convert src dst x) :
  KI P B s a w g o v:=by
 simp only[vz,Option.bind_eq_bind,eM] at hr;obtain⟨ds,hs,dd,hd,hr⟩:=hr;unfold Ku at hu;split at hu
 ·rename_i e _ _ _ _ Oy heq;rw[hs] at Oy;cases Oy;cases heq;split at hu<;>simp only[bz,reduceCtorEq] at hu;rename_i xs pE;subst hu;cases dd<;>simp only[reduceCtorEq] at hr;simp only[eM] at hr;obtain⟨d8,h8,hr⟩:=hr;split at hr<;>try (cases hr;done)
  simp only[mS] at hr;obtain⟨l,hl,rfl⟩:=hr;obtain⟨n,hn⟩:∃n,z4 P e=some n:=by
   have h1:=pE;simp only[wu,Option.bind_eq_bind,eM] at h1;obtain⟨_,_,h1⟩:=h1;split at h1<;>try (cases h1;done)
   simp only[eM] at h1;obtain⟨n,hn,_⟩:=h1;exact⟨n,hn⟩
  have gv:=yp h hn pE hx ht;obtain⟨ad,oU,n_,lg⟩:=gv.form;obtain⟨ns,rI,_⟩:=nK hl;have hel:∀y∈zK xs,∃k:Int,y=.int .u8 k:=λy hy=>by
   subst rI;obtain⟨z,hz,hy⟩:=List.mem_flatMap.1 hy;obtain⟨k,_,rfl⟩:=mU.1 hz;simp only[V.cells,r9] at hy;exact⟨_,hy⟩
  obtain⟨f,hf⟩:∃f:Nat->bC,f=λ_=>.nilFunc:=⟨_,rfl⟩;have hrel:aX { g with M:=λc o=>w.cell? ⟨c,o,none⟩ } (.sl 1 xs .no) (a.eval x):=by
   generalize a.eval x=cx at hx n_;cases hx with
   | sr ov =>
    cases n_;have sE:∀(j:Nat)(y:V),(zK xs)[j]?=some y->y.one=true:=λj y hy=>by obtain⟨k,rfl⟩:=hel y (zw hy);rfl
    have nB:∀y:V,y∈xs->y.cells.length=1:=λy hy=>by
     subst rI;obtain⟨k,_,rfl⟩:=mU.1 hy;rfl
    by_cases cK:xs=[]
    ·subst cK;exact .sl (c:=0) (o:=0) (λ_=>.nilFunc) (λy hy=>by simp at hy) (dP _) (λhn=>absurd rfl hn) (λj y hy=>by simp[zK] at hy) (λj y hy=>by simp[zK] at hy) (λj y hy=>by simp[zK] at hy)
    ·obtain⟨a0,news,h0,ec,dy⟩:=lg cK;cases h0;refine .sl (c:=g.bT b) (o:=off) (λj=>news.getD j .nilFunc) nB ov (λ_=>rfl) sE (λj y hy=>?_) (λj y hy=>?_)
     ·obtain⟨v,hv,_⟩:=ec.get hy;have:=dy j v hv;rw[Addr.add_lit] at this;simpa[List.getD,hv] using this
     ·obtain⟨v,hv,Vj⟩:=ec.get hy;obtain⟨k,rfl⟩:=hel y (zw hy);cases Vj;simp only[List.getD,hv,gm];exact .int _ _
  obtain⟨c1,c2⟩:=zde (P:=P) (w:=w) hl hrel (λc o u h=>h);rw[n_] at c1;refine⟨g,.string (bytes l),w,?_,⟨h,.str c2,λ_ _=>trivial,dP _⟩⟩;simp only[execOp,ho,n_,Sem.run_bind,run_convert_bytes_string w src dst e _ _ _ hs h8 hd,c1,Result.andThen_ok,Sem.run_pure]
 ·simp only[bz] at hu;subst hu;cases ds<;>cases dd<;>simp only[reduceCtorEq] at hr
theorem zgm(h:Rel B g s a w){src dst:aD}{l:bO}{v:V}{x:a_}{o:Oper}(hr:vz P src dst (.str l)=some v)(hx:aX g (.str l) (a.eval x))(si:P.underlying dst≠some .string)(ho:o.op=.convert src dst x) :
  KI P B s a w g o v:=by
 simp only[vz,Option.bind_eq_bind,eM] at hr;obtain⟨ds,hs,dd,hd,hr⟩:=hr;generalize he:a.eval x=cx at hx;cases hx with
 | str hl =>
  split at hr<;>try (cases hr;done)
  next e=>cases e
  next e=>cases e
  ·exact absurd hd si
  next e=>cases e
  next e=>cases e
  ·rename_i e l' iM;cases iM;simp only[eM] at hr;obtain⟨d8,h8,hr⟩:=hr;split at hr<;>simp only[bz,reduceCtorEq] at hr;subst hr;have fD:(bytes l).size=l.length:=kJ l;have ov:=grownCap_ge w (bytes l).size 0 e;generalize hC:grownCap w (bytes l).size 0 e=cap at ov;have cL:=run_bytes_of_string (P:=P) w src dst e (bytes l) hs hd h8;rw[hC] at cL
   have cC:∀(j:Nat)(b:Nat),l[j]?=some b->(bytesRow (bytes l) cap)[j]?=some (.int .u8 b):=λj b hb=>by
    have hj:=(dA.1 hb).1;have mX:=hl b (zw hb);unfold bytesRow;rw[Array.getElem?_append_left (by simp[bytes];exact hj)]
    simp[bytes,hb,UInt8.toNat_ofNat',EJ mX]
   have nZ:zK (l.map λ(b:Nat)=>V.int .u8 b)=l.map λ(b:Nat)=>V.int .u8 b:=by
    clear cC hl fD ov hC cL he
    induction l with
    | nil=>rfl
    | cons n ns ih=>simp only[zK,bk,Eb,V.cells] at *;rw[ih];rfl
   have hrel:=h.settle (l.map λ(b:Nat)=>Value.int .u8 b) none (w':=w.drew.alloc (.cells (bytesRow (bytes l) cap) e ((bytesRow (bytes l) cap).size,(bytesRow (bytes l) cap).size+1)))
    (by show _<(w.heap.push _).size;simp) (λc hc=>heap_alloc_old w.drew _ hc) (λo v hv=>by
     simp only[mu,mS] at hv;obtain⟨b,hb,rfl⟩:=hv;rw[<- cC o b hb]
     exact World.cell?_alloc_mark w.drew _ _ _ o) rfl rfl rfl
   have hle:Gh.Le s.H.az.length g (g.row w.heap.size (l.map λ(b:Nat)=>Value.int .u8 b) none):=by
    refine⟨λc o v hv=>?_,λ_ _=>rfl,rfl,λ_ _ _ _ e=>e⟩;have:=vl (h.di.mem c o v hv);simp only[Gh.row];rw[if_neg (by omega)];exact hv
   refine⟨_,_,_,by simp only[execOp,ho,he,Sem.run_bind,cL,Result.andThen_ok,Sem.run_pure];rfl,hrel,?_,λ_ _=>trivial,?_⟩
   ·have:=aX.settled (g:=g) (n:=s.H.az.length) (ow:=.no) (N:=w.heap.size) (l:=none) (sz:=1) (xs:=l.map λ(b:Nat)=>V.int .u8 b) (vs:=l.map λ(b:Nat)=>Value.int .u8 b) (cap:=cap)
     (λy hy=>by obtain⟨b,_,rfl⟩:=mU.1 hy;rfl) (by simp;omega) ?_ ?_ hle
    ·rw[fD];simpa using this
    ·rw[nZ];refine⟨by simp,λj x hx=>?_,λj x v hx hv=>?_⟩
     ·simp only[mu,mS] at hx;obtain⟨b,hb,rfl⟩:=hx;rfl
     ·simp only[mu,mS] at hx hv;obtain⟨b,hb,rfl⟩:=hx;obtain⟨b',dw,rfl⟩:=hv;rw[hb] at dw;cases dw;exact .int _ _
    ·rw[nZ];exact qO λy hy=>by obtain⟨b,_,rfl⟩:=mU.1 hy;exact dP _
   ·simp only[V.top];exact qO λy hy=>by obtain⟨b,_,rfl⟩:=mU.1 hy;exact dP _
theorem Sr(h:Rel B g s a w){gl:Nat->Nat->cj}(rG:iu P gl g){o:Oper}{v:V}(hr:jc P gl o s.env s.H=some v):KI P B s a w g o v:=by
 obtain⟨dst,op,type,pos,after,guard⟩:=o;cases op<;>simp only[jc,Option.bind_eq_bind,eM,reduceCtorEq] at hr
 case move x =>
  obtain⟨h1,h2,h3⟩:=zI h hr;exact⟨g,a.eval x,w,by simp[execOp],⟨h,h1,λ_ _=>h3 _ _,h2⟩⟩
 case pick c x y =>
  obtain⟨vc,hc,hr⟩:=hr;split at hr<;>try (cases hr;done)
  rename_i t;obtain⟨c1,_,_⟩:=zI h hc;generalize BB:a.eval c=cc at c1;cases c1;cases t with
  | true =>
   simp only at hr;obtain⟨h1,h2,h3⟩:=zI h hr;exact⟨g,a.eval x,w,by simp[execOp,BB,asBool],⟨h,h1,λ_ _=>h3 _ _,h2⟩⟩
  | false =>
   simp only at hr;obtain⟨h1,h2,h3⟩:=zI h hr;exact⟨g,a.eval y,w,by simp[execOp,BB,asBool],⟨h,h1,λ_ _=>h3 _ _,h2⟩⟩
 case build t parts=>exact vW h (zj4 (P:=P) h hr) rfl
 case load t x =>
  obtain⟨p,hp,u,hu,hr⟩:=hr;simp only[bz] at hr;subst hr;obtain⟨h1,h2,h3⟩:=zI h hp;obtain⟨cv,c1,c2,c3⟩:=zgh h rG h1 h2 hu;exact vW h ⟨cv,c1,c2.bg,by rw[jq];exact c3,λ_ _=>vi _ _ _ _ _ _⟩ rfl
 case nilCheck x =>
  obtain⟨u,hu,hr⟩:=hr;obtain⟨cv,h1,h2,h3,h4,h5⟩:=zgj h hu hr;refine⟨g,cv,w,?_,⟨h,h1,λ_ _=>h3 _ _,h2⟩⟩;rcases h5 with⟨p,h5⟩|⟨f,fa,fc,h5⟩|⟨t,u,h5⟩
  ·simp[execOp,<- h4,h5]
  ·simp[execOp,<- h4,h5]
  ·simp[execOp,<- h4,h5]
 case binOp op t x y yt =>
  obtain⟨u,hu,v',lV,hr⟩:=hr;split at hr
  next hg=>obtain⟨u1,u2,_⟩:=zI h hu;obtain⟨v1,v2,_⟩:=zI h lV;have e1:=zk0 hg u1 v1 w;obtain⟨cv,c1,c2,c3,c4⟩:=znj hr u1 v1 w;exact⟨g,cv,w,by simp[execOp,e1,c1],⟨h,c2,λ_ _=>c4 _ _,by omega⟩⟩
  ·cases hr
 case unOp op t x =>
  obtain⟨u,hu,hr⟩:=hr;exact vW h (zoZ hr (zI h hu).1 _ w) rfl
 case makeInterface t x =>
  obtain⟨u,hu,hr⟩:=hr;split at hr<;>simp only[bz,reduceCtorEq] at hr;rename_i hi;subst hr;obtain⟨u1,u2,_⟩:=zI h hu;refine⟨g,.iface t (a.eval x),w,?_,⟨h,.dX u1,λ_ _=>trivial,u2⟩⟩;unfold Sg at hi;cases hd:P.underlying t with
  | none=>simp[hd] at hi
  | some d =>
   rw[hd] at hi;cases d<;>first|(simp at hi;done)|simp[execOp,Instr.makeInterface,run_underlying hd]
 case convert src dst x =>
  obtain⟨u,hu,hr⟩:=hr;obtain⟨u1,u2,_⟩:=zI h hu
  by_cases rI:∀s,u≠.str s\/P.underlying dst=some .string
  ·exact vW h (zk2 hr u1 rI h.di.mem) rfl
  ·obtain⟨l,hl⟩:∃l,u=.str l:=by
    apply Classical.byContradiction;intro e_;exact rI λs=>.inl λe=>e_ ⟨s,e⟩
   subst hl;have si:P.underlying dst≠some .string:=λe=>rI λs=>.inr e;exact zgm h hr u1 si rfl
 case makeFunc fn first cap =>
  obtain⟨as,has,cs,ec,hr⟩:=hr;simp only[bz] at hr;subst hr;obtain⟨a1,a2,a3,_⟩:=Sp h has;obtain⟨c1,c2,c3,_⟩:=Sp h ec;refine⟨g,.func fn (first.map a.eval) (cap.map a.eval),w,by simp[execOp,Instr.makeFunc],⟨h,.fn (by simpa using a1) (by simpa using c1) (λj x v hx hv=>a2 j x v hx (by simpa using hv)) (λj x v hx hv=>c2 j x v hx (by simpa using hv)),λ_ _=>trivial,?_⟩⟩
  simp only[V.top];exact tw.2 ⟨a3,c3⟩
 case slice t x lo hi mx =>
  obtain⟨Sh,iB,EM,Al,u,hu,hr⟩:=hr;obtain⟨u1,u2,_⟩:=zI h hu;cases mx with
  | none=>exact vW h (zew hr u1 (Hh h iB) (Hh h Al) u2 w) rfl
  | some m =>
   simp only[eM] at hr;obtain⟨mv,hmv,hr⟩:=hr;obtain⟨m1,_,_⟩:=zI h hmv;split at hr<;>try (cases hr;done)
   rename_i km k sz xs o kh hh _ _ _;split at hr<;>try (cases hr;done)
   rename_i hle;have h1:=Hh h Al;cases hi with
   | none=>exact h1.elim
   | some aE =>
    have Hj:aX g (.int kh hh) (a.eval aE):=h1;have h2:=zj1 (P:=P) (km:=km) hr u1 (Hh h iB) hle.1 hle.2 u2 w;have e1:a.eval aE=.int kh hh:=by generalize a.eval aE=ch at Hj;cases Hj;rfl
    have e2:a.eval m=.int km k:=by generalize a.eval m=cm at m1;cases m1;rfl
    rw[<- e1,<- e2] at h2;exact vW h h2 rfl
 case fieldAddr t x f =>
  obtain⟨ds,hd,hr⟩:=hr;split at hr<;>try (cases hr;done)
  rename_i fs;simp only[eM] at hr;obtain⟨fd,hf,sz,fD,hr⟩:=hr;split at hr
  ·cases hr
  ·rename_i h0;simp only[eM] at hr;obtain⟨u,hu,hr⟩:=hr;obtain⟨u1,u2,_⟩:=zI h hu;have Ss:Nat.beq sz 0=false:=by revert h0;cases Nat.beq sz 0<;>simp
   generalize he:a.eval x=cx at u1;split at hr<;>simp only[bz,reduceCtorEq] at hr
   ·subst hr;cases u1;exact⟨g,_,w,by simp only[execOp,he,Sem.run_bind,vK hd hf fD Ss,Result.andThen_ok,Sem.run_pure],⟨h,.ptr _ _,λ_ _=>trivial,u2⟩⟩
   ·subst hr;cases u1;exact⟨g,_,w,by simp only[execOp,he,Sem.run_bind,vK hd hf fD Ss,Result.andThen_ok,Sem.run_pure],⟨h,.eV _ _,λ_ _=>trivial,u2⟩⟩
   ·rename_i b9 u9 k9 _;subst hr;cases u1 with
    | gk _ hh =>
     have e0:=aX.gk (k9+fd.offset) hh;rw[<- p6] at e0;exact⟨g,_,w,by simp only[execOp,he,Sem.run_bind,vK hd hf fD Ss,Result.andThen_ok,Sem.run_pure],⟨h,e0,λ_ _=>trivial,u2⟩⟩
   ·subst hr;obtain⟨c,o,rfl⟩:∃c o,cx=.pointer (some ⟨c,o,none⟩):=by cases u1;exact⟨_,_,rfl⟩
    exact⟨g,_,w,by simp only[execOp,he,Sem.run_bind,vK hd hf fD Ss,Result.andThen_ok,Sem.run_pure],⟨h,u1.CX _,λ_ _=>trivial,cZ (zev _ _) u2⟩⟩
 case field t x f =>
  obtain⟨ds,hd,hr⟩:=hr;split at hr<;>try (cases hr;done)
  rename_i fs;simp only[eM] at hr;obtain⟨fd,hf,u,hu,hr⟩:=hr;split at hr<;>try (cases hr;done)
  rename_i cs;simp only[mS] at hr;obtain⟨v',hr,rfl⟩:=hr;obtain⟨u1,u2,_⟩:=zI h hu;obtain⟨arr,he,ec⟩:=vj u1;obtain⟨cv,c1,c2,c3,_⟩:=M7 (P:=P) ec hr w;refine vW h ⟨cv,?_,c2.bg,by rw[jq];exact cZ c3 u2,λ_ _=>vi _ _ _ _ _ _⟩ rfl
  rw[he];unfold Instr.field;simp[run_underlying hd,hf,asAgg,c1]
 case indexAddr t x ix =>
  obtain⟨iv,hi,hr⟩:=hr;split at hr<;>try (cases hr;done)
  rename_i k i;simp only[eM] at hr;obtain⟨u,hu,hr⟩:=hr;obtain⟨u1,u2,_⟩:=zI h hu;have i1:=(zI h hi).1;generalize Gn:a.eval ix=ci at i1;cases i1;generalize he:a.eval x=cx at u1;unfold zt at hr;split at hr
  ·rename_i len e hd;split at hr
   ·cases hr
   ·rename_i n hn;split at hr
    ·split at hr<;>simp only[bz,reduceCtorEq] at hr;rename_i hb;subst hr;cases u1;exact⟨g,_,w,by simp only[execOp,he,Gn,Sem.run_bind,yi hd hn hb.1 hb.2,Result.andThen_ok,Sem.run_pure],⟨h,.ptr _ _,λ_ _=>trivial,u2⟩⟩
    ·split at hr<;>simp only[bz,reduceCtorEq] at hr;rename_i hb;subst hr;cases u1;exact⟨g,_,w,by simp only[execOp,he,Gn,Sem.run_bind,yi hd hn hb.1 hb.2,Result.andThen_ok,Sem.run_pure],⟨h,.eV _ _,λ_ _=>trivial,u2⟩⟩
    ·split at hr<;>simp only[bz,reduceCtorEq] at hr;rename_i hb;rename_i b9 u9 k9 _;subst hr;cases u1 with
     | gk _ hh =>
      have e0:=aX.gk (k9+i.toNat * n) hh;rw[<- p6] at e0;exact⟨g,_,w,by simp only[execOp,he,Gn,Sem.run_bind,yi hd hn hb.1 hb.2,Result.andThen_ok,Sem.run_pure],⟨h,e0,λ_ _=>trivial,u2⟩⟩
    ·split at hr<;>simp only[bz,reduceCtorEq] at hr;rename_i hb;subst hr;obtain⟨c,o,rfl⟩:∃c o,cx=.pointer (some ⟨c,o,none⟩):=by cases u1;exact⟨_,_,rfl⟩
     exact⟨g,_,w,by simp only[execOp,he,Gn,Sem.run_bind,yi hd hn hb.1 hb.2,Result.andThen_ok,Sem.run_pure],⟨h,u1.CX _,λ_ _=>trivial,cZ (zev _ _) u2⟩⟩
    ·cases hr
  ·rename_i e hd;split at hr
   ·cases hr
   ·rename_i n hn;split at hr
    ·rename_i sz xs ow _;split at hr
     ·rename_i fD;have B7:n=sz:=fo fD;subst B7;split at hr
      ·cases hr
      ·rename_i hi0;split at hr<;>simp only[bz,reduceCtorEq] at hr;rename_i y hy;rw[zg] at hy;subst hr;obtain⟨ad,cap,rfl,ov,had⟩:=u1.CY;obtain⟨c,o,rfl⟩:=had (by rintro rfl;simp at hy)
       have bW:=(dA.1 hy).1
       exact⟨g,_,w,by simp only[execOp,he,Gn,Sem.run_bind,y5 hd hn (show 0<=i by omega) (show i<(xs.length:Int) by omega),Result.andThen_ok,Sem.run_pure],
        ⟨h,u1.elem hy,λ_ _=>trivial,cZ (yD y) (cZ (zn (zw hy)) u2)⟩⟩
     ·cases hr
    ·split at hr<;>simp only[bz,reduceCtorEq] at hr;rename_i hb;subst hr;cases u1;exact⟨g,_,w,by simp only[execOp,he,Gn,Sem.run_bind,y5 hd hn hb.1 hb.2,Result.andThen_ok,Sem.run_pure],⟨h,.ptr _ _,λ_ _=>trivial,u2⟩⟩
    ·split at hr<;>simp only[bz,reduceCtorEq] at hr;rename_i hb;subst hr;cases u1 with
     | dF hh =>
      exact⟨g,_,w,by simp only[execOp,he,Gn,Sem.run_bind,y5 hd hn hb.1 hb.2,Result.andThen_ok,Sem.run_pure],⟨h,.gk _ hh,λ_ _=>trivial,u2⟩⟩
    ·cases hr
  ·cases hr
 case index t x ix =>
  obtain⟨iv,hi,hr⟩:=hr;split at hr<;>try (cases hr;done)
  rename_i k i;simp only[eM] at hr;obtain⟨u,hu,hr⟩:=hr;obtain⟨u1,u2,_⟩:=zI h hu;have i1:=(zI h hi).1;generalize Gn:a.eval ix=ci at i1;cases i1;generalize he:a.eval x=cx at u1;unfold On at hr;split at hr
  ·rename_i len e hd;split at hr
   ·cases hr
   ·rename_i n hn;split at hr
    ·split at hr<;>simp only[mS,reduceCtorEq] at hr;rename_i hb;obtain⟨v',hr,rfl⟩:=hr;obtain⟨arr,rfl,ec⟩:=vj u1;obtain⟨cv,c1,c2,c3⟩:=zei (k:=k) hd hn ec hb.1 hb.2 hr w;exact⟨g,cv,w,by simp only[execOp,he,Gn,Sem.run_bind,c1,Result.andThen_ok,Sem.run_pure],⟨h,c2.bg,λ_ _=>vi _ _ _ _ _ _,by rw[jq];exact cZ c3 u2⟩⟩
    ·cases hr
  ·rename_i hd;split at hr
   ·split at hr
    ·cases hr
    ·rename_i hi0;split at hr<;>simp only[bz,reduceCtorEq] at hr;rename_i b hb;rw[zg] at hb;subst hr;cases u1 with
     | str hl =>
      exact⟨g,_,w,by simp only[execOp,he,Gn,Sem.run_bind,zfb hd hl hi0 hb,Result.andThen_ok,Sem.run_pure],⟨h,.int _ _,λ_ _=>trivial,dP _⟩⟩
   ·cases hr
  ·cases hr
 case lookup t m k ok =>
  obtain⟨ds,hd,hr⟩:=hr;split at hr<;>try (cases hr;done)
  rename_i kt e;simp only[eM] at hr;obtain⟨kd,Gp,kv,hk,hr⟩:=hr;split at hr
  ·cases hr
  next ek=>simp only[eM,bz] at hr;obtain⟨mv,hm,es,Am,⟨v',b⟩,hf,rfl⟩:=hr;exact vW h (zj3 h hd Gp (by simpa using ek) (zI h hm).1 (zI h hk).1 Am hf) rfl
 case typeAssert x xt t ok =>
  split at hr
  ·cases hr
  ·rename_i hi;simp only[eM] at hr;obtain⟨u,hu,hr⟩:=hr;obtain⟨u1,u2,_⟩:=zI h hu;generalize he:a.eval x=cx at u1;obtain⟨d,hd,Vk⟩:∃d,P.underlying t=some d/\∀ms,d≠.interface ms:=by
    unfold Sg at hi;cases hd:P.underlying t with
    | none=>simp[hd] at hi
    | some d =>
     rw[hd] at hi;exact⟨d,rfl,λms e=>by subst e;simp at hi⟩
   have cL:∀cv,(Instr.typeAssert cx xt t ok).run P w=.ok cv w->aX g v cv->v.top<=s.H.az.length->(∀sz xs e,v≠.sl sz xs (.yes e))->KI P B s a w g { dst,op:=.typeAssert x xt t ok,type,pos,after,guard } v :=
    λcv h1 h2 h3 h4=>⟨g,cv,w,by simp[execOp,he,h1],⟨h,h2,λ_ _=>ziW h4,h3⟩⟩
   have I9:∀z,qL P t=some z->ok=true->v=.bx [z,.bool false]->(∀cz,(zeroValue t).run P w=.ok cz w->(Instr.typeAssert cx xt t true).run P w=.ok (.tuple #[cz,.bool false]) w)->KI P B s a w g { dst,op:=.typeAssert x xt t ok,type,pos,after,guard } v:=by
    intro z hz ek hv Su;subst ek;subst hv;obtain⟨cz,z1,z2,z3,_⟩:=yA (g:=g) hz w;refine cL _ (Su cz z1) (.bx rfl λj x u hx hu=>?_) (by simp only[V.top,aL];omega) (λ_ _ _ e=>by cases e)
    rcases j with _|_|j
    ·simp at hx hu;subst hx;subst hu;exact z2
    ·simp at hx hu;subst hx;subst hu;exact .bool false
    ·simp at hx
   split at hr
   ·split at hr<;>simp only[eM,bz,reduceCtorEq] at hr;rename_i ek;obtain⟨z,hz,rfl⟩:=hr;cases u1;refine I9 z hz ek rfl λcz Bz=>?_;unfold Instr.typeAssert;cases d<;>first|exact absurd rfl (Vk _)|simp[run_underlying hd,Bz]
   ·rename_i ut uv _;obtain⟨cu,rfl⟩:∃cu,cx=.iface ut cu:=by cases u1;exact⟨_,rfl⟩
    have u3:aX g uv cu:=by cases u1;assumption
    split at hr
    ·rename_i Vl;simp only[bz] at hr;have Vn:ut=t:=fo Vl;subst Vn;subst hr;refine cL (if ok then .tuple #[cu,.bool true] else cu) ?_ ?_ ?_ ?_
     ·unfold Instr.typeAssert;cases d<;>first|exact absurd rfl (Vk _)|(simp[run_underlying hd])
     ·cases ok with
      | true =>
       refine .bx rfl λj x u hx hu=>?_;rcases j with _|_|j
       ·simp at hx hu;subst hx;subst hu;exact u3.bg
       ·simp at hx hu;subst hx;subst hu;exact .bool true
       ·simp at hx
      | false=>exact u3.bg
     ·have u2':uv.top<=s.H.az.length:=u2;cases ok with
      | true=>simp only[aI,V.top,aL,jq];omega
      | false=>simp only[gh,bD,jq];exact u2'
     ·cases ok with
      | true=>intro sz xs e he;simp at he
      | false=>intro sz xs e he;exact vV uv sz xs e (by simpa using he)
    ·rename_i Vl;split at hr<;>simp only[eM,bz,reduceCtorEq] at hr;rename_i ek;obtain⟨z,hz,rfl⟩:=hr;have cK:ut≠t:=λe=>Vl (by subst e;exact iV _)
     refine I9 z hz ek rfl λcz Bz=>?_;unfold Instr.typeAssert;cases d<;>first|exact absurd rfl (Vk _)|simp[run_underlying hd,cK,Bz]
   ·cases hr
 case extract x i =>
  obtain⟨u,hu,hr⟩:=hr;split at hr<;>try (cases hr;done)
  rename_i vs;split at hr<;>simp only[bz,reduceCtorEq] at hr;rename_i v' lV;subst hr;rw[zg] at lV;obtain⟨u1,u2,_⟩:=zI h hu;generalize he:a.eval x=cx at u1;cases u1 with
  | bx t1 t2 =>
   rename_i arr;have bW:i<arr.size:=by rw[<- t1];exact(dA.1 lV).1
   have dJ:arr[i]?=some arr[i]:=D_ bW;refine⟨g,arr[i],w,by simp[execOp,he,Instr.extract,dJ],⟨h,(t2 i v' _ lV dJ).bg,λ_ _=>vi _ _ _ _ _ _,?_⟩⟩
   rw[jq];exact cZ (zn (zw lV)) u2
 case buildSlice t len parts =>
  obtain⟨ds,hd,hr⟩:=hr;split at hr<;>try (cases hr;done)
  rename_i e;simp only[eM] at hr;obtain⟨n,hn,z,hz,hr⟩:=hr;split at hr
  ·cases hr
  next hc=>simp only[eM,bz] at hr;obtain⟨xs,hx,rfl⟩:=hr;exact zej h hd hn hz (Bool.eq_false_iff.2 hc) hx rfl
end
section
variable{P:aY}{B:dS}{g:Gh}{s:St}{a:Act}{w:aQ}
def Gh.var(g:Gh)(n N:Nat):Gh:={ g with bT:=λb=>if b=n then N else g.bT b }
theorem Gh.ET(g:Gh)(n N:Nat):Gh.Le n g (g.var n N):=⟨λ_ _ _ h=>h,λb hb=>by simp only[Gh.var];rw[if_neg (by omega)],rfl,λ_ _ _ _ h=>h⟩
theorem Sv{w w':aQ}{obj:Obj}(hw:w'.heap=w.heap.push obj){c:Nat}(hc:c<w.heap.size):w'.heap[c]?=w.heap[c]?:=by
 rw[hw,Array.getElem?_push,if_neg (by omega)]
theorem Vo{w w':aQ}{obj:Obj}(hw:w'.heap=w.heap.push obj):w'.heap[w.heap.size]?=some obj:=by
 rw[hw];simp
theorem gS.push(d n:Nat)(g:Gh){w w':aQ}{obj:Obj}(hw:w'.heap=w.heap.push obj)(pL:w'.os=w.os)(ht:w'.tape=w.tape)(nN:w'.output=w.output):gS d none none n g w (g.var n w.heap.size) w' :=
 ⟨g.ET n _,λc hc _ _=>Sv hw hc,λ_ _ _=>rfl,λ_ _ _ _=>rfl,by rw[hw];simp,λ_ _ _=>rfl,λl hl=>(by cases hl),λb hb=>(by cases hb),λ_ _ _ _=>rfl,pL,ht,nN⟩
theorem y6{bs An:List bq}(h:∀b,b<bs.length->An[b]?=bs[b]?){b off:Nat}(hl:ju bs b off):ju An b off:=by
 obtain⟨cs,t,sz,xs,h1,h2⟩:=hl;exact⟨cs,t,sz,xs,by rw[h b (dA.1 h1).1];exact h1,h2⟩
theorem Rel.push(h:Rel B g s a w)(bT:bq){obj:Obj}{w':aQ}(hw:w'.heap=w.heap.push obj)(pL:w'.os=w.os)(ht:w'.tape=w.tape)(nN:w'.output=w.output)
  (ek:fR (g.var s.H.az.length w.heap.size) (s.H.az.length+1) w' s.H.az.length bT) (dH:bT.top<=s.H.az.length+1):Rel B (g.var s.H.az.length w.heap.size) { s with H:=s.H.push bT } a w':=by
 have hl:(s.H.push bT).az.length=s.H.az.length+1:=by simp[Hp.push]
 have dJ:∀b,b<s.H.az.length->(s.H.push bT).az[b]?=s.H.az[b]?:=λb hb=>by simp only[Hp.push];rw[gF hb]
 have rK:(s.H.push bT).az[s.H.az.length]?=some bT:=by simp[Hp.push]
 have hv:(g.var s.H.az.length w.heap.size).bT s.H.az.length=w.heap.size:=by simp[Gh.var]
 have fD:w'.heap.size=w.heap.size+1:=by rw[hw];simp
 refine h.lf (s':={ s with H:=s.H.push bT }) (gS.push B.d s.H.az.length g hw pL ht nN) (by rw[hl];omega) (λb hb _=>dJ b hb) (λb x hb hx=>?_) (λb h1 h2=>?_) (λb b' h1 h2 h3 h4 _=>?_) (λc o v hv=>?_) (λc l hc=>?_)
  (λb j e=>by cases e) rfl rfl (λt x hx=>⟨x,hx,.inl ⟨rfl,λe=>by cases e⟩⟩) ?_ (λb off pY=>y6 dJ (h.lK b off pY)) h.oI (λ_ e=>by cases e)
 ·have dw:b=s.H.az.length:=by
   rcases hb with hb|hb
   ·cases hb
   ·have:=(dA.1 hx).1;rw[hl] at this;omega
  subst dw;rw[rK] at hx;cases hx;rw[hl];exact⟨ek,dH⟩
 ·have:b=s.H.az.length:=by rw[hl] at h2;omega
  subst this;rw[hv];refine⟨dB _,by omega,?_,λo=>?_⟩
  ·show g.own w.heap.size=none;cases ho:g.own w.heap.size with
   | none=>rfl
   | some l=>have:=h.di.eI _ _ ho;omega
  ·show g.M w.heap.size o=none;cases hm:g.M w.heap.size o with
   | none=>rfl
   | some v=>have:=vl (h.di.mem _ _ _ hm);omega
 ·rw[hl] at h2 h4;omega
 ·rw[yC (Sv hw (vl (h.di.mem c o v hv)))];exact h.di.mem c o v hv
 ·have:=h.di.eI c l hc;omega
 ·intro b x hx;rcases eY b s.H.az.length with h1|h1
  ·rw[show({ s with H:=s.H.push bT }:St).H.az[b]?=s.H.az[b]? from dJ b h1] at hx;exact h.bJ b x hx
  ·have dw:b=s.H.az.length:=by
    have:=(dA.1 hx).1;have iM:({ s with H:=s.H.push bT }:St).H.az.length=s.H.az.length+1:=hl;omega
   subst dw;rw[show({ s with H:=s.H.push bT }:St).H.az[s.H.az.length]?=some bT from rK] at hx;cases hx;exact .inl dH
theorem Rel.p8(h:Rel B g s a w){cs:aG}{arr:dR}{t:aD}(ec:bQ g cs arr.toList)(dH:aL cs<=s.H.az.length)
  (iD:∀(j:Nat)(x:V)(v:bC),cs[j]?=some x->arr[j]?=some v->cW g s.H.az.length w (.cell s.H.az.length j) x v/\∀sz xs,x≠.sl sz xs .lock) :
  Rel B (g.var s.H.az.length w.heap.size) { s with H:=s.H.push (.cells cs t) } a (w.alloc (.cells arr t)):=by
 have hw:(w.alloc (.cells arr t)).heap=w.heap.push (.cells arr t):=rfl;refine h.push (.cells cs t) hw rfl rfl rfl ⟨arr,?_,by simpa using ec.len,λj x v hx hv=>⟨ec.one j x hx,?_,?_,?_⟩⟩ (Km dH)
 ·rw[show(g.var s.H.az.length w.heap.size).bT s.H.az.length=w.heap.size by simp[Gh.var]]
  exact Vo hw
 ·exact(ec.rel j x v hx (by simpa using hv)).le (g.ET _ _) (cZ (zn (zw hx)) dH)
 ·refine cW.same (gS.push B.d s.H.az.length g hw rfl rfl rfl) (λe=>by cases e) (λb h1 h2=>?_) (iD j x v hx hv).1
  have:b=s.H.az.length:=by omega
  subst this;simp[Gh.var]
 ·have:=(iD j x v hx hv).2;cases x with
  | sl sz xs o=>cases o with
   | lock=>exact absurd rfl (this sz xs)
   | _=>trivial
  | _=>trivial
theorem xX{v:bC}{z:V}(h:aj v=some z):∀x∈z.cells,∀sz xs o,x≠.sl sz xs o:=by
 have key:∀(v:bC)(x:V),aj v=some x->∀sz xs o,x≠.sl sz xs o:=by
  intro v x h sz xs o e;subst e;unfold aj at h;split at h<;>try (simp at h;done)
  all_goals (simp only[eM] at h;obtain⟨l,_,h⟩:=h;split at h<;>simp at h)
 have keys:∀(vs:ei)(xs:aG),nF vs=some xs->∀x∈xs,∀sz ys o,x≠.sl sz ys o:=by
  intro vs
  induction vs with
  | nil=>intro xs h x hx;simp only[nF,bz] at h;subst h;simp at hx
  | cons v vs ih =>
   intro xs h x hx;simp only[nF] at h;split at h<;>simp only[bz,reduceCtorEq] at h;rename_i y ys hy th;subst h;rcases dM.1 hx with rfl|hx
   ·exact key v _ hy
   ·exact ih ys th x hx
 intro x hx
 by_cases ha:∃cs,z=.agg cs
 ·obtain⟨cs,rfl⟩:=ha;unfold aj at h;split at h<;>try (simp at h;done)
  simp only[eM] at h;obtain⟨l,hl,h⟩:=h;split at h<;>simp only[bz,reduceCtorEq,V.agg.injEq] at h;subst h;exact keys _ _ hl x hx
 ·have:z.cells=[z]:=by cases z<;>first|rfl|exact absurd ⟨_,rfl⟩ ha
  rw[this] at hx;simp at hx;subst hx;exact key v _ h
theorem y7{env dh:aG}{x:a_}{v:V}(h:take env x=some (v,dh)):∀sz xs,v≠.sl sz xs .lock:=by
 intro sz xs e;subst e;cases x with
 | tmp t =>
  simp only[take,eP] at h;split at h<;>simp only[bz,cq,reduceCtorEq] at h
  ·obtain⟨h,_⟩:=h;simp at h
  ·obtain⟨h,_⟩:=h;rename_i y _ _ _;cases y<;>simp[bg] at h
 | const c =>
  simp only[take,ak,mS,cq] at h;obtain⟨u,hu,rfl,_⟩:=h;exact xX hu (.sl sz xs .lock) (by simp[V.cells]) sz xs .lock rfl
 | global k=>simp[take,ak] at h
 | func f=>simp[take,ak] at h
theorem ziY{v:V}(h:dD v=true):(∃cs,v=.agg cs/\v.laid=cs.map bg)\/(v.one=true/\v.laid=[v]/\v.cells=[v]):=by
 cases v<;>first
  |exact .inl ⟨_,rfl,rfl⟩
  |exact .inr ⟨rfl,rfl,rfl⟩
  |(simp[dD] at h)
theorem Vp{n b off:Nat}{v:V}{cv:bC}(hr:aX g v cv)(hc:dD v=true)(ho:cW g n w (.cell b off) v cv)(lp:∀sz xs,v≠.sl sz xs .lock)(dH:v.top<=n) :
  bQ g v.laid cv.cells.toList/\aL v.laid<=n/\∀(j:Nat)(x:V)(u:bC),v.laid[j]?=some x->cv.cells[j]?=some u->cW g n w (.cell b (off+j)) x u/\∀sz xs,x≠.sl sz xs .lock:=by
 have ec:=vn hr hc;rcases ziY hc with⟨cs,rfl,hl⟩|⟨h1,hl,Gq⟩
 ·rw[hl];refine⟨ec.uU,by rw[eR];exact dH,λj x u hx hu=>?_⟩
  simp only[mu,mS] at hx;obtain⟨y,_,rfl⟩:=hx;exact⟨vi _ _ _ _ _ _,λsz xs e=>by cases y<;>simp[bg] at e⟩
 ·rw[hl];rw[Gq] at ec;refine⟨ec,by simp only[aL];omega,λj x u hx hu=>?_⟩
  cases j with
  | zero =>
   simp at hx;subst hx;have e:cv.cells=#[cv]:=by
    have:=hr.nY h1;cases cv<;>first
     |rfl
     |(simp[Value.oneCell'] at this)
   rw[e] at hu;simp at hu;subst hu;exact⟨ho,lp⟩
  | succ j=>simp at hx
end
section
variable{P:aY}{B:dS}{g:Gh}{s:St}{a:Act}{w:aQ}
theorem qH{α:Type}:∀(vs cs:List α)(off j:Nat),off+vs.length<=cs.length->(storeCells cs off vs)[j]?=if off<=j/\j<off+vs.length then vs[j - off]? else cs[j]?
 | [],cs,off,j,_=>by
  have:¬(off<=j/\j<off+0):=by omega
  simp[storeCells];intro h1 h2;omega
 | v::vs,cs,off,j,h=>by
  simp only[storeCells];rw[qH vs (cs.set off v) (off+1) j (by simp at h ⊢;omega)]
  simp only[bh] at h ⊢
  by_cases h1:j=off
  ·subst h1;have:¬(j+1<=j/\j<j+1+vs.length):=by omega
   have h2:j<=j/\j<j+(vs.length+1):=by omega
   simp only[if_neg this,if_pos h2,Dt];rw[BO (by omega)]
   rfl
  ·by_cases h2:off+1<=j/\j<off+1+vs.length
   ·have h3:off<=j/\j<off+(vs.length+1):=by omega
    rw[if_pos h2,if_pos h3];have:j - off=(j - (off+1))+1:=by omega
    rw[this];rfl
   ·have h3:¬(off<=j/\j<off+(vs.length+1)):=by omega
    rw[if_neg h2,if_neg h3,r8 (by omega)]
theorem Vq{lk:aP}{b:Nat}:∀{n off:Nat}{cs:aG},wr lk b off n cs=true->∀j x,j<n->cs[j]?=some x->locked x=true->(b,off+j)∈lk
 | 0,_,_,_,j,x,hj,_,_=>by omega
 | n+1,off,[],h,j,x,_,hx,_=>by simp at hx
 | n+1,off,c::cs,h,j,x,hj,hx,pY=>by
  simp only[wr,eF,tf,Gb] at h;cases j with
  | zero =>
   simp at hx;subst hx;rcases h.1 with h1|h1
   ·rw[pY] at h1;cases h1
   ·obtain⟨p,hp,h2⟩:=List.any_eq_true.1 h1;simp only[eF,Nat.beq_eq] at h2;obtain⟨h3,h4⟩:=h2;cases p;simp only at h3 h4;subst h3;subst h4;simpa using hp
  | succ j =>
   have:=Vq h.2 j x (by omega) (by simpa using hx) pY
   rw[show off+(j+1)=off+1+j by omega]
   exact this
theorem Rel.write(h:Rel B g s a w){b:Nat}{x0 x:bq}{v:V}{l:aP}{w':aQ}{N:Nat}(hN:N=g.bT b)(hb:s.H.get b=some x0)(oJ:∀c,c≠N->w'.heap[c]?=w.heap[c]?)(fD:w'.heap.size=w.heap.size)(pL:w'.os=w.os)(ht:w'.tape=w.tape)(nN:w'.output=w.output)
  (ek:fR g s.H.az.length w' b x) (dH:x.top<=s.H.az.length) (gJ:x.top<=b+1\/x.top<=v.top\/x.top<=x0.top\/x.top<=max x0.top v.top)
  (pY:∀off,Dx B b off->∃cs t sz xs,x=.cells cs t/\cs[off]?=some (.sl sz xs .lock)) (hl:∀p∈l,¬Dx B p.1 p.2) :
  Rel B g { s with H:=(s.H.set b x).bU b v,lk:=l } a w':=by
 subst hN;simp only[Hp.get,zg] at hb;have lM:b<s.H.az.length:=(dA.1 hb).1;have m9:((s.H.set b x).bU b v).az=s.H.az.set b x:=by
  simp only[Hp.bU,Hp.set];split<;>rfl
 have hlen:((s.H.set b x).bU b v).az.length=s.H.az.length:=by rw[m9];simp
 have iN:gS B.d (some b) none s.H.az.length g w g w' :=
  ⟨.refl _ _,λc _ hc _=>oJ c (λe=>hc b rfl e.symm),λ_ _ _=>rfl,λ_ _ _ _=>rfl,by omega,λ_ _ _=>rfl,λl hl=>(by cases hl),λb' dw=>(by cases dw;exact lM),λ_ _ _ _=>rfl,pL,ht,nN⟩
 refine h.lf (s':={ s with H:=(s.H.set b x).bU b v,lk:=l }) iN (by rw[hlen];exact dB _) (λb' dw cK=>?_) (λb' y Hl hy=>?_) (λb' h1 h2=>?_) (λb1 b2 h1 h2=>?_) (λc o u hu=>?_) (λc l hc=>?_)
  (λb j e=>by cases e) rfl rfl (λt y hy=>⟨y,hy,.inl ⟨rfl,λe=>by cases e⟩⟩) (λb' y hy=>?_) (λb' off Ho=>?_) hl (λ_ e=>by cases e)
 ·rw[m9,r8 (λe=>cK (by rw[e]))]
 ·have dw:b'=b:=by
   rcases Hl with Hl|Hl
   ·cases Hl;rfl
   ·have:=(dA.1 hy).1;rw[hlen] at this;omega
  subst dw;rw[m9,BO lM] at hy;cases hy;rw[hlen];exact⟨ek,dH⟩
 ·rw[hlen] at h2;omega
 ·rw[hlen] at h2;omega
 ·have hc:c≠g.bT b:=by rintro rfl;rw[h.di.apart b lM o] at hu;cases hu
  rw[yC (oJ c hc)];exact h.di.mem c o u hu
 ·have:=h.di.eI c l hc;omega
 ·rw[show({ s with H:=(s.H.set b x).bU b v,lk:=l }:St).H.az=s.H.az.set b x from m9] at hy;have dI:∀p∈s.H.bJ,p∈((s.H.set b x).bU b v).bJ:=by
   intro p hp;simp only[Hp.bU,Hp.set];split
   ·exact hp
   ·exact eo _ hp
  by_cases e:b'=b
  ·subst e;rw[BO lM] at hy;cases hy;have Gr:=h.bJ b' x0 hb;have hv:v.top<=b'+1\/(b',v.top)∈((s.H.set b' x).bU b' v).bJ:=by
    simp only[Hp.bU,Hp.set];split
    next h1=>exact .inl h1
    ·exact .inr (fy ..)
   have old:∀k,k<=x0.top->k<=b'+1\/(∃m,(b',m)∈((s.H.set b' x).bU b' v).bJ/\k<=m)\/∃y:bq,B.bs[b']?=some y/\k<=y.top:=by
    intro k hk;rcases Gr with h1|⟨m,h1,h2⟩|⟨y,h1,h2⟩
    ·exact .inl (cZ hk h1)
    ·exact .inr (.inl ⟨m,dI _ h1,cZ hk h2⟩)
    ·exact .inr (.inr ⟨y,h1,cZ hk h2⟩)
   have new:∀k,k<=v.top->k<=b'+1\/(∃m,(b',m)∈((s.H.set b' x).bU b' v).bJ/\k<=m)\/∃y:bq,B.bs[b']?=some y/\k<=y.top:=by
    intro k hk;rcases hv with h1|h1
    ·exact .inl (cZ hk h1)
    ·exact .inr (.inl ⟨_,h1,hk⟩)
   rcases gJ with h1|h1|h1|h1
   ·exact .inl h1
   ·exact new _ h1
   ·exact old _ h1
   ·rcases Nat.le_total x0.top v.top with h2|h2
    ·rw[Nat.max_eq_right h2] at h1;exact new _ h1
    ·rw[Nat.max_eq_left h2] at h1;exact old _ h1
  ·rw[r8 (λe'=>e e'.symm)] at hy;rcases h.bJ b' y hy with h1|⟨m,h1,h2⟩|h1
   ·exact .inl h1
   ·exact .inr (.inl ⟨m,dI _ h1,h2⟩)
   ·exact .inr (.inr h1)
 ·rw[show({ s with H:=(s.H.set b x).bU b v,lk:=l }:St).H.az=s.H.az.set b x from m9]
  by_cases e:b'=b
  ·subst e;obtain⟨cs,t,sz,xs,h1,h2⟩:=pY off Ho;exact⟨cs,t,sz,xs,by rw[BO lM,h1],h2⟩
  ·obtain⟨cs,t,sz,xs,h1,h2⟩:=h.lK b' off Ho;exact⟨cs,t,sz,xs,by rw[r8 (λe'=>e e'.symm)];exact h1,h2⟩
theorem y8{vs cs:aG}{off:Nat}:aL (storeCells cs off vs)<=max (aL cs) (aL vs):=vD (Ds _ _) (G5 _ _)
theorem zk4(h:Rel B g s a w){t:aD}{p x:a_}{b off n:Nat}{v:V}{dh:aG}{cs:aG}{ty:aD}(hp:ak s.env p=some (.ptr b off))(ht:take s.env x=some (v,dh))(hn:z4 P t=some n)
  (hb:s.H.get b=some (.cells cs ty)) (ek:dD v=true) (hl:v.laid.length=n) (hle:off+n<=cs.length) (oV:wr s.lk b off n (cs.drop off)=true) :
  ∃g' w',(Instr.storeAt t (a.eval p) (a.eval x)).run P w=.ok () w'/\Rel B g' { s with env:=dh,H:=(s.H.set b (.cells (storeCells cs off v.laid) ty)).bU b v } a w':=by
 obtain⟨p1,p2,_⟩:=zI h hp;generalize Oz:a.eval p=cp at p1;cases p1;obtain⟨g',h1,v1,v2,v3,sF⟩:=vJ h ht (.cell b off);have dw:({ s with env:=dh }:St).H.get b=some (.cells cs ty):=hb;obtain⟨arr,a1,a2,a3,a4⟩:=xj h1 dw;obtain⟨l1,l2,l3⟩:=Vp v1 ek v2 (y7 ht) v3;have oz:cs.length=arr.size:=by have:=a2.len;simpa using this
 have nO:(a.eval x).cells.size=n:=by rw[<- hl,l1.len];simp
 have ou:g'.bT b=g.bT b:=by rw[sF.bT]
 have lM:b<s.H.az.length:=by simp only[Hp.get,zg] at hb;exact(dA.1 hb).1
 have nq:arr.toList.take off++(a.eval x).cells.toList++arr.toList.drop (off+(a.eval x).cells.toList.length)=storeCells arr.toList off (a.eval x).cells.toList:=by
  have oW:arr.toList=arr.toList.take off++(arr.toList.drop off).take n++arr.toList.drop (off+n):=by
   rw[bp,<- List.drop_drop,Ea,Ea]
  have hlen:(arr.toList.take off).length=off:=by simp;omega
  have:=kS (a.eval x).cells.toList ((arr.toList.drop off).take n) (arr.toList.take off) (arr.toList.drop (off+n)) (by simp;omega)
  rw[hlen,<- oW] at this;rw[this];simp[nO]
 have cL:(Instr.storeAt t (.pointer (some ⟨g.bT b,off,none⟩)) (a.eval x)).run P w=.ok () (w.setRow (g.bT b) (storeCells arr.toList off (a.eval x).cells.toList).toArray):=by
  have fe:=run_storeCells_at P (g.bT b) off ty (a.eval x).cells.toList 0 arr w (by rw[<- ou];exact a1) (by simp;omega) (λu hu=>by
   obtain⟨j,hj⟩:=List.getElem?_of_mem hu;have sC:j<v.laid.length:=by rw[l1.len];exact(dA.1 hj).1
   have hx:=gG sC
   exact(l1.rel j _ u hx hj).nY (l1.one j _ hx))
  simp only[om] at fe;rw[nq] at fe;unfold Instr.storeAt storeVar;simp[Instr.sureAddr,jA hn,nO,fe]
 refine⟨g',_,cL,?_⟩;have B8:(w.setRow (g.bT b) (storeCells arr.toList off (a.eval x).cells.toList).toArray).heap[g'.bT b]?=some (.cells (storeCells arr.toList off (a.eval x).cells.toList).toArray ty (0,0)):=by
  rw[ou];exact setRow_heap w _ _ _ ty _ (by rw[<- ou];exact a1)
 have iN:gS B.d (some b) none s.H.az.length g' w g' (w.setRow (g.bT b) (storeCells arr.toList off (a.eval x).cells.toList).toArray) :=
  ⟨.refl _ _,λc _ hc _=>setRow_other w _ c _ (λe=>hc b rfl (by rw[ou,e])),λ_ _ _=>rfl,λ_ _ _ _=>rfl,by simp[World.setRow],λ_ _ _=>rfl,λl hl=>(by cases hl),λb' dw=>(by cases dw;exact lM),λ_ _ _ _=>rfl,rfl,rfl,rfl⟩
 have key:=Rel.write (l:=s.lk) (v:=v) h1 (b:=b) (x0:=.cells cs ty) (x:=.cells (storeCells cs off v.laid) ty) (N:=g.bT b) ou.symm dw (λc hc=>setRow_other w _ c _ hc) (by simp[World.setRow]) rfl rfl rfl
  ⟨_,B8,by simp[kB,oz],λj y u hy hu=>?_⟩ (vD a3 l2) (.inr (.inr (.inr (cZ y8 (tw.2 ⟨Ds _ _,?_⟩))))) (λo iB=>?_) h.oI
 ·exact key
 ·have fe:=a2.store off l1;have hr:=fe.rel j y u hy (by simpa using hu)
  refine⟨fe.one j y hy,hr,?_,?_⟩
  ·rw[qH _ _ _ _ (by omega)] at hy
   have nD:(storeCells arr.toList off (a.eval x).cells.toList)[j]?=some u:=by simpa using hu
   rw[qH _ _ _ _ (by rw[AG,AG,nO,<- oz];exact hle)] at nD
   by_cases hj:off<=j/\j<off+v.laid.length
   ·rw[if_pos hj] at hy;rw[if_pos (by simp[nO];omega)] at nD
    have:=(l3 (j - off) y u hy (by simpa using nD)).1
    rw[show off+(j - off)=j by omega] at this
    exact cW.same iN (λe=>by cases e) (λb1 h2 h3=>absurd (show b1<s.H.az.length from h3) (Nat.not_lt.2 h2)) this
   ·rw[if_neg hj] at hy;rw[if_neg (by simp[nO];omega)] at nD
    exact cW.same iN (λe=>by cases e) (λb1 h2 h3=>absurd (show b1<s.H.az.length from h3) (Nat.not_lt.2 h2)) (a4 j y u hy (by simpa using nD)).1
  ·rw[qH _ _ _ _ (by omega)] at hy
   have nD:(storeCells arr.toList off (a.eval x).cells.toList)[j]?=some u:=by simpa using hu
   rw[qH _ _ _ _ (by rw[AG,AG,nO,<- oz];exact hle)] at nD
   by_cases hj:off<=j/\j<off+v.laid.length
   ·rw[if_pos hj] at hy;rw[if_pos (by simp[nO];omega)] at nD
    have:=(l3 (j - off) y u hy (by simpa using nD)).2
    cases y with
    | sl sz xs o=>cases o with
     | lock=>exact absurd rfl (this sz xs)
     | _=>trivial
    | _=>trivial
   ·rw[if_neg hj] at hy;rw[if_neg (by simp[nO];omega)] at nD
    exact(a4 j y u hy (by simpa using nD)).2
 ·have:aL v.laid<=v.top:=by
   rcases ziY ek with⟨cs',rfl,e⟩|⟨_,e,_⟩
   ·rw[e,eR];exact dB _
   ·rw[e];simp[aL]
  exact cZ this (G5 _ _)
 ·obtain⟨Vr,t2,sz,xs,c1,c2⟩:=h.lK b o iB;have mX:s.H.az[b]?=some (.cells cs ty):=by simpa[Hp.get,zg] using hb
  rw[mX] at c1;cases c1;refine⟨_,_,sz,xs,rfl,?_⟩;rw[qH _ _ _ _ (by omega)]
  by_cases hj:off<=o/\o<off+v.laid.length
  ·have:=Vq oV (o - off) (.sl sz xs .lock) (by omega) (by rw[G4,show off+(o - off)=o by omega];exact c2) rfl
   rw[show off+(o - off)=o by omega] at this
   exact absurd iB (h.oI _ this)
  ·rw[if_neg hj];exact c2
end
end Go.Vm
