/- Vm: calls, and the heap that a body makes; Vm: where no type of lists lives in the heap; Vm: equations that ask the types' tables; and what follows from it. Conditions: none but those that each theorem names. -/
import Derived.Test.YtlnijcffanjieaaGreatDoorVmD
namespace Go.Vm
open Go
variable {P:Program} {gl:Gl}
def Fin (P:Program) (rs:List ResultVar) (n0:Nat) (es:List (Nat×Nat)) (out:Out) (H':Hp):Ex->St->Prop
 | .normal,⟨env,H,_,df⟩|.ret,⟨env,H,_,df⟩=>df=[]/\∃ vs,zM P H env rs=some vs/\out=.ret (tupOf vs)/\H'=q9 n0 es (tupOf vs).top H
 | .pan v,⟨_,H,_,df⟩=>df=[]/\out=.pan v/\H'=q9 n0 es v.top H
 | _,_=>False
theorem yy {n:Nat} {f:FuncId} {fn:Func} {body:Code} {args:List V} {bs:List Blk} {es:List (Nat×Nat)} {out:Out} {H':Hp} (hk:gl.hk f args=none) (hk2:∀ H,gl.hk2 n f args H=none) (hf:P.funcs[f]?=some fn) (hb:fn.body=some body)
  (h:W ⟨P,gl,zx P gl n,gl.uq⟩ n body ⟨args++List.replicate (fn.ntmps - args.length) (.tup []),⟨bs++[],[]⟩,[],[]⟩ (Fin P fn.results.toList bs.length es out H')):zx P gl (n+1) f args ⟨bs,es⟩=some (out,H'):=by
 obtain ⟨ex,⟨env,H,lk,df⟩,h1,h2⟩:=h;rw [zA0] at h1;simp only [zx,hk,hk2,hf,hb,qP,fL_eq,h1];cases ex<;>simp only [Fin] at h2
 ·obtain ⟨rfl,vs,h3,h4,h5⟩:=h2;simp [endOf,yV,wc,dropMarks,h3,h4,h5,zO,kA]
 ·obtain ⟨rfl,vs,h3,h4,h5⟩:=h2;simp [endOf,yV,wc,dropMarks,h3,h4,h5,zO,kA]
 ·obtain ⟨rfl,h4,h5⟩:=h2;simp [endOf,yV,wc,dropMarks,h4,h5,kA]
theorem qq {bs ls:List Blk} {es:List (Nat×Nat)} {t:Nat} (ht:t<=bs.length):q9 bs.length es t ⟨bs++ls,[]⟩=⟨bs,es⟩:=by
 have:Nat.ble t bs.length=true:=zBp ht;simp [q9,this]
theorem get_at {bs ls:List Blk} {es:List (Nat×Nat)} {k:Nat}:Hp.get ⟨bs++ls,es⟩ (bs.length+k)=nth ls k:=by
 simp only [Hp.get,zq];rw [zAf (by omega)]
 congr 1
 omega
theorem get_at0 {bs ls:List Blk} {es:List (Nat×Nat)}:Hp.get ⟨bs++ls,es⟩ bs.length=nth ls 0:=get_at (k:=0)
theorem get_old {bs ls:List Blk} {es:List (Nat×Nat)} {k:Nat} (h:k<bs.length):Hp.get ⟨bs++ls,es⟩ k=nth bs k:=by
 simp only [Hp.get,zq];rw [zAe h]
theorem set_at {bs ls:List Blk} {es:List (Nat×Nat)} {k:Nat} {x:Blk}:Hp.set ⟨bs++ls,es⟩ (bs.length+k) x=⟨bs++ls.set k x,es⟩:=by
 simp only [Hp.set];rw [zBH _ _ (by omega)]
 congr 3
 omega
theorem set_at0 {bs ls:List Blk} {es:List (Nat×Nat)} {x:Blk}:Hp.set ⟨bs++ls,es⟩ bs.length x=⟨bs++ls.set 0 x,es⟩:=set_at (k:=0)
theorem kq {H:Hp} {b:Nat} {v:V} (h:v.top=0):Hp.edge H b v=H:=by
 simp [Hp.edge,h]
theorem zf {α:Type} {x:α} {xs:List α}:nth (x::xs) 0=some x:=rfl
theorem zm {α:Type} {x:α} {xs:List α} {n:Nat}:nth (x::xs) (n+1)=nth xs n:=rfl
end Go.Vm
namespace Go.Vm
open Go
variable {takes:List Tmp}
def wL (takes:List Tmp) (o:Oper):Bool :=
 match o.op with
 | .alloc _|.box ..|.store ..|.makeMap ..|.makeSlice ..|.mapUpdate ..|.insert ..|.range ..|.next ..|.defer _|.panic _=>true
 | .load ..=>match o.dst with
  | some d=>takes.any (Nat.beq d)
  | none=>false
 | .call c=>match c.callee with
  | .builtin .copy=>true
  | .builtin _=>false
  | _=>true
 | _=>false
def zdP (o:Oper):Bool :=
 match o.op with
 | .load ..|.lookup ..|.call _=>true
 | _=>false
abbrev NoU (gl:Gl):Prop:=Nonempty ((∀ e,gl.uq e=false)/\∀ n f args H,gl.hk2 n f args H=none)
theorem NoU.out {gl:Gl} [h:NoU gl]:∀ e,gl.uq e=false:=h.elim And.left
theorem NoU.out2 {gl:Gl} [h:NoU gl]:∀ n f args H,gl.hk2 n f args H=none:=h.elim And.right
theorem zcQ {P:Program} {uq:TypeId->Bool} (hu:∀ e,uq e=false) (t:TypeId):uqT P uq t=false:=by
 unfold uqT;split
 ·exact hu _
 ·rfl
theorem y7 {P:Program} {uq:TypeId->Bool} (hu:∀ e,uq e=false) (o:Oper):qF P uq takes o=wL takes o:=by
 obtain ⟨dst,op,type,pos,after,guard⟩:=o;cases op<;>try rfl
 case slice t x lo hi mx=>cases mx<;>simp [qF,wL,zcQ hu]
 case call c =>
  cases hc:c.callee<;>simp [qF,wL,hc];rename_i b;cases b<;>simp;split<;>simp [zcQ hu]
theorem zhd {P:Program} {uq:TypeId->Bool} (hu:∀ e,uq e=false) (o:Oper):wy P uq o=zdP o:=by
 obtain ⟨dst,op,type,pos,after,guard⟩:=o;cases op<;>try rfl
 case slice t x lo hi mx=>cases mx<;>simp [wy,zdP,zcQ hu]
theorem ye {α:Type} {f:α->Bool}:∀ {l:List α},(∀ x∈l,f x=true)->jS f l=true
 | [],_=>rfl
 | y::l,h=>by simp only [jS,h y (zAL ..),ye fun x hx=>h x (zAE _ hx)]
end Go.Vm
namespace Go.Vm
open Go
variable {cx:Cx} {n:Nat} {takes:List Tmp} {P:Program} {gl:Nat->Nat->Option V} {dst:Option Tmp} {type:TypeId} {pos:String} {after:Array Edge} {guard:Option (Nat×Bool)} {env:List V} {H:Hp} {lk:List (Nat×Nat)} {df:List (V×List V)}
def qG (P:Program) (t:TypeId) (f:Nat):Option Nat :=
 match P.underlying t with
 | some (.struct fs)=>match fs[f]? with
  | some fd=>match qc P fd.type with
   | some m=>if Nat.beq m 0 then none else some fd.offset
   | none=>none
  | none=>none
 | _=>none
def zad (v:Option V):Option Nat->Option V
 | some off=>v.bind (zX off)
 | none=>none
theorem zu {v:Option V} {off:Nat}:zad v (some off)=v.bind (zX off):=rfl
theorem zn {t:TypeId} {x:Operand} {f:Nat}:cx.op takes ⟨dst,.fieldAddr t x f,type,pos,after,guard⟩ env H lk df=rdQ env H lk df (zad (peek env x) (qG cx.P t f)):=by
 unfold qG;cases h1:cx.P.underlying t with
 | none=>simp [Cx.op,qj,h1,zad,rdQ]
 | some d =>
  cases d<;>try (simp [Cx.op,qj,h1,zad,rdQ];done)
  rename_i fs;cases h2:fs[f]? with
  | none=>simp [Cx.op,qj,h1,h2,zad,rdQ]
  | some fd =>
   cases h3:qc cx.P fd.type with
   | none=>simp [Cx.op,qj,h1,h2,h3,zad,rdQ]
   | some m =>
    cases m with
    | zero=>simp [Cx.op,qj,h1,h2,h3,zad,rdQ]
    | succ m=>rw [zfY h1 h2 h3 rfl];simp [zad,h2,h3]
def fieldAt (P:Program) (t:TypeId) (f:Nat):Option (TypeId×Nat) :=
 match P.underlying t with
 | some (.struct fs)=>(fs[f]?).map fun fd=>(fd.type,fd.offset)
 | _=>none
def zcp (P:Program) (v:Option V):Option (TypeId×Nat)->Option V
 | some (t,off)=>v.bind fun v=>match v with|.agg cs=>(jU P t cs off).map clr|_=>none
 | none=>none
theorem zhe {v:Option V} {t off:Nat}:zcp P v (some (t,off))=v.bind fun v=>match v with|.agg cs=>(jU P t cs off).map clr|_=>none:=rfl
theorem zkj {t:TypeId} {x:Operand} {f:Nat}:cx.op takes ⟨dst,.field t x f,type,pos,after,guard⟩ env H lk df=rdQ env H lk df (zcp cx.P (peek env x) (fieldAt cx.P t f)):=by
 unfold fieldAt;cases h1:cx.P.underlying t with
 | none=>simp [Cx.op,qj,h1,zcp,rdQ]
 | some d =>
  cases d<;>try (simp [Cx.op,qj,h1,zcp,rdQ];done)
  rename_i fs;cases h2:fs[f]? with
  | none=>simp [Cx.op,qj,h1,h2,zcp,rdQ]
  | some fd =>
   rw [zlv h1 h2];simp only [h2,zAC,zcp]
   try rfl
def zcR (cs:List V) (off:Nat):Option Bool->Option Nat->Option V
 | some true,some n=>if off+n<=cs.length then some (.agg ((cs.drop off).take n)) else none
 | some false,_=>nth cs off
 | _,_=>none
theorem wE {t:TypeId} {cs:List V} {off:Nat}:jU P t cs off=zcR cs off (jG P t) (qc P t):=by
 unfold jU;cases jG P t with
 | none=>rfl
 | some b =>
  cases b with
  | false=>simp [zcR]
  | true=>cases qc P t<;>simp [zcR]
theorem zda {cs:List V} {off:Nat} {s:Option Nat}:zcR cs off (some false) s=nth cs off:=by cases s<;>rfl
theorem zfZ {cs:List V} {off n:Nat}:zcR cs off (some true) (some n)=if off+n<=cs.length then some (.agg ((cs.drop off).take n)) else none:=rfl
def zi2 (P:Program) (t:TypeId) (off:Nat):Option Blk->Option V
 | some (.cells cs _)=>jU P t cs off
 | _=>none
theorem xy {t u:TypeId} {off:Nat} {cs:List V}:zi2 P t off (some (.cells cs u))=jU P t cs off:=rfl
theorem zaH {t:TypeId} {b off:Nat}:zJ P H gl t (.ptr b off)=zi2 P t off (H.get b):=by
 cases h:H.get b with
 | none=>simp [zJ,h,zi2]
 | some x=>cases x<;>simp [zJ,h,zi2]
theorem zhf {t:TypeId} {cs:List V}:zJ P H gl t (.vp cs)=jU P t cs 0:=rfl
theorem zoG {c:Code} {s:St} {Q:Ex->St->Prop} (Inv:Nat->St->Prop) (k:Nat) (hk:k<n) (h0:Inv k s) (hstep:∀ j s,Inv j s->W cx n c s (thn (fun s'=>∃ i,i<j/\Inv i s') Q)):W cx n (.loop c) s Q:=by
 unfold W;simp only [Cx.code];have key:∀ (m:Nat) (s:St) (j:Nat),j<m->Inv j s->∃ ex s',yq (cx.code n c) m s=some (ex,s')/\Q ex s':=by
  intro m
  induction m with
  | zero=>intro s j h;omega
  | succ m ih =>
   intro s j hj hI;obtain ⟨ex,s1,h1,h2⟩:=hstep j s hI;simp only [yq,h1];cases ex with
   | normal =>
    obtain ⟨i,hi,hI'⟩:=h2;exact ih s1 i (by omega) hI'
   | _=>exact ⟨_,_,rfl,h2⟩
 exact key n s k hk h0
end Go.Vm
namespace Go.Vm
open Go
variable {cx:Cx} {n:Nat} {all:Array Oper} {takes:List Tmp} {dst:Option Tmp} {op:Op} {type:TypeId} {pos:String} {after:Array Edge} {os:List Oper} {env env1 env2:List V} {H H1:Hp} {lk lk1:List (Nat×Nat)} {df df1:List (V×List V)} {v:V} {Q:Ex->St->Prop}
theorem znc {P:Program} {t:TypeId} {x y:Operand} {k:IntKind} {a b:Int}:kD P .add t x y (some (.int k a)) (some (.int k b))=some (.int k (k.wrap (a+b))):=by simp [kD,jN,w8,vv]
theorem jj {P:Program} {t:TypeId} {x y:Operand} {k:IntKind} {a b:Int}:kD P .eql t x y (some (.int k a)) (some (.int k b))=some (.bool (a == b)):=by simp [kD,jN,kU,w8,vv]
theorem vQ {P:Program} {t:TypeId} {x y:Operand} {k:IntKind} {a b:Int}:kD P .lss t x y (some (.int k a)) (some (.int k b))=some (.bool (a<b)):=by simp [kD,jN,w8,vv]
theorem zbL {P:Program} {t:TypeId} {x y:Operand} {k:IntKind} {a b:Int}:kD P .gtr t x y (some (.int k a)) (some (.int k b))=some (.bool (a > b)):=by simp [kD,jN,w8,vv]
theorem zt {d:Tmp} {t:TypeId} {a:Operand} {guard:Option (Nat×Bool)}:cx.op [] ⟨some d,.load t a,type,pos,after,guard⟩ env H lk df=rdQ env H lk df (((peek env a).bind (zJ cx.P H cx.gl t)).map clr):=zbJ rfl
theorem zk {d:Tmp} {x:Operand} {guard:Option (Nat×Bool)}:cx.op [] ⟨some d,.move x,type,pos,after,guard⟩ env H lk df=rdQ env H lk df (peek env x):=zfX rfl
theorem zv {k:IntKind} {n:Int}:clr (.int k n)=.int k n:=rfl
theorem zh {b:Bool}:clr (.bool b)=.bool b:=rfl
theorem kP {s:List Nat}:clr (.str s)=.str s:=rfl
theorem qA {s:List V}:clr (.agg s)=.agg s:=rfl
theorem yL {s:List V}:clr (.vp s)=.vp s:=rfl
theorem kw {s:List V}:clr (.tup s)=.tup s:=rfl
theorem zp {a b:Nat}:clr (.ptr a b)=.ptr a b:=rfl
theorem clr_snil:clr .snil=.snil:=rfl
theorem clr_nili:clr .nili=.nili:=rfl
theorem za8 {sz:Nat} {xs:List V} {o:Own}:clr (.sl sz xs o)=.sl sz xs .no:=rfl
theorem zT {t:TypeId} {v:V}:clr (.ifc t v)=.ifc t v:=rfl
theorem zly {f:Fn} {a b:List V}:clr (.fn f a b)=.fn f a b:=rfl
theorem zhg {l:List V} {d:Nat} {v:V} (h:nth l d=some v):l.set d v=l:=by
 rw [zq] at h;apply List.ext_getElem?;intro t;rw [List.getElem?_set'];split
 ·rename_i e;subst e;rw [h];rfl
 ·rfl
end Go.Vm
namespace Go.Vm.Sx
open Go Go.Vm
mutual
inductive TI where
 |var (i:Nat)|lit (n:Int)|bin (op:BinOp) (k:IntKind) (a b:TI)|conv (k:IntKind) (a:TI)|len (l:TL)|slen (s:TS)|byte (s:TS) (i:TI)|ite (c:TB) (a b:TI)
inductive TB where
 |var (i:Nat)|lit (b:Bool)|not (a:TB)|and (a b:TB)|or (a b:TB)|ite (c a b:TB)|beq (a b:TB)|cmp (op:BinOp) (a b:TI)|scmp (op:BinOp) (a b:TS)|nili (i:Nat)|nill (i:Nat)|own (i:Nat) (e:TypeId)|rights (i:Nat)|room (l:TL) (n:Nat)|sroom (a b:TS)
inductive TS where
 |var (i:Nat)|lit (l:List Nat)|cat (a b:TS)|sub (s:TS) (lo hi:TI)|ofL (l:TL)
inductive TL where
 |var (i:Nat)|nil|snoc (l:TL) (i:Nat)|cat (a b:TL)|sub (l:TL) (lo hi:TI)|ofS (s:TS)
end
inductive C where
 |k (v:V)|v (i:Nat) (cl:Bool)|i (kd:IntKind) (t:TI)|b (t:TB)|s (t:TS)|sl (sz:Nat) (t:TL) (o:Own)|p (a off:Nat)|lkd (i:Nat)
inductive SC where
 |one (c:C)|agg (cs:List C)
inductive SV where
 |val (x:SC)|vp (cs:List C)|tup (xs:List SC)|gd (c:TB) (x:SC)|unk|fn (f:Fn) (cs:List C)
inductive CK where
 |raw|any|int (k:IntKind)|bool|str|sl (sz:Nat)|ifc
 deriving DecidableEq
inductive VE where
 |sc (x:SC)|app (c:C) (sz:Nat) (e:TypeId) (l:TL)|slc (i:Nat) (lo hi:TI)|ifc (t:TypeId) (x:SC)|tup (xs:List SC)
inductive AS where
 |d (x:SC)|p (j off:Nat)
inductive AV where
 |d (x:V)|p (j off:Nat)
inductive Tree where
 |out (vs:List C)
 |esc (t:Tree)
 |ite (c:TB) (a b:Tree)
 |need (c:TB) (t:Tree)
 |letv (e:VE) (t:Tree)
 |elem (l:TL) (i:TI) (t:Tree)
 |sel (cs:List C) (i:TI) (t:Tree)
 |opn (i:Nat) (ks:List CK) (t:Tree)
 |unt (i:Nat) (ks:List CK) (t:Tree)
 |kin (i:Nat) (k:CK) (t:Tree)
 |byt (l:TL) (t:Tree)
 |glob (g off:Nat) (t:Tree)
 |call (f:FuncId) (args:List AS) (lent:List (List C×TypeId)) (ks:List CK) (t:Tree)
 |loop (ini:List C) (body:Tree)
 |blk (body t:Tree)
def at' (ρ:List V) (i:Nat):V:=match nth ρ i with|some v=>v|none=>.junk
def vI:V->Int|.int _ n=>n|_=>0
def vB:V->Bool|.bool b=>b|_=>false
def vS:V->List Nat|.str s=>s|_=>[]
def vL:V->List V|.sl _ xs _=>xs|_=>[]
def biI (op:BinOp) (k:IntKind) (x y:Int):Int :=
 match op with
 | .add=>k.wrap (x+y)
 | .sub=>k.wrap (x - y)
 | .mul=>k.wrap (x * y)
 | .quo=>k.wrap (x.tdiv y)
 | .rem=>x.tmod y
 | .and=>k.wrap ((BitVec.ofInt k.bits x &&& BitVec.ofInt k.bits y).toNat)
 | .or=>k.wrap ((BitVec.ofInt k.bits x ||| BitVec.ofInt k.bits y).toNat)
 | .xor=>k.wrap ((BitVec.ofInt k.bits x ^^^ BitVec.ofInt k.bits y).toNat)
 | .andNot=>k.wrap ((BitVec.ofInt k.bits x &&& ~~~ (BitVec.ofInt k.bits y)).toNat)
 | .shl=>k.wrap (x * 2 ^ (min y.toNat k.bits))
 | .shr=>x.fdiv (2 ^ (min y.toNat k.bits))
 | _=>0
def cmI (op:BinOp) (x y:Int):Bool :=
 match op with
 | .eql=>x == y
 | .neq=>x != y
 | .lss=>x<y
 | .leq=>x<=y
 | .gtr=>x > y
 | .geq=>x ≥ y
 | _=>false
def cmS (op:BinOp) (x y:List Nat):Bool :=
 match op with
 | .eql=>eqL x y
 | .neq=>!(eqL x y)
 | .lss=>ltL x y
 | .leq=>ltL x y || eqL x y
 | .gtr=>!(ltL x y || eqL x y)
 | .geq=>!(ltL x y)
 | _=>false
def zlz (s:List Nat) (i:Int):Int:=match nth s i.toNat with|some b=>(b:Int)|none=>0
def isNili:V->Bool|.nili=>true|_=>false
def isNill:V->Bool|.snil=>true|_=>false
def zpv (e:TypeId):V->Bool|.snil=>true|.sl _ _ (.yes e')=>Nat.beq e e'|_=>false
def rightsV:V->Bool|.snil=>true|.sl _ _ (.yes _)=>true|_=>false
mutual
def evI (ρ:List V):TI->Int
 | .var i=>vI (at' ρ i)
 | .lit n=>n
 | .bin op k a b=>biI op k (evI ρ a) (evI ρ b)
 | .conv k a=>k.wrap (evI ρ a)
 | .len l=>((evL ρ l).length:Int)
 | .slen s=>((evS ρ s).length:Int)
 | .byte s i=>zlz (evS ρ s) (evI ρ i)
 | .ite c a b=>bif evB ρ c then evI ρ a else evI ρ b
def evB (ρ:List V):TB->Bool
 | .var i=>vB (at' ρ i)
 | .lit b=>b
 | .not a=>!(evB ρ a)
 | .and a b=>evB ρ a && evB ρ b
 | .or a b=>evB ρ a || evB ρ b
 | .ite c a b=>bif evB ρ c then evB ρ a else evB ρ b
 | .beq a b=>evB ρ a == evB ρ b
 | .cmp op a b=>cmI op (evI ρ a) (evI ρ b)
 | .scmp op a b=>cmS op (evS ρ a) (evS ρ b)
 | .nili i=>isNili (at' ρ i)
 | .nill i=>isNill (at' ρ i)
 | .own i e=>zpv e (at' ρ i)
 | .rights i=>rightsV (at' ρ i)
 | .room l n=>kh (evL ρ l).length n
 | .sroom a b=>Nat.ble ((evS ρ a).length+(evS ρ b).length) 140737488355328
def evS (ρ:List V):TS->List Nat
 | .var i=>vS (at' ρ i)
 | .lit l=>l
 | .cat a b=>evS ρ a++evS ρ b
 | .sub s lo hi=>((evS ρ s).take (evI ρ hi).toNat).drop (evI ρ lo).toNat
 | .ofL l=>match bytesA (evL ρ l) with|some s=>s|none=>[]
def evL (ρ:List V):TL->List V
 | .var i=>vL (at' ρ i)
 | .nil=>[]
 | .snoc l i=>evL ρ l++[at' ρ i]
 | .cat a b=>evL ρ a++evL ρ b
 | .sub l lo hi=>((evL ρ l).take (evI ρ hi).toNat).drop (evI ρ lo).toNat
 | .ofS s=>(evS ρ s).map fun (b:Nat)=>.int .u8 b
end
def pd (pa:List Nat) (a:Nat):Nat:=match nth pa a with|some b=>b|none=>0
def lockV:V->V|.sl sz xs _=>.sl sz xs .lock|v=>v
def evC (ρ:List V) (pa:List Nat):C->V
 | .k v=>v
 | .v i true=>clr (at' ρ i)
 | .v i false=>at' ρ i
 | .i k t=>.int k (evI ρ t)
 | .b t=>.bool (evB ρ t)
 | .s t=>.str (evS ρ t)
 | .sl sz t o=>.sl sz (evL ρ t) o
 | .p a off=>.ptr (pd pa a) off
 | .lkd i=>lockV (at' ρ i)
def zr (ρ:List V) (pa:List Nat):List C->List V
 | []=>[]
 | c::cs=>evC ρ pa c::zr ρ pa cs
def zC (ρ:List V) (pa:List Nat):SC->V
 | .one c=>evC ρ pa c
 | .agg cs=>.agg (zr ρ pa cs)
def kT (ρ:List V) (pa:List Nat):List SC->List V
 | []=>[]
 | c::cs=>zC ρ pa c::kT ρ pa cs
def jt (ρ:List V) (pa:List Nat):SV->Option V
 | .val x=>some (zC ρ pa x)
 | .vp cs=>some (.vp (zr ρ pa cs))
 | .tup xs=>some (.tup (kT ρ pa xs))
 | .gd c x=>some (bif evB ρ c then zC ρ pa x else .tup [])
 | .unk=>none
 | .fn f cs=>some (.fn f [] (zr ρ pa cs))
def kOk:CK->V->Bool
 | .raw,_=>true
 | .any,v=>oneV v && !(locked v)
 | .int k,.int k' _=>if k=k' then true else false
 | .bool,.bool _=>true
 | .str,.str _=>true
 | .sl _,.snil=>true
 | .sl sz,.sl sz' xs o=>Nat.beq sz sz' && !(locked (.sl sz' xs o))
 | .ifc,.nili=>true
 | .ifc,.ifc _ _=>true
 | _,_=>false
def ksOk:List CK->List V->Bool
 | [],[]=>true
 | k::ks,v::vs=>kOk k v && ksOk ks vs
 | _,_=>false
def zhh (v:V) (sz:Nat) (e:TypeId) (ys:List V):V :=
 match v with
 | .snil=>match ys with
  | []=>.snil
  | ys=>.sl sz ys (.yes e)
 | .sl _ xs _=>.sl sz (xs++ys) (.yes e)
 | _=>.junk
def zil (v:V) (lo hi:Int):V :=
 match v with
 | .snil=>.snil
 | .sl sz xs _=>.sl sz ((xs.take hi.toNat).drop lo.toNat) .no
 | _=>.junk
def qR (ρ:List V):VE->V
 | .sc x=>zC ρ [] x
 | .app c sz e l=>zhh (evC ρ [] c) sz e (evL ρ l)
 | .slc i lo hi=>zil (at' ρ i) (evI ρ lo) (evI ρ hi)
 | .ifc t x=>.ifc t (zC ρ [] x)
 | .tup xs=>.tup (kT ρ [] xs)
def xS {α:Type} (step:α->Option (Nat×α)):Nat->α->Option (Nat×α)
 | 0,_=>none
 | n+1,a=>match step a with
  | none=>none
  | some (0,a)=>xS step n a
  | some (j+1,a)=>some (j,a)
def evA (ρ:List V):AS->AV
 | .d x=>.d (zC ρ [] x)
 | .p j off=>.p j off
def kX (ρ:List V):List AS->List AV
 | []=>[]
 | x::xs=>evA ρ x::kX ρ xs
def qD (ρ:List V):List (List C×TypeId)->List (List V×TypeId)
 | []=>[]
 | (cs,t)::r=>(zr ρ [] cs,t)::qD ρ r
def joinL:List (List V)->List V
 | []=>[]
 | l::r=>l++joinL r
def sizesOk:List (List C×TypeId)->List (List V)->Bool
 | [],[]=>true
 | (cs,_)::r,l::ls=>Nat.beq cs.length l.length && sizesOk r ls
 | _,_=>false
def evT (pc:FuncId->List AV->List (List V×TypeId)->Option (V×List (List V))) (gl:Nat->Nat->Option V) (N:Nat):Tree->List V->Option (Nat×List V)
 | .out vs,ρ=>some (0,zr ρ [] vs)
 | .esc t,ρ=>match evT pc gl N t ρ with
  | some (j,vs)=>some (j+1,vs)
  | none=>none
 | .ite c a b,ρ=>bif evB ρ c then evT pc gl N a ρ else evT pc gl N b ρ
 | .need c t,ρ=>bif evB ρ c then evT pc gl N t ρ else none
 | .letv e t,ρ=>evT pc gl N t (ρ++[qR ρ e])
 | .elem l i t,ρ=>if evI ρ i<0 then none else match nth (evL ρ l) (evI ρ i).toNat with
  | some v=>evT pc gl N t (ρ++[v])
  | none=>none
 | .sel cs i t,ρ=>if evI ρ i<0 then none else match nth (zr ρ [] cs) (evI ρ i).toNat with
  | some v=>evT pc gl N t (ρ++[v])
  | none=>none
 | .opn i ks t,ρ=>match at' ρ i with
  | .agg cs=>bif ksOk ks cs then evT pc gl N t (ρ++cs) else none
  | _=>none
 | .unt i ks t,ρ=>match at' ρ i with
  | .tup cs=>bif ksOk ks cs then evT pc gl N t (ρ++cs) else none
  | _=>none
 | .kin i k t,ρ=>bif kOk k (at' ρ i) then evT pc gl N t ρ else none
 | .byt l t,ρ=>match bytesA (evL ρ l) with
  | some s=>evT pc gl N t (ρ++[.str s])
  | none=>none
 | .glob g off t,ρ=>match gl g off with
  | some v=>evT pc gl N t (ρ++[v])
  | none=>none
 | .call f args lent ks t,ρ=>match pc f (kX ρ args) (qD ρ lent) with
  | some (v,out)=>bif sizesOk lent out && ksOk ks (joinL out) then evT pc gl N t (ρ++(v::joinL out)) else none
  | none=>none
 | .loop ini body,ρ=>xS (fun vs=>evT pc gl N body (ρ++vs)) N (zr ρ [] ini)
 | .blk body t,ρ=>match evT pc gl N body ρ with
  | some (0,vs)=>evT pc gl N t (ρ++vs)
  | some (j+1,vs)=>some (j,vs)
  | none=>none
mutual
def smI:TI->TI->Bool
 | .var i,.var j=>Nat.beq i j
 | .lit a,.lit b=>a == b
 | .bin op k a b,.bin op' k' a' b'=>(if op=op' then true else false) && (if k=k' then true else false) && smI a a' && smI b b'
 | .conv k a,.conv k' a'=>(if k=k' then true else false) && smI a a'
 | .len a,.len a'=>smL a a'
 | .slen a,.slen a'=>smS a a'
 | .byte a b,.byte a' b'=>smS a a' && smI b b'
 | .ite c a b,.ite c' a' b'=>smB c c' && smI a a' && smI b b'
 | _,_=>false
def smB:TB->TB->Bool
 | .var i,.var j=>Nat.beq i j
 | .lit a,.lit b=>a == b
 | .not a,.not b=>smB a b
 | .and a b,.and a' b'=>smB a a' && smB b b'
 | .or a b,.or a' b'=>smB a a' && smB b b'
 | .beq a b,.beq a' b'=>smB a a' && smB b b'
 | .ite c a b,.ite c' a' b'=>smB c c' && smB a a' && smB b b'
 | .cmp op a b,.cmp op' a' b'=>(if op=op' then true else false) && smI a a' && smI b b'
 | .scmp op a b,.scmp op' a' b'=>(if op=op' then true else false) && smS a a' && smS b b'
 | .nili i,.nili j=>Nat.beq i j
 | .nill i,.nill j=>Nat.beq i j
 | _,_=>false
def smS:TS->TS->Bool
 | .var i,.var j=>Nat.beq i j
 | .lit a,.lit b=>eqL a b
 | .cat a b,.cat a' b'=>smS a a' && smS b b'
 | .sub a b c,.sub a' b' c'=>smS a a' && smI b b' && smI c c'
 | .ofL a,.ofL b=>smL a b
 | _,_=>false
def smL:TL->TL->Bool
 | .var i,.var j=>Nat.beq i j
 | .nil,.nil=>true
 | .snoc a i,.snoc b j=>smL a b && Nat.beq i j
 | .cat a b,.cat a' b'=>smL a a' && smL b b'
 | .sub a b c,.sub a' b' c'=>smL a a' && smI b b' && smI c c'
 | .ofS a,.ofS b=>smS a b
 | _,_=>false
end
def smC:C->C->Bool
 | .k v,.k w=>V.same v w
 | .v i a,.v j b=>Nat.beq i j && (a == b)
 | .i k t,.i k' t'=>(if k=k' then true else false) && smI t t'
 | .b t,.b t'=>smB t t'
 | .s t,.s t'=>smS t t'
 | .sl a t o,.sl a' t' o'=>Nat.beq a a' && smL t t' && (if o=o' then true else false)
 | .p a b,.p a' b'=>Nat.beq a a' && Nat.beq b b'
 | .lkd i,.lkd j=>Nat.beq i j
 | _,_=>false
mutual
def ltI (m:Nat):TI->Bool
 | .var i=>Nat.blt i m
 | .lit _=>true
 | .bin _ _ a b=>ltI m a && ltI m b
 | .conv _ a=>ltI m a
 | .len l=>zbM m l
 | .slen s=>ltS m s
 | .byte s i=>ltS m s && ltI m i
 | .ite c a b=>ltB m c && ltI m a && ltI m b
def ltB (m:Nat):TB->Bool
 | .var i=>Nat.blt i m
 | .lit _=>true
 | .not a=>ltB m a
 | .and a b=>ltB m a && ltB m b
 | .or a b=>ltB m a && ltB m b
 | .beq a b=>ltB m a && ltB m b
 | .ite c a b=>ltB m c && ltB m a && ltB m b
 | .cmp _ a b=>ltI m a && ltI m b
 | .scmp _ a b=>ltS m a && ltS m b
 | .nili i=>Nat.blt i m
 | .nill i=>Nat.blt i m
 | .own i _=>Nat.blt i m
 | .rights i=>Nat.blt i m
 | .room l _=>zbM m l
 | .sroom a b=>ltS m a && ltS m b
def ltS (m:Nat):TS->Bool
 | .var i=>Nat.blt i m
 | .lit _=>true
 | .cat a b=>ltS m a && ltS m b
 | .sub s a b=>ltS m s && ltI m a && ltI m b
 | .ofL l=>zbM m l
def zbM (m:Nat):TL->Bool
 | .var i=>Nat.blt i m
 | .nil=>true
 | .snoc l i=>zbM m l && Nat.blt i m
 | .cat a b=>zbM m a && zbM m b
 | .sub l a b=>zbM m l && ltI m a && ltI m b
 | .ofS s=>ltS m s
end
def ltC (m:Nat):C->Bool
 | .k _=>true
 | .v i _=>Nat.blt i m
 | .i _ t=>ltI m t
 | .b t=>ltB m t
 | .s t=>ltS m t
 | .sl _ t _=>zbM m t
 | .p _ _=>true
 | .lkd i=>Nat.blt i m
end Go.Vm.Sx
namespace Go.Vm.Sx
open Go Go.Vm
structure Sg where
 env:List SV
 blks:List (Nat×List C×TypeId)
 na:Nat
 ks:List CK
 lk:List (Nat×Nat)
 as:List TB
 nf:Nat
def qB (takes:List Tmp):Option Tmp->Bool
 | some d=>takes.any (Nat.beq d)
 | none=>false
def yM {α:Type} (f:α->Bool):List α->Bool
 | []=>false
 | x::xs=>match f x with|true=>true|false=>yM f xs
def za9 (as:List TB):TB->Option Bool
 | .lit b=>some b
 | .not a=>match za9 as a with
  | some b=>some (!b)
  | none=>if yM (smB (.not a)) as then some true else none
 | .and a b=>match za9 as a,za9 as b with
  | some true,some true=>some true
  | some false,_=>some false
  | _,some false=>some false
  | _,_=>if yM (smB (.and a b)) as then some true else if yM (smB (.not (.and a b))) as then some false else none
 | t=>if yM (smB t) as then some true else if yM (smB (.not t)) as then some false else none
def mkNot:TB->TB|.lit b=>.lit !b|.not a=>a|t=>.not t
def addAs0:TB->List TB->List TB
 | .and a b,as=>.and a b::addAs0 a (addAs0 b as)
 | .not (.or a b),as=>.not (.or a b)::mkNot a::mkNot b::as
 | t,as=>t::as
def propag:List TB->List TB->List TB
 | as,[]=>as
 | as,.not (.and a b)::r=>match za9 as a,za9 as b with
  | some true,none=>propag (mkNot b::as) r
  | none,some true=>propag (mkNot a::as) r
  | _,_=>propag as r
 | as,_::r=>propag as r
def yz (t:TB) (as:List TB):List TB:=propag (addAs0 t as) (addAs0 t as)
def zae (a b:TB):TB :=
 match a with
 | .lit true=>b
 | .lit false=>.lit false
 | _=>match b with
  | .lit true=>a
  | .lit false=>.lit false
  | _=>.and a b
def zlA (a b:TB):TB :=
 match a with
 | .lit true=>.lit true
 | .lit false=>b
 | _=>match b with
  | .lit true=>.lit true
  | .lit false=>a
  | _=>.or a b
def zlB (c a b:TB):TB :=
 match smB c a with
 | true=>zlA c b
 | false=>match smB c b with
  | true=>zae c a
  | false=>match a,b with
   | .lit true,b=>zlA c b
   | a,.lit false=>zae c a
   | .lit false,b=>zae (mkNot c) b
   | a,.lit true=>zlA (mkNot c) a
   | a,b=>.ite c a b
def tup0:SV:=.val (.one (.k (.tup [])))
def clrC:C->C
 | .sl sz t _=>.sl sz t .no
 | .v i _=>.v i true
 | .lkd i=>.v i true
 | .k v=>.k (clr v)
 | c=>c
def clrSC:SC->SC|.one c=>.one (clrC c)|.agg cs=>.agg cs
def clrSV:SV->SV|.val x=>.val (clrSC x)|x=>x
def cC:V->C
 | .int k n=>.i k (.lit n)
 | .bool b=>.b (.lit b)
 | .str s=>.s (.lit s)
 | v=>.k v
def cCs:List V->List C
 | []=>[]
 | v::vs=>cC v::cCs vs
def cSC:V->SC
 | .agg cs=>.agg (cCs cs)
 | v=>.one (cC v)
def zi3 (as:List TB):SV->Option SV
 | .gd c x=>match za9 as c with
  | some true=>some (.val x)
  | some false=>some tup0
  | none=>none
 | .unk=>none
 | sv=>some sv
def slot (σ:Sg) (t:Tmp):Option SV :=
 match nth σ.env t with
 | some sv=>zi3 σ.as sv
 | none=>none
def pk (σ:Sg):Operand->Option SV
 | .tmp t=>match slot σ t with
  | some sv=>some (clrSV sv)
  | none=>none
 | .const v=>match ofVal v with
  | some v=>some (.val (cSC v))
  | none=>none
 | _=>none
def pkC (σ:Sg) (x:Operand):Option C :=
 match pk σ x with
 | some (.val (.one c))=>some c
 | _=>none
def asI (ks:List CK):C->Option (IntKind×TI)
 | .i k t=>some (k,t)
 | .v i _=>match nth ks i with
  | some (.int k)=>some (k,.var i)
  | _=>none
 | .k (.int k n)=>some (k,.lit n)
 | _=>none
def asB (ks:List CK):C->Option TB
 | .b t=>some t
 | .v i _=>match nth ks i with
  | some .bool=>some (.var i)
  | _=>none
 | .k (.bool b)=>some (.lit b)
 | _=>none
def asS (ks:List CK):C->Option TS
 | .s t=>some t
 | .v i _=>match nth ks i with
  | some .str=>some (.var i)
  | _=>none
 | .k (.str l)=>some (.lit l)
 | _=>none
def asL (ks:List CK) (sz:Nat):C->Option TL
 | .sl sz' t _=>if Nat.beq sz sz' then some t else none
 | .v i _=>match nth ks i with
  | some (.sl sz')=>if Nat.beq sz sz' then some (.var i) else none
  | _=>none
 | .k .snil=>some .nil
 | _=>none
def pkI (σ:Sg) (x:Operand):Option (IntKind×TI):=match pkC σ x with|some c=>asI σ.ks c|none=>none
def pkB (σ:Sg) (x:Operand):Option TB:=match pkC σ x with|some c=>asB σ.ks c|none=>none
def pkS (σ:Sg) (x:Operand):Option TS:=match pkC σ x with|some c=>asS σ.ks c|none=>none
def zaf (P:Program) (t:TypeId) (cs:List C) (off:Nat):Option SC :=
 match jG P t with
 | some true=>match qc P t with
  | some n=>if off+n<=cs.length then some (.agg ((cs.drop off).take n)) else none
  | none=>none
 | some false=>match nth cs off with
  | some c=>some (.one c)
  | none=>none
 | none=>none
def jv (a:Nat):List (Nat×List C×TypeId)->Option (List C×TypeId)
 | []=>none
 | (b,x)::r=>if Nat.beq a b then some x else jv a r
def zdQ (a:Nat) (cs:List C):List (Nat×List C×TypeId)->List (Nat×List C×TypeId)
 | []=>[]
 | (b,x,t)::r=>if Nat.beq a b then (b,cs,t)::r else (b,x,t)::zdQ a cs r
def isCmp:BinOp->Bool
 | .eql|.neq|.lss|.leq|.gtr|.geq=>true
 | _=>false
def isTot:BinOp->Bool
 | .add|.sub|.mul|.and|.or|.xor|.andNot=>true
 | _=>false
def zoH (ks:List CK) (ds:TypeDesc) (x y:C):Option TB :=
 match ds with
 | .bool=>match asB ks x,asB ks y with
  | some a,some b=>some (.beq a b)
  | _,_=>none
 | .int _=>match asI ks x,asI ks y with
  | some (k,a),some (k',b)=>if k=k' then some (.cmp .eql a b) else none
  | _,_=>none
 | .string=>match asS ks x,asS ks y with
  | some a,some b=>some (.scmp .eql a b)
  | _,_=>none
 | _=>none
def zi4 (P:Program) (eq:TypeId->SC->SC->Option TB):List Field->List C->List C->Option TB
 | [],_,_=>some (.lit true)
 | f::fs,xs,ys =>
  if f.name= "_" then none else
  match zaf P f.type xs f.offset,zaf P f.type ys f.offset with
  | some a,some b=>match eq f.type a b,zi4 P eq fs xs ys with
   | some t,some r=>some (zae t r)
   | _,_=>none
  | _,_=>none
def zi5 (P:Program) (eq:TypeId->SC->SC->Option TB) (e:TypeId) (n:Nat) (xs ys:List C):Nat->Nat->Option TB
 | _,0=>some (.lit true)
 | i,k+1 =>
  match zaf P e xs (i * n),zaf P e ys (i * n) with
  | some a,some b=>match eq e a b,zi5 P eq e n xs ys (i+1) k with
   | some t,some r=>some (zae t r)
   | _,_=>none
  | _,_=>none
def zlC (P:Program) (ks:List CK):Nat->TypeId->SC->SC->Option TB
 | 0,_,_,_=>none
 | d+1,t,x,y=>match P.underlying t with
  | none=>none
  | some ds=>match x,y with
   | .agg xs,.agg ys=>match ds with
    | .struct fs=>if P.stoodInHeld t then none else zi4 P (zlC P ks d) fs.toList xs ys
    | .array len e=>match qc P e with
     | some n=>zi5 P (zlC P ks d) e n xs ys 0 len
     | none=>none
    | _=>none
   | .one x,.one y=>zoH ks ds x y
   | _,_=>none
def znd (P:Program) (σ:Sg) (t:TypeId) (x y:Operand) (u v:SV):Option TB :=
 match u,v with
 | .val (.agg a),.val (.agg b)=>if P.eqGuardType P.depth t then none else zlC P σ.ks 100 t (.agg a) (.agg b)
 | .val (.one a),.val (.one b) =>
  match asI σ.ks a,asI σ.ks b with
  | some (k,a),some (k',b)=>if k=k' then some (.cmp .eql a b) else none
  | _,_=>match asS σ.ks a,asS σ.ks b with
   | some a,some b=>some (.scmp .eql a b)
   | _,_=>match P.underlying t with
    | some .bool=>match asB σ.ks a,asB σ.ks b with
     | some a,some b=>some (.beq a b)
     | _,_=>none
    | some (.interface _)=>match a,b with
     | .v i _,.k .nili=>match nth σ.ks i,isConst y with
      | some .ifc,true=>some (.nili i)
      | _,_=>none
     | .k .nili,.v i _=>match nth σ.ks i,isConst x with
      | some .ifc,true=>some (.nili i)
      | _,_=>none
     | .k .nili,.k .nili=>if isConst x || isConst y then some (.lit true) else none
     | _,_=>none
    | some (.pointer _)=>match a,b with
     | .p _ _,.k .nilp=>some (.lit false)
     | .k .nilp,.p _ _=>some (.lit false)
     | .k .nilp,.k .nilp=>some (.lit true)
     | _,_=>none
    | _=>none
 | _,_=>none
def zoI (P:Program) (σ:Sg) (op:BinOp) (t:TypeId) (x y:Operand):Option SV :=
 match pk σ x,pk σ y with
 | some u,some v =>
  match op with
  | .eql=>match znd P σ t x y u v with
   | some b=>some (.val (.one (.b b)))
   | none=>none
  | .neq=>match znd P σ t x y u v with
   | some b=>some (.val (.one (.b (mkNot b))))
   | none=>none
  | _=>match u,v with
   | .val (.one a),.val (.one b)=>match asI σ.ks a,asI σ.ks b with
    | some (k,a),some (k',b)=>match isTot op,isCmp op,(if k=k' then true else false) with
     | true,_,true=>some (.val (.one (.i k (.bin op k a b))))
     | _,true,true=>some (.val (.one (.b (.cmp op a b))))
     | _,_,_=>none
    | _,_=>match asS σ.ks a,asS σ.ks b with
     | some a,some b=>if isCmp op then some (.val (.one (.b (.scmp op a b)))) else none
     | _,_=>none
   | _,_=>none
 | _,_=>none
def ckT (P:Program) (t:TypeId):Option CK :=
 match P.underlying t with
 | some (.int k)=>some (.int k)
 | some .bool=>some .bool
 | some .string=>some .str
 | some (.slice e)=>match qc P e with
  | some n=>some (.sl n)
  | none=>none
 | some (.interface _)=>some .ifc
 | some _=>some .any
 | none=>none
def layR:Nat->List CK->List CK
 | 0,_=>[]
 | n+1,l=>l++layR n l
def zog (lay:TypeId->Option (List CK)):List Field->Option (List CK)
 | []=>some []
 | f::fs=>match lay f.type,zog lay fs with
  | some a,some b=>some (a++b)
  | _,_=>none
def zlD (P:Program):Nat->TypeId->Option (List CK)
 | 0,_=>none
 | d+1,t=>match P.underlying t with
  | some (.struct fs)=>zog (zlD P d) fs.toList
  | some (.array n e)=>match zlD P d e with
   | some l=>some (layR n l)
   | none=>none
  | _=>match ckT P t with
   | some k=>some [k]
   | none=>none
def lits:List CK->Nat->List C
 | [],_=>[]
 | _::ks,i=>.v i false::lits ks (i+1)
def xz (P:Program) (σ:Sg) (t:TypeId) (i:Nat) (k:Sg->SC->Option Tree):Option Tree :=
 match jG P t with
 | some true=>match zlD P 20 t with
  | some ks=>match k { σ with ks:=σ.ks++ks } (.agg (lits ks σ.ks.length)) with
   | some t=>some (.opn i ks t)
   | none=>none
  | none=>none
 | some false=>match ckT P t with
  | some ck=>match k { σ with ks:=σ.ks.set i ck } (.one (.v i false)) with
   | some t=>some (.kin i ck t)
   | none=>none
  | none=>none
 | none=>none
def cellsSC:SC->List C|.one c=>[c]|.agg cs=>cs
def clrCs:List C->List C
 | []=>[]
 | c::cs=>clrC c::clrCs cs
def laidSC:SC->List C|.one c=>[c]|.agg cs=>clrCs cs
def zag (ks:List CK):C->Bool
 | .k v=>Nat.beq v.top 0 && !(locked v)
 | .v i _=>match nth ks i with|some .any=>true|some (.int _)=>true|some .bool=>true|some .str=>true|some (.sl _)=>true|some .ifc=>true|_=>false
 | .i _ _|.b _|.s _=>true
 | .sl _ _ .lock=>false
 | .sl _ _ _=>true
 | _=>false
def wQ (ks:List CK):List C->Bool
 | []=>true
 | c::cs=>zag ks c && wQ ks cs
def zba (ks:List CK):SC->Bool
 | .one c=>zag ks c
 | .agg cs=>wQ ks cs
def zdb (ks:List CK):List SC->Bool
 | []=>true
 | c::cs=>zba ks c && zdb ks cs
def zoJ (ks:List CK):C->Bool
 | .k v=>oneV v
 | .v i _=>match nth ks i with|some .any=>true|some (.int _)=>true|some .bool=>true|some .str=>true|some (.sl _)=>true|some .ifc=>true|_=>false
 | .lkd _=>false
 | _=>true
def zkk (ks:List CK):SC->Bool
 | .one c=>zoJ ks c
 | .agg _=>true
def zhi (σ:Sg) (cells:List C) (place:Nat->Option (Nat×Nat)):List (Nat×Operand)->Option (List C)
 | []=>some cells
 | (i,x)::r=>match pk σ x,place i with
  | some (.val v),some (off,n)=>if zkk σ.ks v && Nat.beq (cellsSC v).length n && Nat.ble (off+n) cells.length then zhi σ (storeCells cells off (cellsSC v)) place r else none
  | _,_=>none
def zim (P:Program) (σ:Sg) (t:TypeId) (parts:List (Nat×Operand)):Option (List C) :=
 match qi P t with
 | some (.agg z)=>match P.underlying t with
  | some (.struct fs)=>match zft P fs with
   | some ps=>zhi σ (cCs z) (nth ps) parts
   | none=>none
  | some (.array _ e)=>match P.info? e with
   | some ie=>zhi σ (cCs z) (fun i=>some (i * ie.size,ie.size)) parts
   | none=>none
  | _=>none
 | _=>none
def zcS (P:Program) (σ:Sg) (o:Op):Option SV :=
 match o with
 | .move x=>pk σ x
 | .pick c a b=>match pkB σ c with
  | none=>none
  | some t=>match za9 σ.as t with
   | some true=>pk σ a
   | some false=>pk σ b
   | none=>match pkC { σ with as:=yz t σ.as } a,pkC { σ with as:=yz (mkNot t) σ.as } b with
    | some a,some b=>match asB σ.ks a,asB σ.ks b with
     | some a,some b=>some (.val (.one (.b (zlB t a b))))
     | _,_=>match asI σ.ks a,asI σ.ks b with
      | some (k,a),some (k',b)=>if k=k' then some (.val (.one (.i k (.ite t a b)))) else none
      | _,_=>none
    | _,_=>none
 | .build t parts=>match zim P σ t parts.toList with
  | some cs=>some (.val (.agg cs))
  | none=>none
 | .load t a=>match pk σ a with
  | some (.vp cs)=>match zaf P t cs 0 with
   | some x=>some (.val (clrSC x))
   | none=>none
  | some (.val (.one (.p a off)))=>match jv a σ.blks with
   | some (cs,_)=>match zaf P t cs off with
    | some x=>some (.val (clrSC x))
    | none=>none
   | none=>none
  | _=>none
 | .nilCheck x=>match pk σ x with
  | some (.vp cs)=>some (.vp cs)
  | some (.val (.one (.p a off)))=>some (.val (.one (.p a off)))
  | _=>none
 | .binOp op t x y _=>zoI P σ op t x y
 | .unOp op _ x=>match op,pkC σ x with
  | .neg,some c=>match asI σ.ks c with
   | some (k,t)=>some (.val (.one (.i k (.bin .sub k (.lit 0) t))))
   | none=>none
  | .not,some c=>match asB σ.ks c with
   | some t=>some (.val (.one (.b (mkNot t))))
   | none=>none
  | _,_=>none
 | .convert a b x=>match P.underlying a,P.underlying b,pkC σ x with
  | some _,some (.int k),some c=>match asI σ.ks c with
   | some (_,t)=>some (.val (.one (.i k (.conv k t))))
   | none=>none
  | some .string,some .string,some c=>match asS σ.ks c with
   | some t=>some (.val (.one (.s t)))
   | none=>none
  | some .string,some (.slice e),some c=>match P.underlying e,asS σ.ks c with
   | some (.int .u8),some t=>some (.val (.one (.sl 1 (.ofS t) .no)))
   | _,_=>none
  | _,_,_=>none
 | .fieldAddr t x f=>match qG P t f,pk σ x with
  | some off,some (.vp cs)=>some (.vp (cs.drop off))
  | some off,some (.val (.one (.p a o)))=>some (.val (.one (.p a (o+off))))
  | _,_=>none
 | .field t x f=>match fieldAt P t f,pk σ x with
  | some (ft,off),some (.val (.agg cs))=>match zaf P ft cs off with
   | some x=>some (.val (clrSC x))
   | none=>none
  | _,_=>none
 | .indexAddr t x ix=>match P.underlying t,pkI σ ix with
  | some (.array len e),some (_,.lit (.ofNat i))=>match qc P e,pk σ x with
   | some n,some (.vp cs)=>if Nat.blt i len then some (.vp (cs.drop (i * n))) else none
   | some n,some (.val (.one (.p a off)))=>if Nat.blt i len then some (.val (.one (.p a (off+i * n)))) else none
   | _,_=>none
  | _,_=>none
 | .index t x ix=>match P.underlying t,pkI σ ix with
  | some (.array len e),some (_,.lit (.ofNat i))=>match qc P e,pk σ x with
   | some n,some (.val (.agg cs))=>if Nat.blt i len then (match zaf P e cs (i * n) with
    | some x=>some (.val (clrSC x))
    | none=>none) else none
   | _,_=>none
  | _,_=>none
 | .extract x i=>match pk σ x with
  | some (.tup xs)=>match nth xs i with
   | some x=>some (.val (clrSC x))
   | none=>none
  | _=>none
 | .call c=>match c.callee,c.args.toList,c.argTypes.toList with
  | .builtin .len,[x],[t]=>match P.underlying t,pkC σ x with
   | some .string,some c=>match asS σ.ks c with
    | some s=>some (.val (.one (.i .i64 (.slen s))))
    | none=>none
   | some (.slice e),some c=>match qc P e with
    | some n=>match asL σ.ks n c with
     | some l=>some (.val (.one (.i .i64 (.len l))))
     | none=>none
    | none=>none
   | _,_=>none
  | .builtin .min,[x,y],_=>match pkI σ x,pkI σ y with
   | some (k,a),some (k',b)=>if k=k' then some (.val (.one (.i k (.ite (.cmp .lss b a) b a)))) else none
   | _,_=>none
  | .builtin .max,[x,y],_=>match pkI σ x,pkI σ y with
   | some (k,a),some (k',b)=>if k=k' then some (.val (.one (.i k (.ite (.cmp .gtr b a) b a)))) else none
   | _,_=>none
  | _,_,_=>none
 | _=>none
abbrev KT:=Sg->SV->Option Tree
def vF (c:TB) (t:Option Tree):Option Tree :=
 match c with
 | .lit true=>t
 | c=>match t with
  | some t=>some (.need c t)
  | none=>none
def zkl (e:VE) (t:Option Tree):Option Tree:=match t with|some t=>some (.letv e t)|none=>none
def noYesSC:SC->Bool|.one (.k (.sl _ _ _))=>false|_=>true
def yA (σ:Sg) (x:Operand) (k:Sg->SC->Option Tree):Option Tree :=
 match x with
 | .tmp t=>match slot σ t with
  | some (.val (.one (.sl sz l (.yes e))))=>k { σ with env:=σ.env.set t (.val (.one (.sl sz l .no))) } (.one (.sl sz l (.yes e)))
  | some (.val (.one (.v i false)))=>match zag σ.ks (.v i false) with
   | true=>k { σ with env:=σ.env.set t (.val (.one (.v i true))) } (.one (.v i false))
   | false=>none
  | some (.val x)=>match noYesSC x with
   | true=>k σ (clrSC x)
   | false=>none
  | _=>none
 | x=>match pk σ x with
  | some (.val x)=>k σ x
  | _=>none
def yB (σ:Sg) (cs:List C) (t:TypeId):Sg:={ σ with blks:=(σ.na,cs,t)::σ.blks,na:=σ.na+1 }
def zne (ks:List CK):C->Bool
 | .k v=>!(locked v)
 | .sl _ _ .lock=>false
 | .lkd _=>false
 | .v i _=>zag ks (.v i false)
 | _=>true
def zi6 (ks:List CK):List C->Bool
 | []=>true
 | c::cs=>zne ks c && zi6 ks cs
def zlE (lk:List (Nat×Nat)) (ks:List CK) (b:Nat):Nat->Nat->List C->Bool
 | _,0,_=>true
 | _,_,[]=>false
 | off,n+1,c::cs=>(yM (fun p=>Nat.beq p.1 b && Nat.beq p.2 off) lk || zne ks c) && zlE lk ks b (off+1) n cs
def zkm (x y:TL):TL :=
 match y with
 | .nil=>x
 | .snoc .nil i=>.snoc x i
 | y=>.cat x y
def isSnoc:TL->Bool|.snoc _ _=>true|_=>false
def zf0 (P:Program) (σ:Sg) (t:TypeId) (x y:Operand) (k:KT):Option Tree :=
 match P.underlying t with
 | some (.slice e)=>match qc P e,P.info? e,pkC σ y with
  | some n,some i,some yc=>match i.zero,asL σ.ks n yc with
   | some z,some l=>if !Nat.beq z.cells.size n || Nat.beq n 0 then none else
    yA σ x fun σ x=>match x with
     | .one (.k .snil)=>match isSnoc l with
      | true=>vF (.room l i.bytes) (k σ (.val (.one (.sl n l (.yes e)))))
      | false=>vF (.room l i.bytes) (zkl (.app (.k .snil) n e l) (k { σ with ks:=σ.ks++[.sl n] } (.val (.one (.v σ.ks.length false)))))
     | .one (.sl sz xs (.yes e'))=>if Nat.beq e e' && Nat.beq n sz then vF (.room (zkm xs l) i.bytes) (k σ (.val (.one (.sl n (zkm xs l) (.yes e))))) else none
     | .one (.v j false)=>match nth σ.ks j with
      | some (.sl sz)=>if Nat.beq n sz then vF (.own j e) (vF (.room (zkm (.var j) l) i.bytes) (match isSnoc l with
        | true=>k σ (.val (.one (.sl n (zkm (.var j) l) (.yes e))))
        | false=>zkl (.app (.v j false) n e l) (k { σ with ks:=σ.ks++[.sl n] } (.val (.one (.v σ.ks.length false)))))) else none
      | _=>none
     | _=>none
   | _,_=>none
  | _,_,_=>none
 | _=>none
def znf (σ:Sg) (n:Nat) (k:Sg->TL->Option Tree):Nat->TL->List (Nat×Operand)->Option Tree
 | _,l,[]=>k σ l
 | j,l,(i,x)::r=>match pk σ x with
  | some (.val v)=>if Nat.beq i j && zkk σ.ks v && zba σ.ks v && Nat.beq (cellsSC v).length n then
    zkl (.sc v) (znf { σ with ks:=σ.ks++[.raw] } n k (j+1) (.snoc l σ.ks.length) r)
   else none
  | _=>none
def zdR (a:Nat):List Nat->Option Nat
 | []=>none
 | b::r=>match Nat.beq a b with
  | true=>some 0
  | false=>match zdR a r with
   | some i=>some (i+1)
   | none=>none
def pks (σ:Sg):List Nat->List Operand->Option (List AS×List Nat)
 | ns,[]=>some ([],ns)
 | ns,x::xs=>match pk σ x with
  | some (.val (.one (.p a off)))=>match zdR a ns with
   | some j=>match pks σ ns xs with
    | some (vs,ns)=>some (.p j off::vs,ns)
    | none=>none
   | none=>match pks σ (ns++[a]) xs with
    | some (vs,ns')=>some (.p ns.length off::vs,ns')
    | none=>none
  | some (.val v)=>match zba σ.ks v,pks σ ns xs with
   | true,some (vs,ns)=>some (.d v::vs,ns)
   | _,_=>none
  | _=>none
def ckC (ks:List CK):C->CK
 | .k .nili=>.ifc|.k .nilp=>.any|.k (.sl n _ _)=>.sl n|.k _=>.any
 | .v i _=>match nth ks i with|some k=>k|none=>.raw
 | .i k _=>.int k
 | .b _=>.bool
 | .s _=>.str
 | .sl n _ _=>.sl n
 | _=>.any
def zeZ (σ:Sg):List Nat->Option (List (List C×TypeId))
 | []=>some []
 | a::r=>match jv a σ.blks,zeZ σ r with
  | some (cs,t),some l=>if wQ σ.ks cs then some ((cs,t)::l) else none
  | _,_=>none
def zkn (σ:Sg):List Nat->List SV->Option (List AS×List Nat)
 | ns,[]=>some ([],ns)
 | ns,x::xs=>match x with
  | .val (.one (.p a off))=>match zdR a ns with
   | some j=>match zkn σ ns xs with
    | some (vs,ns)=>some (.p j off::vs,ns)
    | none=>none
   | none=>match zkn σ (ns++[a]) xs with
    | some (vs,ns')=>some (.p ns.length off::vs,ns')
    | none=>none
  | .val v=>match zba σ.ks v,zkn σ ns xs with
   | true,some (vs,ns)=>some (.d v::vs,ns)
   | _,_=>none
  | _=>none
def zi7 (σ:Sg):List Operand->Option (List SV)
 | []=>some []
 | x::xs=>match pk σ x,zi7 σ xs with
  | some v,some vs=>some (v::vs)
  | _,_=>none
def zlF (σ:Sg):List Operand->Option (List C)
 | []=>some []
 | x::xs=>match pkC σ x,zlF σ xs with
  | some (.p a off),some cs=>some (.p a off::cs)
  | _,_=>none
def vz (ks:List CK):List (List C×TypeId)->List CK
 | []=>[]
 | (cs,_)::r=>cs.map (ckC ks)++vz ks r
def backB:List Nat->List (List C×TypeId)->Nat->List (Nat×List C×TypeId)->List (Nat×List C×TypeId)
 | a::ns,(cs,_)::r,i,bs=>backB ns r (i+cs.length) (zdQ a (lits (cs.map fun _=>.raw) i) bs)
 | _,_,_,bs=>bs
def zng (P:Program):List TypeId->Option (List CK)
 | []=>some []
 | t::ts=>match jG P t,zng P ts with
  | some true,some r=>some (.raw::r)
  | some false,some r=>match ckT P t with
   | some k=>some (k::r)
   | none=>none
  | _,_=>none
def zdS (P:Program) (k:Sg->List SC->Option Tree):Sg->List TypeId->Nat->List SC->Option Tree
 | σ,[],_,acc=>k σ acc
 | σ,t::ts,i,acc=>match jG P t with
  | some true=>match zlD P 20 t with
   | some ks=>match zdS P k { σ with ks:=σ.ks++ks } ts (i+1) (acc++[.agg (lits ks σ.ks.length)]) with
    | some t=>some (.opn i ks t)
    | none=>none
   | none=>none
  | some false=>zdS P k σ ts (i+1) (acc++[.one (.v i false)])
  | none=>none
def zi8 (P:Program) (σ:Sg) (i:Nat) (k:KT):List TypeId->Option Tree
 | []=>k σ (.val (.one (.v i false)))
 | [t]=>xz P σ t i fun σ x=>k σ (.val x)
 | ts=>match zng P ts with
  | some ks=>match zdS P (fun σ xs=>k σ (.tup xs)) { σ with ks:=σ.ks++ks } ts σ.ks.length [] with
   | some t=>some (.unt i ks t)
   | none=>none
  | none=>none
def zi9 (P:Program) (σ:Sg) (f:FuncId) (args:List Operand) (k:KT):Option Tree :=
 match P.funcs[f]?,pks σ [] args with
 | some fn,some (vs,ns)=>match fn.body,zeZ σ ns with
  | some _,some lent=>match zi8 P { σ with ks:=σ.ks++(CK.raw::vz σ.ks lent),blks:=backB ns lent (σ.ks.length+1) σ.blks } σ.ks.length k fn.resultTypes.toList with
   | some t=>some (.call f vs lent (vz σ.ks lent) t)
   | none=>none
  | _,_=>none
 | _,_=>none
def allP:List C->Bool
 | []=>true
 | .p _ _::cs=>allP cs
 | _=>false
def zin (P:Program) (σ:Sg) (x:Operand) (args:List Operand) (k:KT):Option Tree :=
 match pk σ x,zi7 σ args with
 | some (.fn (.func f) cs),some svs=>if !(allP cs) then none else match P.funcs[f]?,zkn σ [] (svs++cs.map fun c=>.val (.one c)) with
  | some fn,some (vs,ns)=>match fn.body,zeZ σ ns with
   | some _,some lent=>match zi8 P { σ with ks:=σ.ks++(CK.raw::vz σ.ks lent),blks:=backB ns lent (σ.ks.length+1) σ.blks } σ.ks.length k fn.resultTypes.toList with
    | some t=>some (.call f vs lent (vz σ.ks lent) t)
    | none=>none
   | _,_=>none
  | _,_=>none
 | _,_=>none
def zdT (c:TB) (a b:Option Tree):Option Tree:=match a,b with|some a,some b=>some (.ite c a b)|_,_=>none
end Go.Vm.Sx
namespace Go.Vm.Sx
open Go Go.Vm
def zoh (σ:Sg) (e:VE) (ck:CK) (k:KT):Option Tree:=zkl e (k { σ with ks:=σ.ks++[ck] } (.val (.one (.v σ.ks.length false))))
def zlG (P:Program) (σ:Sg) (e:TypeId) (l:TL) (i:TI) (k:Sg->SC->Option Tree):Option Tree :=
 match xz P { σ with ks:=σ.ks++[.raw] } e σ.ks.length k with
 | some t=>some (.elem l i t)
 | none=>none
def zoK (P:Program) (σ:Sg) (e:TypeId) (cs:List C) (i:TI) (k:Sg->SC->Option Tree):Option Tree :=
 match xz P { σ with ks:=σ.ks++[.raw] } e σ.ks.length k with
 | some t=>some (.sel cs i t)
 | none=>none
def zko (i:TI) (f:Nat->SV) (k:KT):Sg->Nat->Nat->Option Tree
 | _,_,0=>some (.need (.lit false) (.out []))
 | σ,j,n+1=>match za9 σ.as (.cmp .eql i (.lit (.ofNat j))) with
  | some true=>k σ (f j)
  | some false=>zko i f k σ (j+1) n
  | none=>zdT (.cmp .eql i (.lit (.ofNat j))) (k { σ with as:=yz (.cmp .eql i (.lit (.ofNat j))) σ.as } (f j)) (zko i f k { σ with as:=yz (mkNot (.cmp .eql i (.lit (.ofNat j)))) σ.as } (j+1) n)
def zeD (σ:Sg) (x:Option Operand) (d:TI):Option TI :=
 match x with
 | none=>some d
 | some x=>match pkI σ x with
  | some (_,t)=>some t
  | none=>none
def vG (P:Program) (σ:Sg) (o:Op) (k:KT):Option Tree :=
 match zcS P σ o with
 | some v=>k σ v
 | none=>none
def zoL (σ:Sg):Operand->Option (Fn×List C)
 | .tmp t=>match slot σ t with
  | some (.fn f cs)=>some (f,cs)
  | _=>none
 | _=>none
def xOp (P:Program) (takes:List Tmp) (σ:Sg) (o:Oper) (k:KT):Option Tree :=
 let taken:=qB takes o.dst
 match o.op with
 | .move x=>match taken with
  | true=>yA σ x fun σ x=>k σ (.val x)
  | false=>vG P σ o.op k
 | .assign x=>match zoL σ x with
  | some (f,cs)=>k σ (.fn f cs)
  | none=>yA σ x fun σ x=>k σ (.val x)
 | .pick c a b=>match zcS P σ o.op with
  | some v=>k σ v
  | none=>match pkB σ c,pk σ a,pk σ b with
   | some t,some a,some b=>zdT t (k σ a) (k σ b)
   | _,_,_=>none
 | .load t a=>match taken with
  | true=>match jG P t,pk σ a with
   | some false,some (.val (.one (.p a off)))=>match jv a σ.blks with
    | some (cs,_)=>match nth cs off with
     | some (.k .snil)=>k σ (.val (.one (.k .snil)))
     | some (.sl sz l (.yes e))=>k { σ with blks:=zdQ a (cs.set off (.sl sz l .lock)) σ.blks,lk:=(a,off)::σ.lk } (.val (.one (.sl sz l (.yes e))))
     | some (.v i false)=>match nth σ.ks i with
      | some (.sl _)=>vF (.rights i) (k { σ with blks:=zdQ a (cs.set off (.lkd i)) σ.blks,lk:=(a,off)::σ.lk } (.val (.one (.v i false))))
      | _=>none
     | _=>none
    | none=>none
   | _,_=>none
  | false=>match a with
   | .global g=>match jG P t with
    | some false=>match xz P { σ with ks:=σ.ks++[.raw] } t σ.ks.length fun σ x=>k σ (.val (clrSC x)) with
     | some t=>some (.glob g 0 t)
     | none=>none
    | _=>none
   | _=>vG P σ o.op k
 | .alloc t=>match qi P t with
  | some z=>if okC z then k (yB σ (cellsSC (cSC z)) t) (.val (.one (.p σ.na 0))) else none
  | none=>none
 | .box t x=>yA σ x fun σ x=>if zkk σ.ks x then k (yB σ (laidSC x) t) (.val (.one (.p σ.na 0))) else none
 | .store t a x=>match pkC σ a with
  | some (.p a off)=>yA σ x fun σ x=>match qc P t,jv a σ.blks with
   | some n,some (cs,_) =>
    if (Nat.ble σ.nf a || wQ σ.ks (laidSC x)) && zi6 σ.ks (laidSC x) && zkk σ.ks x && Nat.beq (laidSC x).length n && Nat.ble (off+n) cs.length && zlE σ.lk σ.ks a off n (cs.drop off) then
     k { σ with blks:=zdQ a (storeCells cs off (laidSC x)) σ.blks } tup0
    else none
   | _,_=>none
  | _=>none
 | .binOp op _t x y _=>match op with
  | .quo|.rem=>match pkI σ x,pkI σ y with
   | some (kd,a),some (kd',b)=>if kd=kd' then vF (match b with|.lit (.ofNat (_+1))=>.lit true|b=>.not (.cmp .eql b (.lit 0))) (k σ (.val (.one (.i kd (.bin op kd a b))))) else none
   | _,_=>none
  | .shl|.shr=>match pkI σ x,pkI σ y with
   | some (kd,a),some (_,b)=>vF (match b with|.lit (.ofNat _)=>.lit true|b=>.cmp .geq b (.lit 0)) (k σ (.val (.one (.i kd (.bin op kd a b)))))
   | _,_=>none
  | .add=>match pkS σ x,pkS σ y with
   | some a,some b=>vF (.sroom a b) (k σ (.val (.one (.s (.cat a b)))))
   | _,_=>vG P σ o.op k
  | _=>vG P σ o.op k
 | .convert a b x=>match P.underlying a,P.underlying b,pkC σ x with
  | some (.slice e),some .string,some c=>match P.underlying e,asL σ.ks 1 c with
   | some (.int .u8),some l=>match smL l .nil with
    | true=>k σ (.val (.one (.s (.lit []))))
    | false=>match k { σ with ks:=σ.ks++[.str] } (.val (.one (.s (.var σ.ks.length)))) with
     | some t=>some (.byt l t)
     | none=>none
   | _,_=>none
  | _,_,_=>vG P σ o.op k
 | .indexAddr t x ix=>match P.underlying t,pkI σ ix with
  | some (.slice e),some (_,i)=>match qc P e,pkC σ x with
   | some n,some c=>match asL σ.ks n c with
    | some l=>zlG P σ e l i fun σ x=>k σ (.vp (cellsSC x))
    | none=>none
   | _,_=>none
  | some (.array len e),some (_,i)=>match zcS P σ o.op with
   | some v=>k σ v
   | none=>match qc P e,pk σ x with
    | some n,some (.vp cs)=>if Nat.ble len 16 then zko i (fun j=>.vp (cs.drop (j * n))) k σ 0 len else none
    | some n,some (.val (.one (.p a off)))=>if Nat.ble len 16 then zko i (fun j=>.val (.one (.p a (off+j * n)))) k σ 0 len else none
    | _,_=>none
  | _,_=>none
 | .index t x ix=>match P.underlying t,pkI σ ix with
  | some .string,some (_,i)=>match pkS σ x with
   | some s=>vF (.and (.cmp .geq i (.lit 0)) (.cmp .lss i (.slen s))) (k σ (.val (.one (.i .u8 (.byte s i)))))
   | none=>none
  | some (.array len e),some (_,i)=>match zcS P σ o.op with
   | some v=>k σ v
   | none=>match qc P e,jG P e,pk σ x with
    | some 1,some false,some (.val (.agg cs))=>if Nat.ble len cs.length && wQ σ.ks (cs.take len) then zoK P σ e (cs.take len) i fun σ x=>k σ (.val (clrSC x)) else none
    | _,_,_=>none
  | _,_=>none
 | .slice t x lo hi mx=>if mx.isSome then none else match P.underlying t,pkC σ x with
  | some .string,some c=>match asS σ.ks c with
   | some s=>match zeD σ lo (.lit 0),zeD σ hi (.slen s) with
    | some l,some h=>vF (zae (.cmp .leq (.lit 0) l) (.and (.cmp .leq l h) (.cmp .leq h (.slen s)))) (k σ (.val (.one (.s (.sub s l h)))))
    | _,_=>none
   | none=>none
  | some (.slice e),some c=>match qc P e with
   | some n=>match asL σ.ks n c with
    | some xs=>match zeD σ lo (.lit 0),zeD σ hi (.len xs) with
     | some l,some h=>vF (zae (.cmp .leq (.lit 0) l) (.and (.cmp .leq l h) (.cmp .leq h (.len xs)))) (match c with
      | .sl sz _ _=>k σ (.val (.one (.sl sz (.sub xs l h) .no)))
      | .v i _=>zoh σ (.slc i l h) (.sl n) k
      | .k .snil=>k σ (.val (.one (.k .snil)))
      | _=>none)
     | _,_=>none
    | none=>none
   | none=>none
  | _,_=>none
 | .buildSlice t len parts=>match P.underlying t with
  | some (.slice e)=>match qc P e,qi P e with
   | some n,some z=>if Nat.beq n 0 || Nat.blt 16777216 (len * n) || !Nat.beq z.cells.length n || !okC z || !Nat.beq parts.toList.length len then none else
    znf σ n (fun σ l=>k σ (.val (.one (.sl n l (.yes e))))) 0 .nil parts.toList
   | _,_=>none
  | _=>none
 | .makeInterface t x=>match pk σ x with
  | some (.val v)=>if kV P t || !(zba σ.ks v) then none else zoh σ (.ifc t v) .ifc k
  | _=>none
 | .call c=>match c.callee,c.args.toList,c.argTypes.toList with
  | .builtin .append,[x,y],[t,u]=>if Nat.beq t u then zf0 P σ t x y k else none
  | .builtin _,_,_=>vG P σ o.op k
  | .value (.func f),args,_=>zi9 P σ f args k
  | .value (.tmp t),args,_=>zin P σ (.tmp t) args k
  | _,_,_=>none
 | .makeFunc f first cap=>match first.toList,zlF σ cap.toList with
  | [],some cs=>k σ (.fn f cs)
  | _,_=>none
 | _=>vG P σ o.op k
def putS (σ:Sg) (dst:Option Tmp) (v:SV):Sg :=
 match dst with
 | some d=>{ σ with env:=σ.env.set d v }
 | none=>σ
inductive Gd where
 |yes|no|sym (c:TB)
def znh (as:List TB) (t:TB):Option Gd :=
 match za9 as t with
 | some true=>some .yes
 | some false=>some .no
 | none=>some (.sym t)
def ze0 (want:Bool) (t:TB):TB:=match want with|true=>t|false=>mkNot t
def zf1 (σ:Sg) (all:Array Oper) (o:Oper):Option Gd :=
 match o.guard with
 | none=>some .yes
 | some (j,want)=>match (all[j]?).bind (·.dst) with
  | none=>none
  | some d=>match nth σ.env d with
   | some (.val (.one (.k (.tup _))))=>some .no
   | some (.val (.one c))=>match asB σ.ks c with
    | some t=>znh σ.as (ze0 want t)
    | none=>none
   | some (.gd g (.one c))=>match asB σ.ks c with
    | some t=>znh σ.as (zae g (ze0 want t))
    | none=>none
   | _=>none
def zkp (takes:List Tmp) (o:Oper):Bool:=match qB takes o.dst with
 | false=>true
 | true=>match o.op with
  | .move _|.assign _|.load _ _=>true
  | .call c=>match c.callee,c.args.toList,c.argTypes.toList with
   | .builtin .append,[_,_],[_,_]=>true
   | _,_,_=>false
  | _=>false
def zeE (P:Program) (all:Array Oper) (takes:List Tmp) (k:Sg->Option Tree):List Oper->Sg->Option Tree
 | [],σ=>k σ
 | o::os,σ=>if !(zkp takes o) then none else match zf1 σ all o with
  | none=>none
  | some .no=>zeE P all takes k os (putS σ o.dst tup0)
  | some .yes=>xOp P takes σ o fun σ v=>zeE P all takes k os (putS σ o.dst v)
  | some (.sym c) =>
   let σ1:={ σ with as:=yz c σ.as }
   match (match o.dst with|some d=>!(qB takes (some d))|none=>false),zcS P σ1 o.op with
   | true,some (.val x)=>zeE P all takes k os (putS σ o.dst (.gd c x))
   | _,_=>zdT c (xOp P takes σ1 o fun σ v=>zeE P all takes k os (putS σ o.dst v)) (zeE P all takes k os (putS { σ with as:=yz (mkNot c) σ.as } o.dst tup0))
inductive Cls where
 |free|rd (b:Nat)|call|wr (b:Nat)
def Cls.real:Cls->Bool|.wr _=>true|_=>false
def zf2 (σ:Sg) (x:Operand):Bool :=
 match pkC σ x with
 | some (.s _)=>true
 | some (.sl _ _ _)=>true
 | some (.k .snil)=>true
 | some (.v i _)=>match nth σ.ks i with
  | some .str=>true
  | some (.sl _)=>true
  | _=>false
 | _=>false
def jW (takes:List Tmp) (σ:Sg) (o:Oper):Option Cls :=
 match o.op with
 | .load _ a=>match qB takes o.dst,a with
  | false,.global _=>some .free
  | tk,a=>match pk σ a,tk with
   | some (.val (.one (.p b _))),true=>some (.wr b)
   | some (.val (.one (.p b _))),false=>some (.rd b)
   | some (.vp _),false=>some .free
   | _,_=>none
 | .store _ a _=>match pkC σ a with
  | some (.p b _)=>some (.wr b)
  | _=>none
 | .alloc _=>some (.wr σ.na)
 | .box _ _=>some (.wr σ.na)
 | .call c=>match c.callee,c.args.toList with
  | .value (.func _),l=>match pks σ [] l with
   | some (_,[])=>some .call
   | _=>none
  | .builtin .len,[x]=>if zf2 σ x then some .free else none
  | .builtin .append,[_,y]=>if zf2 σ y then some .free else none
  | .builtin .min,_=>some .free
  | .builtin .max,_=>some .free
  | _,_=>none
 | .move _|.assign _|.pick _ _ _|.build _ _|.buildSlice _ _ _|.nilCheck _|.binOp ..|.unOp ..|.convert ..|.makeInterface _ _|.slice ..|.fieldAddr ..|.field ..|.indexAddr ..|.index ..|.typeAssert ..|.extract ..=>some .free
 | _=>none
structure DR where
 rec':Rec
 cls:Cls
def zlH (b:Nat):Cls->Bool|.wr a=>Nat.beq b a|_=>false
def zhj (m:Nat) (c:Cls) (ds:List DR):Bool :=
 match c with
 | .free|.call=>true
 | .rd b=>jS (fun d=>bit m d.rec'.idx || !(zlH b d.cls)) ds
 | .wr a=>jS (fun d=>bit m d.rec'.idx || (match d.cls with
  | .wr _=>false
  | .rd b=>!(Nat.beq b a) || yM (fun e=>e.cls.real && bit e.rec'.m d.rec'.idx) ds
  | _=>true)) ds
def zdU (takes:List Tmp) (all:Array Oper) (i m:Nat) (o:Oper):Rec:=⟨i,o,m,tmM takes o,Nat.lor (tmM takes o) (lkM all o),wL takes o,false,[],.junk⟩
def zbN (P:Program) (all:Array Oper) (takes:List Tmp) (k:Sg->Option Tree):Nat->List DR->List Oper->Sg->Option Tree
 | _,_,[],σ=>k σ
 | i,ds,o::os,σ=>if !(zkp takes o) then none else
  match kx (ds.map (·.rec')) o.after.toList with
  | none=>none
  | some m =>
   let r:=zdU takes all i m o
   if !(jS (jB r) (ds.map (·.rec'))) then none else
   let run (σ:Sg):Option Tree:=match jW takes σ o with
    | none=>none
    | some c=>if zhj m c ds then (xOp P takes σ o fun σ v=>zbN P all takes k (i+1) (⟨r,c⟩::ds) os (putS σ o.dst v)) else none
   let skip (σ:Sg):Option Tree:=zbN P all takes k (i+1) (⟨{ r with hp:=false },.free⟩::ds) os (putS σ o.dst tup0)
   match zf1 σ all o with
   | none=>none
   | some .no=>skip σ
   | some .yes=>run σ
   | some (.sym c)=>zdT c (run { σ with as:=yz c σ.as }) (skip { σ with as:=yz (mkNot c) σ.as })
inductive GS where
 |drop|one (k:CK)|agg (ks:List CK)|cells (ks:List (Option CK))
structure JS where
 env:List (Nat×GS)
 blks:List (Nat×List (Option CK))
def ze1 {α:Type} (n:Nat):List (Nat×α)->Option α
 | []=>none
 | (m,a)::r=>if Nat.beq n m then some a else ze1 n r
def zhk (ks:List CK):List (Option CK)->List C->List CK×List C
 | some k::os,_::cs=>match zhk (ks++[k]) os cs with
  | (ks',r)=>(ks',.v ks.length false::r)
 | _::os,c::cs=>match zhk ks os cs with
  | (ks',r)=>(ks',c::r)
 | _,cs=>(ks,cs)
def zpw (ks:List CK):GS->SV->List CK×SV
 | .drop,_=>(ks,.unk)
 | .one k,_=>(ks++[k],.val (.one (.v ks.length false)))
 | .agg l,_=>(ks++l,.val (.agg (lits l ks.length)))
 | .cells os,.val (.agg cs)=>match zhk ks os cs with
  | (ks,cs)=>(ks,.val (.agg cs))
 | .cells os,.vp cs=>match zhk ks os cs with
  | (ks,cs)=>(ks,.vp cs)
 | _,x=>(ks,x)
def zlI (js:List (Nat×GS)):Nat->List CK->List SV->List CK×List SV
 | _,ks,[]=>(ks,[])
 | i,ks,x::xs=>match (match ze1 i js with
   | some g=>zpw ks g x
   | none=>(ks,x)) with
  | (ks,x)=>match zlI js (i+1) ks xs with
   | (ks,xs)=>(ks,x::xs)
def zja (js:List (Nat×List (Option CK))):List CK->List (Nat×List C×TypeId)->List CK×List (Nat×List C×TypeId)
 | ks,[]=>(ks,[])
 | ks,(a,cs,t)::r=>match (match ze1 a js with
   | some os=>zhk ks os cs
   | none=>(ks,cs)) with
  | (ks,cs)=>match zja js ks r with
   | (ks,r)=>(ks,(a,cs,t)::r)
def gen (js:JS) (σ:Sg):Sg :=
 match zlI js.env 0 σ.ks σ.env with
 | (ks,env)=>match zja js.blks ks σ.blks with
  | (ks,blks)=>{ env,blks,na:=σ.na,ks,lk:=[],as:=[],nf:=σ.nf }
def zdV (ks:List CK) (ck:CK):C->Bool
 | .k v=>kOk ck v
 | .v i _=>match nth ks i with
  | some k=>if k=ck then true else false
  | none=>false
 | .i k _=>match ck with|.int k'=>(if k=k' then true else false)|_=>false
 | .b _=>match ck with|.bool=>true|_=>false
 | .s _=>match ck with|.str=>true|_=>false
 | .sl sz _ o=>match ck with|.sl sz'=>Nat.beq sz' sz && (match o with|.lock=>false|_=>true)|_=>false
 | _=>false
def zni (na base nxt:Nat) (kJ ks:List CK) (cJ c:C):Option (List C) :=
 match cJ with
 | .v j false=>match Nat.blt j base with
  | true=>if smC (.v j false) c then some [] else none
  | false=>match nth kJ j with
   | some ck=>if Nat.beq j nxt && zdV ks ck c && zag ks c then some [c] else none
   | none=>none
 | .p a off=>if smC (.p a off) c && Nat.blt a na then some [] else none
 | cJ=>if smC cJ c && ltC base cJ then some [] else none
def zdW (na base nxt:Nat) (kJ ks:List CK):List C->List C->Option (List C)
 | [],[]=>some []
 | a::as,b::bs=>match zni na base nxt kJ ks a b with
  | some x=>match zdW na base (nxt+x.length) kJ ks as bs with
   | some y=>some (x++y)
   | none=>none
  | none=>none
 | _,_=>none
def zjb (na base nxt:Nat) (kJ ks:List CK):SC->SC->Option (List C)
 | .one a,.one b=>zni na base nxt kJ ks a b
 | .agg a,.agg b=>zdW na base nxt kJ ks a b
 | _,_=>none
def zf3 (na base nxt:Nat) (kJ ks:List CK):List SC->List SC->Option (List C)
 | [],[]=>some []
 | a::as,b::bs=>match zjb na base nxt kJ ks a b with
  | some x=>match zf3 na base (nxt+x.length) kJ ks as bs with
   | some y=>some (x++y)
   | none=>none
  | none=>none
 | _,_=>none
def ze2 (na base nxt:Nat) (kJ ks:List CK):SV->SV->Option (List C)
 | .unk,_=>some []
 | .val a,.val b=>zjb na base nxt kJ ks a b
 | .vp a,.vp b=>zdW na base nxt kJ ks a b
 | .tup a,.tup b=>zf3 na base nxt kJ ks a b
 | .fn f a,.fn g b=>if f=g then zdW na base nxt kJ ks a b else none
 | _,_=>none
def zf4 (na base nxt:Nat) (kJ ks:List CK):List SV->List SV->Option (List C)
 | [],[]=>some []
 | a::as,b::bs=>match ze2 na base nxt kJ ks a b with
  | some x=>match zf4 na base (nxt+x.length) kJ ks as bs with
   | some y=>some (x++y)
   | none=>none
  | none=>none
 | _,_=>none
def zdc (na base nxt:Nat) (kJ ks:List CK) (σ':List (Nat×List C×TypeId)):List (Nat×List C×TypeId)->Option (List C)
 | []=>some []
 | (a,cs,t)::r=>match jv a σ' with
  | some (cs',t')=>if Nat.beq t t' && Nat.blt a na then (match zdW na base nxt kJ ks cs cs' with
   | some x=>match zdc na base (nxt+x.length) kJ ks σ' r with
    | some y=>some (x++y)
    | none=>none
   | none=>none) else none
  | none=>none
def preK:List CK->List CK->Bool
 | [],_=>true
 | a::as,b::bs=>if a=b then preK as bs else false
 | _::_,[]=>false
def okJ (σ σJ:Sg):Bool:=preK σ.ks σJ.ks && σJ.as.isEmpty && σJ.lk.isEmpty && Nat.beq σ.na σJ.na && Nat.beq σ.nf σJ.nf
def fit (base:Nat) (σJ σ':Sg):Option (List C) :=
 match zf4 σJ.na base base σJ.ks σ'.ks σJ.env σ'.env with
 | some x=>match zdc σJ.na base (base+x.length) σJ.ks σ'.ks σ'.blks σJ.blks with
  | some y=>if Nat.beq (base+(x++y).length) σJ.ks.length && Nat.ble σJ.na σ'.na && Nat.beq σJ.nf σ'.nf then some (x++y) else none
  | none=>none
 | none=>none
inductive XE where
 |normal|exit (id:Nat)|ret
def zlJ (v:Option (List C)):Option Tree:=match v with|some v=>some (.out v)|none=>none
def zkq (t:Option Tree):Option Tree:=match t with|some t=>some (.esc t)|none=>none
abbrev KE:=XE->Sg->Option Tree
def znj (js:JS) (σ:Sg) (body:KE->Option Tree) (pick:XE->Bool) (k:KE) (next:Sg->Option Tree):Option Tree :=
 let σJ:=gen js σ
 if !(okJ σ σJ) then none else
 match body (fun e σ'=>match pick e with
  | true=>zlJ (fit σ.ks.length σJ σ')
  | false=>zkq (k e σ')),next σJ with
 | some b,some t=>some (.blk b t)
 | _,_=>none
def jZ (P:Program) (hs:List (Nat×JS)):Nat->Code->Sg->KE->Option Tree
 | _,.skip,σ,k=>k .normal σ
 | _,.label _,σ,k=>k .normal σ
 | _,.region _ ops false,σ,k=>zeE P ops (wx ops) (fun σ=>k .normal σ) ops.toList { σ with lk:=[] }
 | _,.region _ ops true,σ,k=>zbN P ops (wx ops) (fun σ=>k .normal σ) 0 [] ops.toList { σ with lk:=[] }
 | p,.seq a b,σ,k=>match ze1 p hs with
  | none=>jZ P hs (2 * p) a σ fun e σ=>match e with
   | .normal=>jZ P hs (2 * p+1) b σ k
   | e=>k e σ
  | some js=>znj js σ (fun k=>jZ P hs (2 * p) a σ k) (fun e=>match e with|.normal=>true|_=>false) k fun σJ=>jZ P hs (2 * p+1) b σJ k
 | p,.cond c a b,σ,k=>match pkB σ c with
  | none=>none
  | some t=>match za9 σ.as t with
   | some true=>jZ P hs (2 * p) a σ k
   | some false=>jZ P hs (2 * p+1) b σ k
   | none=>zdT t (jZ P hs (2 * p) a { σ with as:=yz t σ.as } k) (jZ P hs (2 * p+1) b { σ with as:=yz (mkNot t) σ.as } k)
 | p,.block id c,σ,k=>match ze1 p hs with
  | none=>jZ P hs (2 * p) c σ fun e σ=>match e with
   | .exit i=>match Nat.beq i id with
    | true=>k .normal σ
    | false=>k (.exit i) σ
   | e=>k e σ
  | some js=>znj js σ (fun k=>jZ P hs (2 * p) c σ k) (fun e=>match e with|.exit i=>Nat.beq i id|.normal=>true|_=>false) k fun σJ=>k .normal σJ
 | p,.loop c,σ,k=>match ze1 p hs with
  | none=>none
  | some js =>
   let σJ:=gen js σ
   if !(okJ σ σJ) then none else
   match fit σ.ks.length σJ σ,jZ P hs (2 * p) c σJ (fun e σ'=>match e with
    | .normal=>zlJ (fit σ.ks.length σJ σ')
    | e=>zkq (k e σ')) with
   | some ini,some body=>some (.loop ini body)
   | _,_=>none
 | _,.exit id,σ,k=>k (.exit id) σ
 | _,.ret,σ,k=>k .ret σ
 | p,.scope c,σ,k=>jZ P hs (2 * p) c σ k
 | _,_,_,_=>none
def xA (P:Program) (k:Sg->List SV->Option Tree):Sg->List TypeId->Nat->Nat->List SV->Option Tree
 | σ,[],_,_,acc=>k σ acc
 | σ,t::ts,i,j,acc=>match P.underlying t with
  | some (.pointer _)=>xA P k σ ts (i+1) (j+1) (acc++[.val (.one (.p j 0))])
  | _=>xz P σ t i fun σ x=>xA P k σ ts (i+1) j (acc++[.val x])
def jR (P:Program):List TypeId->Option (List (TypeId×List CK))
 | []=>some []
 | t::ts=>match P.underlying t,jR P ts with
  | some (.pointer e),some r=>match zlD P 20 e with
   | some ks=>some ((e,ks)::r)
   | none=>none
  | some _,some r=>some r
  | _,_=>none
def lentBlks:List (TypeId×List CK)->Nat->Nat->List (Nat×List C×TypeId)
 | [],_,_=>[]
 | (e,ks)::r,j,i=>(j,lits ks i,e)::lentBlks r (j+1) (i+ks.length)
def lentKs:List (TypeId×List CK)->List CK
 | []=>[]
 | (_,ks)::r=>ks++lentKs r
def zjc (k:Sg->Option Tree):Sg->List CK->Nat->Option Tree
 | σ,[],_=>k σ
 | σ,ck::cks,i=>match zjc k { σ with ks:=σ.ks.set i ck } cks (i+1) with
  | some t=>some (.kin i ck t)
  | none=>none
def zjd (σ:Sg) (t:Tmp):Option SC :=
 match nth σ.env t with
 | some sv=>match zi3 σ.as sv with
  | some (.val x)=>some x
  | _=>none
 | none=>none
def zkr (P:Program) (σ:Sg):List ResultVar->Option (List SC)
 | []=>some []
 | .tmp t::r=>match zjd σ t,zkr P σ r with
  | some x,some xs=>some (x::xs)
  | _,_=>none
 | .cell a t::r=>match zjd σ a with
  | some (.one (.p a off))=>match jv a σ.blks with
   | some (cs,_)=>match zaf P t cs off,zkr P σ r with
    | some x,some xs=>some (clrSC x::xs)
    | _,_=>none
   | none=>none
  | _=>none
def clrSCs:List SC->List SC
 | []=>[]
 | x::xs=>clrSC x::clrSCs xs
def zdX (σ:Sg):Nat->List (TypeId×List CK)->Option (List C)
 | _,[]=>some []
 | j,(e,ks)::r=>match jv j σ.blks,zdX σ (j+1) r with
  | some (cs,t),some o=>if wQ σ.ks cs && Nat.beq t e && Nat.beq cs.length ks.length then some (cs++o) else none
  | _,_=>none
def zlK (P:Program) (lent:List (TypeId×List CK)) (rs:List ResultVar) (σ:Sg):Option Tree :=
 if !(Nat.beq σ.nf lent.length) then none else
 match zkr P σ rs,zdX σ 0 lent with
 | some [x],some o=>if zba σ.ks x then some (.letv (.sc x) (.out (.v σ.ks.length false::o))) else none
 | some xs,some o=>if zdb σ.ks xs then some (.letv (.tup (clrSCs xs)) (.out (.v σ.ks.length false::o))) else none
 | _,_=>none
def yp (P:Program) (hs:List (Nat×JS)) (f:FuncId):Option Tree :=
 match P.funcs[f]? with
 | none=>none
 | some fn=>match fn.body,jR P fn.params.toList with
  | some body,some lent =>
   zjc (fun σ=>xA P (fun σ svs=>jZ P hs 1 body { σ with env:=svs++List.replicate (fn.ntmps - svs.length) tup0 } fun e σ=>match e with
     | .normal=>zlK P lent fn.results.toList σ
     | .ret=>zlK P lent fn.results.toList σ
     | .exit _=>none) σ fn.params.toList 0 0 [])
    ⟨[],lentBlks lent 0 fn.params.toList.length,lent.length,List.replicate (fn.params.toList.length+(lentKs lent).length) .raw,[],[],lent.length⟩ (lentKs lent) fn.params.toList.length
  | _,_=>none
end Go.Vm.Sx
namespace Go.Vm.Sx
open Go Go.Vm
theorem yN (ρ:List V) (i:Nat):at' ρ i=(ρ[i]?).getD .junk:=by
 simp only [at',zq];cases ρ[i]?<;>rfl
theorem kQ {ρ x:List V} {i:Nat} (h:i<ρ.length):at' (ρ++x) i=at' ρ i:=by
 simp [yN,zAe h]
theorem jI {a b:Nat} (h:Nat.beq a b=true):a=b:=zAQ h
theorem zc4 {p:Prop} [Decidable p] (h:(if p then true else false)=true):p:=by
 by_cases hp:p
 ·exact hp
 ·simp [hp] at h
theorem zaQ {a b:Nat} (h:Nat.blt a b=true):a<b:=zAk h
theorem zoM {a b:Nat} (h:Nat.ble a b=true):a<=b:=zAk h
mutual
theorem wR (ρ:List V):∀ {a b:TI},smI a b=true->evI ρ a=evI ρ b
 | .var i,b,h=>by cases b<;>simp only [smI,zAD] at h;rw [jI h]
 | .lit i,b,h=>by cases b<;>simp only [smI,zAD] at h;simp only [evI];exact eq_of_beq h
 | .bin op k x y,b,h=>by
  cases b<;>simp only [smI,zAD,zAF] at h;obtain ⟨⟨⟨h1,h2⟩,h3⟩,h4⟩:=h;simp only [evI,zc4 h1,zc4 h2,wR ρ h3,wR ρ h4]
 | .conv k x,b,h=>by
  cases b<;>simp only [smI,zAD,zAF] at h;simp only [evI,zc4 h.1,wR ρ h.2]
 | .len x,b,h=>by cases b<;>simp only [smI,zAD] at h;simp only [evI,zah ρ h]
 | .slen x,b,h=>by cases b<;>simp only [smI,zAD] at h;simp only [evI,xB ρ h]
 | .byte x y,b,h=>by
  cases b<;>simp only [smI,zAD,zAF] at h;simp only [evI,xB ρ h.1,wR ρ h.2]
 | .ite c x y,b,h=>by
  cases b<;>simp only [smI,zAD,zAF] at h;simp only [evI,wh ρ h.1.1,wR ρ h.1.2,wR ρ h.2]
theorem wh (ρ:List V):∀ {a b:TB},smB a b=true->evB ρ a=evB ρ b
 | .var i,b,h=>by cases b<;>simp only [smB,zAD] at h;rw [jI h]
 | .lit i,b,h=>by cases b<;>simp only [smB,zAD] at h;simp only [evB];exact eq_of_beq h
 | .not x,b,h=>by cases b<;>simp only [smB,zAD] at h;simp only [evB,wh ρ h]
 | .and x y,b,h=>by
  cases b<;>simp only [smB,zAD,zAF] at h;simp only [evB,wh ρ h.1,wh ρ h.2]
 | .or x y,b,h=>by
  cases b<;>simp only [smB,zAD,zAF] at h;simp only [evB,wh ρ h.1,wh ρ h.2]
 | .beq x y,b,h=>by
  cases b<;>simp only [smB,zAD,zAF] at h;simp only [evB,wh ρ h.1,wh ρ h.2]
 | .ite c x y,b,h=>by
  cases b<;>simp only [smB,zAD,zAF] at h;simp only [evB,wh ρ h.1.1,wh ρ h.1.2,wh ρ h.2]
 | .cmp op x y,b,h=>by
  cases b<;>simp only [smB,zAD,zAF] at h;simp only [evB,zc4 h.1.1,wR ρ h.1.2,wR ρ h.2]
 | .scmp op x y,b,h=>by
  cases b<;>simp only [smB,zAD,zAF] at h;simp only [evB,zc4 h.1.1,xB ρ h.1.2,xB ρ h.2]
 | .nili i,b,h=>by cases b<;>simp only [smB,zAD] at h;rw [jI h]
 | .nill i,b,h=>by cases b<;>simp only [smB,zAD] at h;rw [jI h]
 | .own _ _,b,h=>by cases b<;>simp only [smB,zAD] at h
 | .rights _,b,h=>by cases b<;>simp only [smB,zAD] at h
 | .room _ _,b,h=>by cases b<;>simp only [smB,zAD] at h
 | .sroom _ _,b,h=>by cases b<;>simp only [smB,zAD] at h
theorem xB (ρ:List V):∀ {a b:TS},smS a b=true->evS ρ a=evS ρ b
 | .var i,b,h=>by cases b<;>simp only [smS,zAD] at h;rw [jI h]
 | .lit i,b,h=>by cases b<;>simp only [smS,zAD] at h;simp only [evS];exact eqL_eq h
 | .cat x y,b,h=>by
  cases b<;>simp only [smS,zAD,zAF] at h;simp only [evS,xB ρ h.1,xB ρ h.2]
 | .sub x y z,b,h=>by
  cases b<;>simp only [smS,zAD,zAF] at h;simp only [evS,xB ρ h.1.1,wR ρ h.1.2,wR ρ h.2]
 | .ofL x,b,h=>by cases b<;>simp only [smS,zAD] at h;simp only [evS,zah ρ h]
theorem zah (ρ:List V):∀ {a b:TL},smL a b=true->evL ρ a=evL ρ b
 | .var i,b,h=>by cases b<;>simp only [smL,zAD] at h;rw [jI h]
 | .nil,b,h=>by cases b<;>simp only [smL,zAD] at h;rfl
 | .snoc x i,b,h=>by
  cases b<;>simp only [smL,zAD,zAF] at h;simp only [evL,zah ρ h.1,jI h.2]
 | .cat x y,b,h=>by
  cases b<;>simp only [smL,zAD,zAF] at h;simp only [evL,zah ρ h.1,zah ρ h.2]
 | .sub x y z,b,h=>by
  cases b<;>simp only [smL,zAD,zAF] at h;simp only [evL,zah ρ h.1.1,wR ρ h.1.2,wR ρ h.2]
 | .ofS x,b,h=>by cases b<;>simp only [smL,zAD] at h;simp only [evL,xB ρ h]
end
mutual
theorem wS {ρ:List V} (x:List V):∀ {a:TI},ltI ρ.length a=true->evI (ρ++x) a=evI ρ a
 | .var i,h=>by simp only [ltI] at h;simp only [evI,kQ (zaQ h)]
 | .lit i,h=>rfl
 | .bin op k a b,h=>by simp only [ltI,zAF] at h;simp only [evI,wS x h.1,wS x h.2]
 | .conv k a,h=>by simp only [ltI] at h;simp only [evI,wS x h]
 | .len a,h=>by simp only [ltI] at h;simp only [evI,zai x h]
 | .slen a,h=>by simp only [ltI] at h;simp only [evI,yf x h]
 | .byte a b,h=>by simp only [ltI,zAF] at h;simp only [evI,yf x h.1,wS x h.2]
 | .ite c a b,h=>by simp only [ltI,zAF] at h;simp only [evI,vA x h.1.1,wS x h.1.2,wS x h.2]
theorem vA {ρ:List V} (x:List V):∀ {a:TB},ltB ρ.length a=true->evB (ρ++x) a=evB ρ a
 | .var i,h=>by simp only [ltB] at h;simp only [evB,kQ (zaQ h)]
 | .lit i,h=>rfl
 | .not a,h=>by simp only [ltB] at h;simp only [evB,vA x h]
 | .and a b,h=>by simp only [ltB,zAF] at h;simp only [evB,vA x h.1,vA x h.2]
 | .or a b,h=>by simp only [ltB,zAF] at h;simp only [evB,vA x h.1,vA x h.2]
 | .beq a b,h=>by simp only [ltB,zAF] at h;simp only [evB,vA x h.1,vA x h.2]
 | .ite c a b,h=>by simp only [ltB,zAF] at h;simp only [evB,vA x h.1.1,vA x h.1.2,vA x h.2]
 | .cmp op a b,h=>by simp only [ltB,zAF] at h;simp only [evB,wS x h.1,wS x h.2]
 | .scmp op a b,h=>by simp only [ltB,zAF] at h;simp only [evB,yf x h.1,yf x h.2]
 | .nili i,h=>by simp only [ltB] at h;simp only [evB,kQ (zaQ h)]
 | .nill i,h=>by simp only [ltB] at h;simp only [evB,kQ (zaQ h)]
 | .own i e,h=>by simp only [ltB] at h;simp only [evB,kQ (zaQ h)]
 | .rights i,h=>by simp only [ltB] at h;simp only [evB,kQ (zaQ h)]
 | .room l n,h=>by simp only [ltB] at h;simp only [evB,zai x h]
 | .sroom a b,h=>by simp only [ltB,zAF] at h;simp only [evB,yf x h.1,yf x h.2]
theorem yf {ρ:List V} (x:List V):∀ {a:TS},ltS ρ.length a=true->evS (ρ++x) a=evS ρ a
 | .var i,h=>by simp only [ltS] at h;simp only [evS,kQ (zaQ h)]
 | .lit i,h=>rfl
 | .cat a b,h=>by simp only [ltS,zAF] at h;simp only [evS,yf x h.1,yf x h.2]
 | .sub a b c,h=>by simp only [ltS,zAF] at h;simp only [evS,yf x h.1.1,wS x h.1.2,wS x h.2]
 | .ofL a,h=>by simp only [ltS] at h;simp only [evS,zai x h]
theorem zai {ρ:List V} (x:List V):∀ {a:TL},zbM ρ.length a=true->evL (ρ++x) a=evL ρ a
 | .var i,h=>by simp only [zbM] at h;simp only [evL,kQ (zaQ h)]
 | .nil,h=>rfl
 | .snoc a i,h=>by simp only [zbM,zAF] at h;simp only [evL,zai x h.1,kQ (zaQ h.2)]
 | .cat a b,h=>by simp only [zbM,zAF] at h;simp only [evL,zai x h.1,zai x h.2]
 | .sub a b c,h=>by simp only [zbM,zAF] at h;simp only [evL,zai x h.1.1,wS x h.1.2,wS x h.2]
 | .ofS a,h=>by simp only [zbM] at h;simp only [evL,yf x h]
end
theorem zoN (ρ:List V) (pa:List Nat) {a b:C} (h:smC a b=true):evC ρ pa a=evC ρ pa b:=by
 cases a<;>cases b<;>simp only [smC,zAD,zAF] at h
 ·simp only [evC];exact V.same_eq h
 ·obtain ⟨h1,h2⟩:=h;have:=jI h1;have:=eq_of_beq h2;subst_vars;rfl
 ·simp only [evC,zc4 h.1,wR ρ h.2]
 ·simp only [evC,wh ρ h]
 ·simp only [evC,xB ρ h]
 ·simp only [evC,jI h.1.1,zah ρ h.1.2,zc4 h.2]
 ·simp only [evC,jI h.1,jI h.2]
 ·simp only [evC,jI h]
theorem zaI {α:Type} {l x:List α} {i:Nat} {a:α} (h:nth l i=some a):nth (l++x) i=some a:=by
 rw [zq] at h ⊢;obtain ⟨hi,_⟩:=zAG.1 h;rw [zAe hi,h]
theorem zlL {ρ:List V} (x:List V) {pa:List Nat} {c:C} (h:ltC ρ.length c=true):evC (ρ++x) pa c=evC ρ pa c:=by
 cases c<;>simp only [ltC] at h<;>simp only [evC]
 ·rename_i i cl;cases cl<;>simp only [kQ (zaQ h)]
 ·rw [wS x h]
 ·rw [vA x h]
 ·rw [yf x h]
 ·rw [zai x h]
 ·rw [kQ (zaQ h)]
theorem zf5 {α:Type} {f:α->Bool}:∀ {l:List α},yM f l=true->∃ x∈l,f x=true
 | x::xs,h=>by
  simp only [yM] at h;split at h
  ·rename_i hx;exact ⟨x,zAL,hx⟩
  ·obtain ⟨y,hy,hf⟩:=zf5 h;exact ⟨y,zAE _ hy,hf⟩
theorem jJ (ρ:List V) (a:TB):evB ρ (mkNot a)=!(evB ρ a):=by
 unfold mkNot;split<;>simp [evB]
theorem yg (ρ:List V) (a b:TB):evB ρ (zae a b)=(evB ρ a && evB ρ b):=by
 unfold zae;split<;>(try split)<;>simp [evB]
theorem zje (ρ:List V) (a b:TB):evB ρ (zlA a b)=(evB ρ a || evB ρ b):=by
 unfold zlA;split<;>(try split)<;>simp [evB]
theorem zlM (ρ:List V) (c a b:TB):evB ρ (zlB c a b)=bif evB ρ c then evB ρ a else evB ρ b:=by
 unfold zlB;split
 ·rename_i h;rw [zje,<- wh ρ h];cases evB ρ c<;>rfl
 ·split
  ·rename_i h;rw [yg,<- wh ρ h];cases evB ρ c<;>simp
  ·split<;>simp only [zje,yg,jJ,evB]<;>cases evB ρ c<;>simp
def zc5 (ρ:List V) (as:List TB):Prop:=∀ t∈as,evB ρ t=true
theorem zaJ {ρ:List V}:∀ {t:TB} {as:List TB},evB ρ t=true->zc5 ρ as->zc5 ρ (addAs0 t as)
 | .and a b,as,h,ha=>by
  have h':=h;simp only [evB,zAF] at h';intro t ht;simp only [addAs0,zAO] at ht;rcases ht with rfl|ht
  ·exact h
  ·exact zaJ h'.1 (zaJ h'.2 ha) t ht
 | .not (.or a b),as,h,ha=>by
  have h':=h;simp only [evB,zAr,zBX] at h';intro t ht;simp only [addAs0,zAO] at ht;rcases ht with rfl|rfl|rfl|ht
  ·exact h
  ·simp [jJ,h'.1]
  ·simp [jJ,h'.2]
  ·exact ha t ht
 |.var _,as,h,ha|.lit _,as,h,ha|.or _ _,as,h,ha|.ite _ _ _,as,h,ha|.beq _ _,as,h,ha|.cmp _ _ _,as,h,ha|.scmp _ _ _,as,h,ha|.nili _,as,h,ha|.nill _,as,h,ha|.own _ _,as,h,ha|.rights _,as,h,ha|.room _ _,as,h,ha|.sroom _ _,as,h,ha
 | .not (.var _),as,h,ha|.not (.lit _),as,h,ha|.not (.not _),as,h,ha|.not (.and _ _),as,h,ha|.not (.ite _ _ _),as,h,ha|.not (.beq _ _),as,h,ha|.not (.cmp _ _ _),as,h,ha|.not (.scmp _ _ _),as,h,ha|.not (.nili _),as,h,ha|.not (.nill _),as,h,ha|.not (.own _ _),as,h,ha|.not (.rights _),as,h,ha|.not (.room _ _),as,h,ha|.not (.sroom _ _),as,h,ha=>by
  intro t ht;simp only [addAs0,zAO] at ht;rcases ht with rfl|ht
  ·exact h
  ·exact ha t ht
theorem zio {ρ:List V} {as:List TB} (ha:zc5 ρ as) {t:TB} (h:yM (smB t) as=true):evB ρ t=true:=by
 obtain ⟨x,hx,hs⟩:=zf5 h;rw [wh ρ hs];exact ha x hx
theorem zlN {ρ:List V} {as:List TB} (ha:zc5 ρ as) {t:TB} {b:Bool} (h:(if yM (smB t) as then some true else if yM (smB (.not t)) as then some false else none)=some b):evB ρ t=b:=by
 split at h
 ·rename_i h1;cases h;exact zio ha h1
 ·split at h
  ·rename_i h1;cases h;have:=zio ha h1;simpa [evB] using this
  ·cases h
theorem jT {ρ:List V} {as:List TB} (ha:zc5 ρ as):∀ {t:TB} {b:Bool},za9 as t=some b->evB ρ t=b
 | .lit _,b,h=>by simp only [za9,zAA] at h;subst h;rfl
 | .not a,b,h=>by
  simp only [za9] at h;split at h
  ·rename_i c hc;cases h;simp only [evB,jT ha hc]
  ·split at h
   ·rename_i h1;cases h;exact zio ha h1
   ·cases h
 | .and a c,b,h=>by
  simp only [za9] at h;split at h
  ·rename_i h1 h2;cases h;simp only [evB,jT ha h1,jT ha h2];rfl
  ·rename_i h1;cases h;simp only [evB,jT ha h1];rfl
  ·rename_i h2 _;cases h;simp only [evB,jT ha h2];simp
  ·exact zlN ha h
 | .var _,b,h|.or _ _,b,h|.ite _ _ _,b,h|.beq _ _,b,h|.cmp _ _ _,b,h|.scmp _ _ _,b,h|.nili _,b,h|.nill _,b,h|.own _ _,b,h|.rights _,b,h|.room _ _,b,h|.sroom _ _,b,h=>by
  simp only [za9] at h;exact zlN ha h
theorem y8 {ρ:List V}:∀ {l as:List TB},(∀ t∈l,evB ρ t=true)->zc5 ρ as->zc5 ρ (propag as l)
 | [],as,_,ha=>ha
 | .not (.and a b)::r,as,hl,ha=>by
  have h0:=hl _ zAL;simp only [evB,zAr,Bool.and_eq_false_iff] at h0;have hr:∀ t∈r,evB ρ t=true:=fun t ht=>hl t (zAE _ ht);have more:∀ {t:TB},evB ρ t=true->zc5 ρ (t::as):=fun ht x hx=>by
   rcases zAO.1 hx with rfl|hx
   ·exact ht
   ·exact ha x hx
  simp only [propag];split
  ·rename_i h1 _;have:=jT ha h1;refine y8 hr (more ?_);rw [jJ];rcases h0 with h0|h0
   ·rw [this] at h0;cases h0
   ·rw [h0];rfl
  ·rename_i _ h1;have:=jT ha h1;refine y8 hr (more ?_);rw [jJ];rcases h0 with h0|h0
   ·rw [h0];rfl
   ·rw [this] at h0;cases h0
  ·exact y8 hr ha
 |.var _::r,as,hl,ha|.lit _::r,as,hl,ha|.or _ _::r,as,hl,ha|.and _ _::r,as,hl,ha|.ite _ _ _::r,as,hl,ha|.beq _ _::r,as,hl,ha|.cmp _ _ _::r,as,hl,ha|.scmp _ _ _::r,as,hl,ha|.nili _::r,as,hl,ha|.nill _::r,as,hl,ha|.own _ _::r,as,hl,ha|.rights _::r,as,hl,ha|.room _ _::r,as,hl,ha|.sroom _ _::r,as,hl,ha
 | .not (.var _)::r,as,hl,ha|.not (.lit _)::r,as,hl,ha|.not (.not _)::r,as,hl,ha|.not (.or _ _)::r,as,hl,ha|.not (.ite _ _ _)::r,as,hl,ha|.not (.beq _ _)::r,as,hl,ha|.not (.cmp _ _ _)::r,as,hl,ha|.not (.scmp _ _ _)::r,as,hl,ha|.not (.nili _)::r,as,hl,ha|.not (.nill _)::r,as,hl,ha|.not (.own _ _)::r,as,hl,ha|.not (.rights _)::r,as,hl,ha|.not (.room _ _)::r,as,hl,ha|.not (.sroom _ _)::r,as,hl,ha=>by
  simp only [propag];exact y8 (fun t ht=>hl t (zAE _ ht)) ha
theorem zdY {ρ:List V} {t:TB} {as:List TB} (h:evB ρ t=true) (ha:zc5 ρ as):zc5 ρ (yz t as) :=
 y8 (zaJ h ha) (zaJ h ha)
end Go.Vm.Sx
namespace Go.Vm.Sx
open Go Go.Vm
structure PRel (ρ:List V) (pa:List Nat) (σ:Sg) (env:List V) (H:Hp):Prop where
 env:∀ i sv v,nth σ.env i=some sv->jt ρ pa sv=some v->nth env i=some v
 blks:∀ a cs ty,jv a σ.blks=some (cs,ty)->H.get (pd pa a)=some (.cells (zr ρ pa cs) ty)
 ks:∀ i k,nth σ.ks i=some k->kOk k (at' ρ i)=true
 as:zc5 ρ σ.as
variable {P:Program} {gl:Nat->Nat->Option V} {ρ:List V} {pa:List Nat} {σ:Sg} {env:List V} {H:Hp}
theorem clr_clr (v:V):clr (clr v)=clr v:=by cases v<;>rfl
theorem qk (cs:List C):zr ρ pa cs=cs.map (evC ρ pa):=by
 induction cs with
 | nil=>rfl
 | cons c cs ih=>simp [zr,ih]
theorem zks (cs:List SC):kT ρ pa cs=cs.map (zC ρ pa):=by
 induction cs with
 | nil=>rfl
 | cons c cs ih=>simp [kT,ih]
theorem clr_ptrC {a off:Nat}:clr (evC ρ pa (.p a off))=evC ρ pa (.p a off):=rfl
theorem zkt (v:V):clr (lockV v)=clr v:=by cases v<;>rfl
theorem zjf (c:C):evC ρ pa (clrC c)=clr (evC ρ pa c):=by
 cases c with
 | k v=>rfl
 | v i cl=>cases cl<;>simp [clrC,evC,clr_clr]
 | i k t=>rfl
 | b t=>rfl
 | s t=>rfl
 | sl sz t o=>rfl
 | p a off=>exact clr_ptrC.symm
 | lkd i=>simp [clrC,evC,zkt]
theorem kG (x:SC):zC ρ pa (clrSC x)=clr (zC ρ pa x):=by
 cases x with
 | one c=>exact zjf c
 | agg cs=>rfl
theorem zlO (cs:List C):zr ρ pa (clrCs cs)=(zr ρ pa cs).map clr:=by
 induction cs with
 | nil=>rfl
 | cons c cs ih=>simp [zr,clrCs,ih,zjf]
theorem zpx (v:V):evC ρ pa (cC v)=v:=by cases v<;>rfl
theorem zf6 (vs:List V):zr ρ pa (cCs vs)=vs:=by
 induction vs with
 | nil=>rfl
 | cons c cs ih=>simp [zr,cCs,ih,zpx]
theorem zoO (v:V):zC ρ pa (cSC v)=v:=by
 cases v<;>first|rfl|(simp only [cSC,zC,zf6])
def plain:SV->Bool|.gd _ _=>false|.unk=>false|_=>true
theorem zhl {as:List TB} (ha:zc5 ρ as) {sv sv':SV} (h:zi3 as sv=some sv'):plain sv'=true/\∃ v,jt ρ pa sv=some v/\jt ρ pa sv'=some v:=by
 cases sv with
 | gd c x =>
  simp only [zi3] at h;split at h
  ·rename_i hk;cases h;exact ⟨rfl,_,rfl,by simp [jt,jT ha hk]⟩
  ·rename_i hk;cases h;exact ⟨rfl,_,rfl,by simp [jt,jT ha hk,tup0,zC,evC]⟩
  ·cases h
 | unk=>cases h
 | val x=>cases h;exact ⟨rfl,_,rfl,rfl⟩
 | vp x=>cases h;exact ⟨rfl,_,rfl,rfl⟩
 | tup x=>cases h;exact ⟨rfl,_,rfl,rfl⟩
 | fn f x=>cases h;exact ⟨rfl,_,rfl,rfl⟩
theorem zbO (hr:PRel ρ pa σ env H) {t:Tmp} {sv:SV} (h:slot σ t=some sv):plain sv=true/\∃ v,nth env t=some v/\jt ρ pa sv=some v:=by
 unfold slot at h;split at h
 ·rename_i sv0 h0;obtain ⟨hp,v,h1,h2⟩:=zhl (pa:=pa) hr.as h;exact ⟨hp,v,hr.env _ _ _ h0 h1,h2⟩
 ·cases h
theorem zlP {sv:SV} {v:V} (hp:plain sv=true) (h:jt ρ pa sv=some v):jt ρ pa (clrSV sv)=some (clr v):=by
 cases sv with
 | gd c x=>cases hp
 | unk=>cases hp
 | val x=>cases h;simp only [clrSV,jt,kG]
 | vp x=>cases h;rfl
 | tup x=>cases h;rfl
 | fn f x=>cases h;rfl
theorem wt (hr:PRel ρ pa σ env H) {x:Operand} {sv:SV} (h:pk σ x=some sv):∃ v,peek env x=some v/\jt ρ pa sv=some v:=by
 cases x with
 | tmp t =>
  simp only [pk] at h;split at h
  ·rename_i sv0 h0;cases h;obtain ⟨hp,v,h1,h2⟩:=zbO hr h0;exact ⟨clr v,by simp [peek,h1],zlP hp h2⟩
  ·cases h
 | const v =>
  simp only [pk] at h;split at h
  ·rename_i u hu;cases h;exact ⟨u,hu,by simp [jt,zoO]⟩
  ·cases h
 | global g=>cases h
 | func f=>cases h
theorem kH (hr:PRel ρ pa σ env H) {x:Operand} {s:SC} (h:pk σ x=some (.val s)):peek env x=some (zC ρ pa s):=by
 obtain ⟨v,h1,h2⟩:=wt hr h;cases h2;exact h1
theorem q6 (hr:PRel ρ pa σ env H) {x:Operand} {c:C} (h:pkC σ x=some c):peek env x=some (evC ρ pa c):=by
 unfold pkC at h;split at h
 ·rename_i h0;cases h;exact kH hr h0
 ·cases h
theorem vC {ks:List CK} (hk:∀ i k,nth ks i=some k->kOk k (at' ρ i)=true) {c:C} {k:IntKind} {t:TI} (h:asI ks c=some (k,t)):evC ρ pa c=.int k (evI ρ t):=by
 cases c with
 | i k' t'=>cases h;rfl
 | v i cl =>
  simp only [asI] at h;split at h
  ·rename_i k' h0;cases h;have:=hk _ _ h0;cases hv:at' ρ i<;>rw [hv] at this<;>simp only [kOk,zAD] at this;have hkk:=zc4 this;cases cl<;>simp [evC,hv,evI,vI,clr,hkk]
  ·cases h
 | k v =>
  cases v<;>simp only [asI,zAA,zAH,reduceCtorEq] at h;obtain ⟨rfl,rfl⟩:=h;rfl
 | _=>cases h
theorem yO {ks:List CK} (hk:∀ i k,nth ks i=some k->kOk k (at' ρ i)=true) {c:C} {t:TB} (h:asB ks c=some t):evC ρ pa c=.bool (evB ρ t):=by
 cases c with
 | b t'=>cases h;rfl
 | v i cl =>
  simp only [asB] at h;split at h
  ·rename_i h0;cases h;have:=hk _ _ h0;cases hv:at' ρ i<;>rw [hv] at this<;>simp only [kOk,zAD] at this;cases cl<;>simp [evC,hv,evB,vB,clr]
  ·cases h
 | k v =>
  cases v<;>simp only [asB,zAA,reduceCtorEq] at h;subst h;rfl
 | _=>cases h
theorem wF {ks:List CK} (hk:∀ i k,nth ks i=some k->kOk k (at' ρ i)=true) {c:C} {t:TS} (h:asS ks c=some t):evC ρ pa c=.str (evS ρ t):=by
 cases c with
 | s t'=>cases h;rfl
 | v i cl =>
  simp only [asS] at h;split at h
  ·rename_i h0;cases h;have:=hk _ _ h0;cases hv:at' ρ i<;>rw [hv] at this<;>simp only [kOk,zAD] at this;cases cl<;>simp [evC,hv,evS,Sx.vS,clr]
  ·cases h
 | k v =>
  cases v<;>simp only [asS,zAA,reduceCtorEq] at h;subst h;rfl
 | _=>cases h
theorem zaj {ks:List CK} (hk:∀ i k,nth ks i=some k->kOk k (at' ρ i)=true) {sz:Nat} {c:C} {t:TL} (h:asL ks sz c=some t):(evC ρ pa c=.snil/\evL ρ t=[])\/∃ o,evC ρ pa c=.sl sz (evL ρ t) o:=by
 cases c with
 | sl sz' t' o =>
  simp only [asL] at h;split at h
  ·rename_i h0;cases h;rw [jI h0];exact .inr ⟨o,rfl⟩
  ·cases h
 | v i cl =>
  simp only [asL] at h;split at h
  ·rename_i sz' h0;split at h
   ·rename_i h1;cases h;have:=hk _ _ h0;cases hv:at' ρ i<;>rw [hv] at this<;>simp only [kOk,zAD,zAF] at this
    ·left;cases cl<;>simp [evC,hv,evL,Sx.vL,clr]
    ·right
     have:=jI this.1;have:=jI h1;subst_vars;cases cl<;>simp [evC,hv,evL,Sx.vL,clr]
   ·cases h
  ·cases h
 | k v =>
  cases v<;>simp only [asL,zAA,reduceCtorEq] at h;subst h;exact .inl ⟨rfl,rfl⟩
 | _=>cases h
theorem jx (hr:PRel ρ pa σ env H) {x:Operand} {k:IntKind} {t:TI} (h:pkI σ x=some (k,t)):peek env x=some (.int k (evI ρ t)):=by
 unfold pkI at h;split at h
 ·rename_i h0;rw [q6 hr h0,vC hr.ks h]
 ·cases h
theorem ziq (hr:PRel ρ pa σ env H) {x:Operand} {t:TB} (h:pkB σ x=some t):peek env x=some (.bool (evB ρ t)):=by
 unfold pkB at h;split at h
 ·rename_i h0;rw [q6 hr h0,yO hr.ks h]
 ·cases h
theorem zcq (hr:PRel ρ pa σ env H) {x:Operand} {t:TS} (h:pkS σ x=some t):peek env x=some (.str (evS ρ t)):=by
 unfold pkS at h;split at h
 ·rename_i h0;rw [q6 hr h0,wF hr.ks h]
 ·cases h
theorem we {α β:Type} (f:α->β) (l:List α) (i:Nat):nth (l.map f) i=(nth l i).map f:=by simp [zq]
theorem wG {t:TypeId} {cs:List C} {off:Nat} {x:SC} (h:zaf P t cs off=some x):jU P t (zr ρ pa cs) off=some (zC ρ pa x):=by
 rw [wE];unfold zaf at h;split at h
 ·rename_i ha;split at h
  ·rename_i n hn;split at h
   ·rename_i hl;cases h;rw [ha,hn,zfZ,qk];simp [hl,zC,qk]
   ·cases h
  ·cases h
 ·rename_i ha;split at h
  ·rename_i c hc;cases h;rw [ha,zda,qk,we,hc];rfl
  ·cases h
 ·cases h
theorem zlQ {op:BinOp} {t:TypeId} {k:IntKind} {a b:Int} (h:isTot op=true):w8 P op t (.int k a) (.int k b)=some (.int k (biI op k a b)):=by
 cases op<;>simp only [isTot,zAD] at h<;>simp [w8,vv,biI]
theorem zdZ {op:BinOp} {t:TypeId} {k:IntKind} {a b:Int} (h:isCmp op=true):w8 P op t (.int k a) (.int k b)=some (.bool (cmI op a b)):=by
 cases op<;>simp only [isCmp,zAD] at h<;>simp [w8,vv,cmI]
theorem zcr {op:BinOp} {t:TypeId} {a b:List Nat} (h:isCmp op=true):w8 P op t (.str a) (.str b)=some (.bool (cmS op a b)):=by
 cases op<;>simp only [isCmp,zAD] at h<;>simp [w8,zdq,cmS]
theorem zcs {op:BinOp} {t:TypeId} {x y:Operand} {k k':IntKind} {a b:Int}:jN P op t x y (.int k a) (.int k' b)=true:=by cases op<;>rfl
theorem ze3 {op:BinOp} {t:TypeId} {x y:Operand} {a b:List Nat}:jN P op t x y (.str a) (.str b)=true:=by cases op<;>rfl
theorem znk {ks:List CK} (hk:∀ i k,nth ks i=some k->kOk k (at' ρ i)=true) {ds:TypeDesc} {x y:C} {b:TB} (h:zoH ks ds x y=some b):eqS ds (evC ρ pa x) (evC ρ pa y)=some (evB ρ b)/\(∀ cs,evC ρ pa x≠.agg cs):=by
 unfold zoH at h;cases ds<;>simp only [reduceCtorEq] at h
 ·split at h
  ·rename_i h1 h2;cases h;rw [yO hk h1,yO hk h2];exact ⟨rfl,fun _ e=>by cases e⟩
  ·cases h
 ·split at h
  ·rename_i k a k' b' h1 h2;split at h
   ·rename_i hkk;subst hkk;cases h;rw [vC hk h1,vC hk h2];exact ⟨by simp [eqS,evB,cmI],fun _ e=>by cases e⟩
   ·cases h
  ·cases h
 ·split at h
  ·rename_i h1 h2;cases h;rw [wF hk h1,wF hk h2];exact ⟨by simp [eqS,evB,cmS],fun _ e=>by cases e⟩
  ·cases h
theorem zhm {eqs:TypeId->SC->SC->Option TB} {eqa:TypeId->V->V->Option Bool} (he:∀ t x y b,eqs t x y=some b->eqa t (zC ρ pa x) (zC ρ pa y)=some (evB ρ b)) :
  ∀ {fs:List Field} {xs ys:List C} {b:TB},zi4 P eqs fs xs ys=some b->zhZ P eqa fs (zr ρ pa xs) (zr ρ pa ys)=some (evB ρ b)
 | [],xs,ys,b,h=>by cases h;rfl
 | f::fs,xs,ys,b,h=>by
  simp only [zi4] at h;split at h
  ·cases h
  ·rename_i hn;split at h
   ·rename_i x y hx hy;split at h
    ·rename_i t r ht hr;cases h;simp only [zhZ,hn,if_false,wG (ρ:=ρ) (pa:=pa) hx,wG (ρ:=ρ) (pa:=pa) hy,he _ _ _ _ ht,zhm he hr,Option.bind_eq_bind,zAB,yg];cases evB ρ t<;>rfl
    ·cases h
   ·cases h
theorem zhn {eqs:TypeId->SC->SC->Option TB} {eqa:TypeId->V->V->Option Bool} (he:∀ t x y b,eqs t x y=some b->eqa t (zC ρ pa x) (zC ρ pa y)=some (evB ρ b)) {e:TypeId} {n:Nat} {xs ys:List C} :
  ∀ {k i:Nat} {b:TB},zi5 P eqs e n xs ys i k=some b->zfr P eqa e n (zr ρ pa xs) (zr ρ pa ys) i k=some (evB ρ b)
 | 0,i,b,h=>by cases h;rfl
 | k+1,i,b,h=>by
  simp only [zi5] at h;split at h
  ·rename_i x y hx hy;split at h
   ·rename_i t r ht hr;cases h;simp only [zfr,wG (ρ:=ρ) (pa:=pa) hx,wG (ρ:=ρ) (pa:=pa) hy,he _ _ _ _ ht,zhn he hr,Option.bind_eq_bind,zAB,yg];cases evB ρ t<;>rfl
   ·cases h
  ·cases h
theorem zf7 {ks:List CK} (hk:∀ i k,nth ks i=some k->kOk k (at' ρ i)=true):∀ {d:Nat} {t:TypeId} {x y:SC} {b:TB},zlC P ks d t x y=some b->eqA P d t (zC ρ pa x) (zC ρ pa y)=some (evB ρ b)
 | 0,_,_,_,_,h=>by cases h
 | d+1,t,x,y,b,h=>by
  simp only [zlC] at h;split at h
  ·cases h
  ·rename_i ds hds;split at h
   ·rename_i xs ys;simp only [eqA,hds,zC];split at h
    ·rename_i fs;split at h
     ·cases h
     ·rename_i hs;simp only [hs,zAD,if_false];exact zhm (fun t x y b h=>zf7 hk h) h
    ·rename_i len e;split at h
     ·rename_i n hn;simp only [hn];exact zhn (fun t x y b h=>zf7 hk h) h
     ·cases h
    ·cases h
   ·rename_i a c;obtain ⟨h1,h2⟩:=znk (pa:=pa) hk h;simp only [eqA,hds,zC];cases hx:evC ρ pa a<;>rw [hx] at h1 h2<;>first|exact h1|exact absurd rfl (h2 _)
   ·cases h
theorem zlR {v:V} (h:kOk .ifc v=true):clr v=v:=by
 cases v<;>simp only [kOk,zAD] at h<;>rfl
theorem zjg {i:Nat} {cl:Bool} (h:kOk .ifc (at' ρ i)=true):evC ρ pa (.v i cl)=at' ρ i:=by
 cases cl
 ·rfl
 ·simp only [evC];exact zlR h
theorem zjh (hr:PRel ρ pa σ env H) {t:TypeId} {x y:Operand} {u v:SV} {u' v':V} {b:TB} (hu:jt ρ pa u=some u') (hv:jt ρ pa v=some v') (h:znd P σ t x y u v=some b) :
  kD P .eql t x y (some u') (some v')=some (.bool (evB ρ b))/\kD P .neq t x y (some u') (some v')=some (.bool !(evB ρ b)):=by
 unfold znd at h;split at h
 ·rename_i a c;split at h
  ·cases h
  ·rename_i hg;cases hu;cases hv;have h1:=zf7 (ρ:=ρ) (pa:=pa) hr.ks h;simp only [zC] at h1;simp only [kD,jN,kU,zC,hg,zAw,if_true,w8,h1,zAC,Bool.not_eq_true] at *;simp []
 ·rename_i a c;cases hu;cases hv;simp only [zC];split at h
  ·rename_i k a' k' b' h1 h2;split at h
   ·rename_i hkk;subst hkk;cases h;rw [vC hr.ks h1,vC hr.ks h2];simp only [kD,zcs,if_true];rw [zdZ rfl,zdZ rfl];exact ⟨by simp [evB,cmI],by simp [evB,cmI,bne]⟩
   ·cases h
  ·split at h
   ·rename_i h1 h2;cases h;rw [wF hr.ks h1,wF hr.ks h2];simp only [kD,ze3,if_true];rw [zcr rfl,zcr rfl];exact ⟨by simp [evB,cmS],by simp [evB,cmS]⟩
   ·split at h
    ·rename_i ht;split at h
     ·rename_i h1 h2;cases h;rw [yO hr.ks h1,yO hr.ks h2];simp [kD,jN,kU,w8,eqA,ht,eqS,evB]
     ·cases h
    ·rename_i ms ht;split at h
     ·rename_i i cl _ _;split at h
      ·rename_i h1 h2;cases h;have hk:=hr.ks _ _ h1;rw [zjg hk];cases hv:at' ρ i<;>rw [hv] at hk<;>simp only [kOk,zAD] at hk <;>
        simp [kD,jN,kU,w8,eqA,ht,eqS,evB,evC,hv,isNili,h2]
      ·cases h
     ·rename_i i cl _ _;split at h
      ·rename_i h1 h2;cases h;have hk:=hr.ks _ _ h1;rw [zjg hk];cases hv:at' ρ i<;>rw [hv] at hk<;>simp only [kOk,zAD] at hk <;>
        simp [kD,jN,kU,w8,eqA,ht,eqS,evB,evC,hv,isNili,h2]
      ·cases h
     ·split at h
      ·rename_i h1;cases h;simp only [zAZ] at h1;simp [kD,jN,kU,w8,eqA,ht,eqS,evB,evC,h1]
      ·cases h
     ·cases h
    ·rename_i e ht;split at h
     ·cases h;simp [kD,jN,kU,w8,eqA,ht,eqS,evB,evC]
     ·cases h;simp [kD,jN,kU,w8,eqA,ht,eqS,evB,evC]
     ·cases h;simp [kD,jN,kU,w8,eqA,ht,eqS,evB,evC]
     ·cases h
    ·cases h
 ·cases h
end Go.Vm.Sx
namespace Go.Vm.Sx
open Go Go.Vm
variable {P:Program} {gl:Nat->Nat->Option V} {ρ:List V} {pa:List Nat} {σ:Sg} {env:List V} {H:Hp} {lk:List (Nat×Nat)} {df:List (V×List V)} {takes:List Tmp}
theorem znl (hr:PRel ρ pa σ env H) {op:BinOp} {t:TypeId} {x y:Operand} {sv:SV} (h:zoI P σ op t x y=some sv):∃ v,kD P op t x y (peek env x) (peek env y)=some v/\jt ρ pa sv=some v:=by
 unfold zoI at h;split at h
 ·rename_i u v hu hv;obtain ⟨u',hu1,hu2⟩:=wt hr hu;obtain ⟨v',hv1,hv2⟩:=wt hr hv;rw [hu1,hv1];split at h
  ·split at h
   ·rename_i b hb;cases h;exact ⟨_,(zjh hr hu2 hv2 hb).1,rfl⟩
   ·cases h
  ·split at h
   ·rename_i b hb;cases h;exact ⟨_,(zjh hr hu2 hv2 hb).2,by simp [jt,zC,evC,jJ]⟩
   ·cases h
  ·split at h
   ·rename_i a c;cases hu2;cases hv2;split at h
    ·rename_i k a' k' b' h1 h2;have e1:=vC (pa:=pa) hr.ks h1;have e2:=vC (pa:=pa) hr.ks h2;split at h
     ·rename_i ht hk;cases h;have:=zc4 hk;subst this;exact ⟨_,by simp only [zC,e1,e2,kD,zcs,if_true];exact zlQ ht,rfl⟩
     ·rename_i hc hk _;cases h;have:=zc4 hk;subst this;exact ⟨_,by simp only [zC,e1,e2,kD,zcs,if_true];exact zdZ hc,rfl⟩
     ·cases h
    ·split at h
     ·rename_i h1 h2;split at h
      ·rename_i hc;cases h;exact ⟨_,by simp only [zC,wF (pa:=pa) hr.ks h1,wF (pa:=pa) hr.ks h2,kD,ze3,if_true];exact zcr hc,rfl⟩
      ·cases h
     ·cases h
   ·cases h
 ·cases h
theorem yC {k:CK} {v:V} (h:kOk k v=true) (hk:k≠.raw):oneV v=true/\locked v=false:=by
 cases k<;>cases v<;>simp only [kOk,zAD,zAF,zAr] at h<;>first|exact absurd rfl hk|exact ⟨rfl,rfl⟩|exact h|exact ⟨rfl,h.2⟩
theorem zlS {v:V} (h:oneV v=true):oneV (clr v)=true:=by cases v<;>first|exact h|rfl
theorem zlT {v:V} (h:oneV v=true):okC v=true:=by cases v<;>first|rfl|cases h
theorem zbb {v:V} (h:oneV v=true):v.cells=[v]/\v.laid=[v]:=by cases v<;>first|exact ⟨rfl,rfl⟩|cases h
theorem znm (hk:∀ i k,nth σ.ks i=some k->kOk k (at' ρ i)=true) {c:C} (h:zoJ σ.ks c=true):oneV (evC ρ pa c)=true:=by
  cases c with
  | k v=>exact h
  | v i cl =>
    simp only [zoJ] at h;split at h
    all_goals first
      | (rename_i h0
         have:=(yC (hk _ _ h0) (by intro e;cases e)).1
         cases cl
         · exact this
         · exact zlS this)
      | cases h
  | lkd i=>cases h
  | _=>rfl
theorem zdd (hk:∀ i k,nth σ.ks i=some k->kOk k (at' ρ i)=true) {x:SC} (h:zkk σ.ks x=true):okC (zC ρ pa x)=true/\(zC ρ pa x).cells=zr ρ pa (cellsSC x)/\(zC ρ pa x).laid=zr ρ pa (laidSC x):=by
 cases x with
 | one c =>
  have:=znm (pa:=pa) hk h;exact ⟨zlT this,(zbb this).1,(zbb this).2⟩
 | agg cs=>exact ⟨rfl,rfl,by simp [zC,V.laid,laidSC,zlO]⟩
theorem qv (cs:List C):(zr ρ pa cs).length=cs.length:=by simp [qk]
theorem zak (f:C->V):∀ (vs cs:List C) (off:Nat),(storeCells cs off vs).map f=storeCells (cs.map f) off (vs.map f)
 | [],cs,off=>rfl
 | v::vs,cs,off=>by simp only [storeCells,zAX];rw [zak f vs];simp [List.map_set]
theorem zaY {vs cs:List C} {off:Nat}:zr ρ pa (storeCells cs off vs)=storeCells (zr ρ pa cs) off (zr ρ pa vs):=by
 simp only [qk];exact zak _ _ _ _
theorem zd0 (hr:PRel ρ pa σ env H) {place:Nat->Option (Nat×Nat)}:∀ {parts:List (Nat×Operand)} {cells cs:List C},zhi σ cells place parts=some cs->w9 (zr ρ pa cells) place env parts=some (zr ρ pa cs)
 | [],cells,cs,h=>by cases h;rfl
 | (i,x)::r,cells,cs,h=>by
  simp only [zhi] at h;split at h
  ·rename_i v off n hv hp;split at h
   ·rename_i hc;simp only [zAF] at hc;obtain ⟨h1,h2,_⟩:=zdd (pa:=pa) hr.ks hc.1.1;have:=zd0 hr h;rw [zaY] at this;simp only [w9,kH hr hv,hp,Option.bind_eq_bind,zAB,h1,h2,qv,hc.1.2,hc.2,zAc,if_true,this]
   ·cases h
  ·cases h
theorem zku (hr:PRel ρ pa σ env H) {t:TypeId} {parts:Array (Nat×Operand)} {cs:List C} (h:zim P σ t parts.toList=some cs):jE P t parts env=some (.agg (zr ρ pa cs)):=by
 unfold zim at h;split at h
 ·rename_i z hz;unfold jE;simp only [hz,okC,zAs,zAD,if_false];split at h
  ·rename_i fs hu;simp only [hu];split at h
   ·rename_i ps hp;have:=zd0 hr h;rw [zf6] at this;simp only [hp,V.cells,this,zAC]
   ·cases h
  ·rename_i len e hu;simp only [hu];split at h
   ·rename_i ie hi;have:=zd0 hr h;rw [zf6] at this;simp only [hi,V.cells,this,zAC]
   ·cases h
  ·cases h
 ·cases h
theorem zlU {dst:Option Tmp} (ht:qB takes dst=false) {x:Operand} {type:TypeId} {pos:String} {after:Array Edge} {guard:Option (Nat×Bool)} {cx:Cx} :
  cx.op takes ⟨dst,.move x,type,pos,after,guard⟩ env H lk df=rdQ env H lk df (peek env x):=by
 cases dst with
 | some d=>exact zfX ht
 | none=>simp only [Cx.op];exact wq rfl
theorem zal {dst:Option Tmp} (ht:qB takes dst=false) {t:TypeId} {a:Operand} {type:TypeId} {pos:String} {after:Array Edge} {guard:Option (Nat×Bool)} {cx:Cx} :
  cx.op takes ⟨dst,.load t a,type,pos,after,guard⟩ env H lk df=rdQ env H lk df (((peek env a).bind (zJ cx.P H cx.gl t)).map clr):=by
 cases dst with
 | some d=>exact zbJ ht
 | none =>
  simp only [Cx.op];refine wq ?_;simp only [qj];cases h:peek env a with
  | none=>rfl
  | some v=>simp only [Option.bind_eq_bind,zAB];cases zJ cx.P H cx.gl t v<;>rfl
theorem zbP (hr:PRel ρ pa σ env H) {o:Oper} {sv:SV} (ht:qB takes o.dst=false) (h:zcS P σ o.op=some sv) :
  ∃ v,(∀ call uq,Cx.op ⟨P,gl,call,uq⟩ takes o env H lk df=some (.val v,⟨env,H,lk,df⟩))/\jt ρ pa sv=some v:=by
 obtain ⟨dst,op,type,pos,after,guard⟩:=o;simp only at ht h;cases op<;>simp only [zcS,reduceCtorEq] at h
 case move x =>
  obtain ⟨v,h1,h2⟩:=wt hr h;exact ⟨v,fun call uq=>by rw [zlU ht,h1];rfl,h2⟩
 case pick c a b =>
  split at h
  ·cases h
  ·rename_i t hc;have ec:=ziq hr hc;split at h
   ·rename_i hk;obtain ⟨v,h1,h2⟩:=wt hr h;exact ⟨v,fun call uq=>by rw [qE,ec,jT hr.as hk,h1];rfl,h2⟩
   ·rename_i hk;obtain ⟨v,h1,h2⟩:=wt hr h;exact ⟨v,fun call uq=>by rw [qE,ec,jT hr.as hk,h1];rfl,h2⟩
   ·split at h
    ·rename_i xa xb ha hb;have ra:evB ρ t=true->peek env a=some (evC ρ pa xa):=fun ht=>q6 (σ:={ σ with as:=yz t σ.as }) ⟨hr.env,hr.blks,hr.ks,zdY ht hr.as⟩ ha;have rb:evB ρ t=false->peek env b=some (evC ρ pa xb):=fun ht=>q6 (σ:={ σ with as:=yz (mkNot t) σ.as }) ⟨hr.env,hr.blks,hr.ks,zdY (by simp [jJ,ht]) hr.as⟩ hb
     have main:∀ v,(evB ρ t=true->v=evC ρ pa xa)->(evB ρ t=false->v=evC ρ pa xb)->∀ call uq,Cx.op ⟨P,gl,call,uq⟩ takes ⟨dst,.pick c a b,type,pos,after,guard⟩ env H lk df=some (.val v,⟨env,H,lk,df⟩):=by
      intro v h1 h2 call uq;rw [qE,ec];cases hb:evB ρ t with
      | true=>rw [ra hb,<- h1 hb];rfl
      | false=>rw [rb hb,<- h2 hb];rfl
     split at h
     ·rename_i ta tb h1 h2;cases h;have e1:=yO (pa:=pa) hr.ks h1;have e2:=yO (pa:=pa) hr.ks h2;refine ⟨.bool (bif evB ρ t then evB ρ ta else evB ρ tb),main _ (fun hb=>?_) (fun hb=>?_),by simp [jt,zC,evC,zlM]⟩
      ·rw [e1,hb];rfl
      ·rw [e2,hb];rfl
     ·split at h
      ·rename_i k ta k' tb h1 h2;split at h
       ·rename_i hkk;subst hkk;cases h;have e1:=vC (pa:=pa) hr.ks h1;have e2:=vC (pa:=pa) hr.ks h2;refine ⟨.int k (bif evB ρ t then evI ρ ta else evI ρ tb),main _ (fun hb=>?_) (fun hb=>?_),by simp [jt,zC,evC,evI]⟩
        ·rw [e1,hb];rfl
        ·rw [e2,hb];rfl
       ·cases h
      ·cases h
    ·cases h
 case build t parts =>
  split at h
  ·rename_i cs hb;cases h;exact ⟨_,fun call uq=>by rw [qV,zku hr hb];rfl,rfl⟩
  ·cases h
 case load t a =>
  split at h
  ·rename_i cs ha;obtain ⟨v,h1,h2⟩:=wt hr ha;cases h2;split at h
   ·rename_i x hx;cases h;exact ⟨_,fun call uq=>by rw [zal ht,h1];simp only [zAB,zhf,wG (ρ:=ρ) (pa:=pa) hx,zAC];rfl,by simp [jt,kG]⟩
   ·cases h
  ·rename_i a' off ha;have h1:=kH hr ha;split at h
   ·rename_i cs ty hf;split at h
    ·rename_i x hx;cases h;have hb:=hr.blks _ _ _ hf;exact ⟨_,fun call uq=>by rw [zal ht,h1];simp only [zAB,zC,evC,zaH];rw [hb];simp only [xy,wG (ρ:=ρ) (pa:=pa) hx,zAC];rfl,by simp [jt,kG]⟩
    ·cases h
   ·cases h
  ·cases h
 case nilCheck x =>
  split at h
  ·rename_i cs hx;cases h;obtain ⟨v,h1,h2⟩:=wt hr hx;cases h2;exact ⟨_,fun call uq=>by rw [zF,h1];rfl,rfl⟩
  ·rename_i a off hx;cases h;exact ⟨_,fun call uq=>by rw [zF,kH hr hx];rfl,rfl⟩
  ·cases h
 case binOp op t x y u =>
  obtain ⟨v,h1,h2⟩:=znl hr h;exact ⟨v,fun call uq=>by rw [zA,h1];rfl,h2⟩
 case unOp op t x =>
  split at h
  ·rename_i c hc;split at h
   ·rename_i k tt hi;cases h;exact ⟨_,fun call uq=>by rw [zbK,q6 hr hc,vC (pa:=pa) hr.ks hi];rfl,rfl⟩
   ·cases h
  ·rename_i c hc;split at h
   ·rename_i tt hi;cases h;exact ⟨_,fun call uq=>by rw [zbK,q6 hr hc,yO (pa:=pa) hr.ks hi];rfl,by simp [jt,zC,evC,jJ]⟩
   ·cases h
  ·cases h
 case convert a b x =>
  split at h
  ·rename_i d k c h1 h2 hc;split at h
   ·rename_i k' tt hi;cases h;exact ⟨_,fun call uq=>by rw [xx (zcn ((q6 hr hc).trans (congrArg some (vC (pa:=pa) hr.ks hi))) (by simp)),q6 hr hc,vC (pa:=pa) hr.ks hi];simp only [zAB,yT,h1,h2,Option.bind_eq_bind];cases d<;>rfl,rfl⟩
   ·cases h
  ·rename_i c h1 h2 hc;split at h
   ·rename_i tt hi;cases h;exact ⟨_,fun call uq=>by rw [xx (zcn ((q6 hr hc).trans (congrArg some (wF (pa:=pa) hr.ks hi))) (by simp)),q6 hr hc,wF (pa:=pa) hr.ks hi];simp only [zAB,yT,h1,h2,Option.bind_eq_bind];rfl,rfl⟩
   ·cases h
  ·rename_i e c h1 h2 hc;split at h
   ·rename_i tt h3 hi;cases h;exact ⟨_,fun call uq=>by rw [xx (zcn ((q6 hr hc).trans (congrArg some (wF (pa:=pa) hr.ks hi))) (by simp)),q6 hr hc,wF (pa:=pa) hr.ks hi];simp only [zAB,yT,h1,h2,h3,Option.bind_eq_bind];rfl,rfl⟩
   ·cases h
  ·cases h
 case fieldAddr t x f =>
  split at h
  ·rename_i off cs h1 hx;cases h;obtain ⟨v,h3,h4⟩:=wt hr hx;cases h4;exact ⟨_,fun call uq=>by rw [zn,h3];simp only [h1,zu,zAB,zX];rfl,by simp [jt,qk]⟩
  ·rename_i off a o h1 hx;cases h;exact ⟨_,fun call uq=>by rw [zn,kH hr hx];simp only [h1,zu,zAB,zC,evC,zX];rfl,rfl⟩
  ·cases h
 case field t x f =>
  split at h
  ·rename_i ft off cs h1 hx;split at h
   ·rename_i x' hp;cases h;exact ⟨clr (zC ρ pa x'),fun call uq=>by rw [zkj,kH hr hx];simp only [h1,zhe,zAB,zC,wG (ρ:=ρ) (pa:=pa) hp,zAC];cases x'<;>rfl,by simp [jt,kG]⟩
   ·cases h
  ·cases h
 case indexAddr t x ix =>
  split at h
  ·rename_i len e k i hu hi;have ei:=jx hr hi;split at h
   ·rename_i n cs hn hx;split at h
    ·rename_i hlt;cases h;obtain ⟨v,h3,h4⟩:=wt hr hx;cases h4;exact ⟨_,fun call uq=>by rw [qh,h3,ei];simp only [wv,evI];simp [z8,hu,hn,zaQ hlt];rfl,by simp [jt,qk]⟩
    ·cases h
   ·rename_i n a off hn hx;split at h
    ·rename_i hlt;cases h;exact ⟨_,fun call uq=>by rw [qh,kH hr hx,ei];simp only [wv,evI];simp [z8,hu,hn,zaQ hlt,zC,evC];rfl,rfl⟩
    ·cases h
   ·cases h
  ·cases h
 case index t x ix =>
  split at h
  ·rename_i len e k i hu hi;have ei:=jx hr hi;split at h
   ·rename_i n cs hn hx;split at h
    ·rename_i hlt;split at h
     ·rename_i x' hp;cases h;have hp':=wG (ρ:=ρ) (pa:=pa) hp;exact ⟨clr (zC ρ pa x'),fun call uq=>by rw [zdM,kH hr hx,ei];simp only [wv,evI];simp [zcd,hu,hn,zaQ hlt,zC,hp'];cases x'<;>rfl,by simp [jt,kG]⟩
     ·cases h
    ·cases h
   ·cases h
  ·cases h
 case extract x i =>
  split at h
  ·rename_i xs hx;split at h
   ·rename_i x' hn;cases h;obtain ⟨v,h3,h4⟩:=wt hr hx;cases h4;exact ⟨_,fun call uq=>by rw [qM,h3];simp only [zAB,zks,we,hn,zAC];rfl,by simp [jt,kG]⟩
   ·cases h
  ·cases h
 case call c =>
  obtain ⟨callee,args,ats⟩:=c;obtain ⟨args⟩:=args;obtain ⟨ats⟩:=ats;simp only at h;split at h
  ·rename_i x t;split at h
   ·rename_i c hu hc;split at h
    ·rename_i s hs;cases h;exact ⟨_,fun call uq=>by rw [kF,q6 hr hc,wF (pa:=pa) hr.ks hs];simp only [zAB,kO,hu,zAC];rfl,rfl⟩
    ·cases h
   ·rename_i e c hu hc;split at h
    ·rename_i n hn;split at h
     ·rename_i l hl;cases h;refine ⟨_,fun call uq=>?_,rfl⟩;rw [kF,q6 hr hc];rcases zaj (pa:=pa) hr.ks hl with ⟨e1,e2⟩|⟨o,e1⟩
      ·rw [e1];simp only [zAB,kO,hu,zAC,zC,evC,evI,e2];rfl
      ·rw [e1];simp only [zAB,kO,hu,zAC,zC,evC,evI];rfl
     ·cases h
    ·cases h
   ·cases h
  ·rename_i x y;split at h
   ·rename_i k a k' b hx hy;split at h
    ·rename_i hkk;subst hkk;cases h;refine ⟨_,fun call uq=>?_,rfl⟩;simp only [Cx.op,Cx.builtin,jx hr hx,jx hr hy,Option.bind_eq_bind,zAB,zC,evC,evI,evB,cmI,cond_eq_ite,decide_eq_true_eq]
    ·cases h
   ·cases h
  ·rename_i x y;split at h
   ·rename_i k a k' b hx hy;split at h
    ·rename_i hkk;subst hkk;cases h;refine ⟨_,fun call uq=>?_,rfl⟩;simp only [Cx.op,Cx.builtin,jx hr hx,jx hr hy,Option.bind_eq_bind,zAB,zC,evC,evI,evB,cmI,cond_eq_ite,decide_eq_true_eq]
    ·cases h
   ·cases h
  ·cases h
end Go.Vm.Sx
namespace Go.Vm.Sx
open Go Go.Vm
variable {P:Program} {gl:Nat->Nat->Option V} {ρ ρ':List V} {pa pa':List Nat} {σ:Sg} {s:St} {n0:Nat} {B:List Blk} {env:List V} {H:Hp} {lk:List (Nat×Nat)} {df:List (V×List V)}
def vH (l:List (Nat×Nat)) (a off:Nat):Bool:=yM (fun p=>Nat.beq p.1 a && Nat.beq p.2 off) l
structure Rel (n0:Nat) (B:List Blk) (ρ:List V) (pa:List Nat) (σ:Sg) (s:St):Prop where
 ext:∀ ρ' pa',ρ <+: ρ'->pa <+: pa'->PRel ρ' pa' σ s.env s.H
 len:σ.env.length=s.env.length
 na:pa.length=σ.na
 inj:∀ a a',a<σ.na->a'<σ.na->pd pa a=pd pa a'->a=a'
 lo:∀ a,σ.nf<=a->a<σ.na->n0<=pd pa a
 hi:∀ a,a<σ.na->pd pa a<s.H.blks.length
 kl:ρ.length=σ.ks.length
 top:tops ρ=0
 edg:∀ e∈s.H.edges,n0<=e.1
 base:∀ b,b<n0->(∀ a,a<σ.nf->pd pa a≠b)->s.H.blks[b]?=B[b]?
 blen:n0<=s.H.blks.length
 df:s.defers=[]
 lk:∀ a off,vH σ.lk a off=true->∀ cs ty c,s.H.get (pd pa a)=some (.cells cs ty)->nth cs off=some c->locked c=true->s.lk.any (fun p=>Nat.beq p.1 (pd pa a) && Nat.beq p.2 off)=true
 bn:∀ a x,jv a σ.blks=some x->a<σ.na
 ln:∀ a off,vH σ.lk a off=true->a<σ.na
 nf:σ.nf<=σ.na
theorem Rel.here (h:Rel n0 B ρ pa σ s):PRel ρ pa σ s.env s.H:=h.ext ρ pa (zAK _) (zAK _)
theorem wX (h:ρ <+: ρ') {i:Nat} (hi:i<ρ.length):at' ρ' i=at' ρ i:=by
 obtain ⟨x,rfl⟩:=h;exact kQ hi
theorem zir {α:Type} {l:List α} {i:Nat} {a:α} (h:nth l i=some a):i<l.length:=by
 rw [zq] at h;exact (zAG.1 h).1
theorem jl (h:pa <+: pa') {a:Nat} (ha:a<pa.length):pd pa' a=pd pa a:=by
 obtain ⟨x,rfl⟩:=h;simp [pd,zq,zAe ha]
theorem kY (a b:List V):tops (a++b)=max (tops a) (tops b):=by
 induction a with
 | nil=>simp [tops]
 | cons v vs ih=>simp only [zAY,tops,ih];omega
theorem vj {v:V}:∀ {l:List V},v∈l->tops l=0->v.top=0
 | x::xs,h,ht=>by
  simp only [tops] at ht;rcases zAO.1 h with rfl|h
  ·omega
  ·exact vj h (by omega)
theorem zbQ {l:List V} (h:∀ v∈l,v.top=0):tops l=0:=by
 induction l with
 | nil=>rfl
 | cons v vs ih =>
  simp only [tops,h v zAL,ih fun w hw=>h w (zAE _ hw)];rfl
theorem xC (h:tops ρ=0) (i:Nat):(at' ρ i).top=0:=by
 rw [yN];cases hi:ρ[i]? with
 | none=>rfl
 | some v=>exact vj (zAh hi) h
theorem top_clr (v:V):(clr v).top=v.top:=by cases v<;>rfl
theorem ksOk_nth:∀ {cks:List CK} {x:List V} {j:Nat} {k:CK},ksOk cks x=true->cks[j]?=some k->∃ v,x[j]?=some v/\kOk k v=true
 | [],_,j,k,_,h=>by simp at h
 | c::cs,[],j,k,hk,h=>by simp [ksOk] at hk
 | c::cs,v::vs,0,k,hk,h=>by
  simp only [ksOk,zAF] at hk;simp at h;subst h;exact ⟨v,rfl,hk.1⟩
 | c::cs,v::vs,j+1,k,hk,h=>by
  simp only [ksOk,zAF] at hk;simp at h;obtain ⟨w,h1,h2⟩:=ksOk_nth hk.2 h;exact ⟨w,by simpa using h1,h2⟩
theorem ksOk_len:∀ {cks:List CK} {x:List V},ksOk cks x=true->x.length=cks.length
 | [],[],_=>rfl
 | [],_::_,h=>by cases h
 | _::_,[],h=>by cases h
 | c::cs,v::vs,h=>by
  simp only [ksOk,zAF] at h;simp [ksOk_len h.2]
theorem Rel.push {x:List V} {cks:List CK} (h:Rel n0 B ρ pa σ s) (hk:ksOk cks x=true) (ht:tops x=0):Rel n0 B (ρ++x) pa { σ with ks:=σ.ks++cks } s:=by
 have hl:=ksOk_len hk;refine ⟨fun ρ' pa' h1 h2=>?_,h.len,h.na,h.inj,h.lo,h.hi,by simp [h.kl,hl],by rw [kY,h.top,ht];rfl,h.edg,h.base,h.blen,h.df,h.lk,h.bn,h.ln,h.nf⟩
 have h0:ρ <+: ρ':=(zAq _ _).trans h1;obtain ⟨e1,e2,e3,e4⟩:=h.ext ρ' pa' h0 h2;refine ⟨e1,e2,fun i k hi=>?_,e4⟩;simp only [zq] at hi
 by_cases hlt:i<σ.ks.length
 ·rw [zAe hlt] at hi;exact e3 i k (by rw [zq];exact hi)
 ·rw [zAf (by omega)] at hi
  obtain ⟨v,h3,h4⟩:=ksOk_nth hk hi;have:at' ρ' i=v:=by
   rw [wX h1 (by have:=(zAG.1 hi).1;have:=h.kl;simp;omega)]
   rw [yN,zAf (by rw [h.kl];omega),h.kl,h3];rfl
  rw [this];exact h4
theorem Rel.push1 {v:V} {ck:CK} (h:Rel n0 B ρ pa σ s) (hk:kOk ck v=true) (ht:v.top=0):Rel n0 B (ρ++[v]) pa { σ with ks:=σ.ks++[ck] } s :=
 h.push (by simp [ksOk,hk]) (by simp [tops,ht])
theorem y9 {ρ:List V} {v:V}:at' (ρ++[v]) ρ.length=v:=by simp [yN]
theorem Rel.kind {i:Nat} {ck:CK} (h:Rel n0 B ρ pa σ s) (hi:i<σ.ks.length) (hk:kOk ck (at' ρ i)=true):Rel n0 B ρ pa { σ with ks:=σ.ks.set i ck } s:=by
 refine ⟨fun ρ' pa' h1 h2=>?_,h.len,h.na,h.inj,h.lo,h.hi,by simp [h.kl],h.top,h.edg,h.base,h.blen,h.df,h.lk,h.bn,h.ln,h.nf⟩
 obtain ⟨e1,e2,e3,e4⟩:=h.ext ρ' pa' h1 h2;refine ⟨e1,e2,fun j k hj=>?_,e4⟩;simp only [zq,zAx] at hj;split at hj
 ·rename_i hij;subst hij;simp [] at hj;subst hj;rw [wX h1 (by rw [h.kl];exact hi)];exact hk
 ·exact e3 j k (by rw [zq];exact hj)
theorem Rel.put {d:Nat} {sv:SV} {v:V} (h:Rel n0 B ρ pa σ ⟨env,H,lk,df⟩) (hv:∀ ρ' pa',ρ <+: ρ'->pa <+: pa'->∀ v',jt ρ' pa' sv=some v'->v'=v):Rel n0 B ρ pa { σ with env:=σ.env.set d sv } ⟨env.set d v,H,lk,df⟩:=by
 refine ⟨fun ρ' pa' h1 h2=>?_,by simpa using h.len,h.na,h.inj,h.lo,h.hi,h.kl,h.top,h.edg,h.base,h.blen,h.df,h.lk,h.bn,h.ln,h.nf⟩
 obtain ⟨e1,e2,e3,e4⟩:=h.ext ρ' pa' h1 h2;refine ⟨fun i sw w hi hw=>?_,e2,e3,e4⟩;simp only [zq,zAx] at hi ⊢;have hl:=h.len;simp only at hl;split at hi
 ·rename_i hij;subst hij;split at hi
  ·rename_i hlt;cases hi;rw [hl] at hlt;simp [hlt,hv ρ' pa' h1 h2 w hw]
  ·cases hi
 ·rename_i hij;simp only [hij,if_false];have:=e1 i sw w (by rw [zq];exact hi) hw
  rwa [zq] at this
theorem Rel.putS {d:Option Tmp} {sv:SV} {v:V} (h:Rel n0 B ρ pa σ ⟨env,H,lk,df⟩) (hv:∀ ρ' pa',ρ <+: ρ'->pa <+: pa'->∀ v',jt ρ' pa' sv=some v'->v'=v):Rel n0 B ρ pa (putS σ d sv) ⟨zl env d v,H,lk,df⟩:=by
 cases d with
 | none=>exact h
 | some d=>exact h.put hv
theorem Rel.cond {c:TB} (h:Rel n0 B ρ pa σ s) (hc:∀ ρ' pa',ρ <+: ρ'->pa <+: pa'->evB ρ' c=true):Rel n0 B ρ pa { σ with as:=yz c σ.as } s :=
 ⟨fun ρ' pa' h1 h2=>⟨(h.ext ρ' pa' h1 h2).env,(h.ext ρ' pa' h1 h2).blks,(h.ext ρ' pa' h1 h2).ks,zdY (hc ρ' pa' h1 h2) (h.ext ρ' pa' h1 h2).as⟩,h.len,h.na,h.inj,h.lo,h.hi,h.kl,h.top,h.edg,h.base,h.blen,h.df,h.lk,h.bn,h.ln,h.nf⟩
theorem Rel.noLk (h:Rel n0 B ρ pa σ ⟨env,H,lk,df⟩):Rel n0 B ρ pa { σ with lk:=[] } ⟨env,H,[],df⟩ :=
 ⟨fun ρ' pa' h1 h2=>⟨(h.ext ρ' pa' h1 h2).env,(h.ext ρ' pa' h1 h2).blks,(h.ext ρ' pa' h1 h2).ks,(h.ext ρ' pa' h1 h2).as⟩,h.len,h.na,h.inj,h.lo,h.hi,h.kl,h.top,h.edg,h.base,h.blen,h.df,fun a off hh=>by simp [vH,yM] at hh,h.bn,fun a off hh=>by simp [vH,yM] at hh,h.nf⟩
theorem wi {a b:Nat} {x:List C×TypeId} {l:List (Nat×List C×TypeId)}:jv a ((b,x)::l)=if a=b then some x else jv a l:=by
 simp only [jv]
 by_cases h:a=b
 ·subst h;simp
 ·have:Nat.beq a b=false:=by cases hb:Nat.beq a b with|false=>rfl|true=>exact absurd (jI hb) h
  simp [h,this]
theorem get_push {H:Hp} {b:Nat} {x y:Blk} (h:H.get b=some x):(H.push y).get b=some x:=by
 simp only [Hp.get,Hp.push] at h ⊢;exact zaI h
theorem Rel.block {cs:List C} {vs:List V} {t:TypeId} (h:Rel n0 B ρ pa σ ⟨env,H,lk,df⟩) (hv:∀ ρ' pa',ρ <+: ρ'->pa <+: pa'->zr ρ' pa' cs=vs):Rel n0 B ρ (pa++[H.blks.length]) (yB σ cs t) ⟨env,H.push (.cells vs t),lk,df⟩:=by
 have pda:∀ a,a<σ.na->pd (pa++[H.blks.length]) a=pd pa a:=fun a ha=>jl (zAq _ _) (by rw [h.na];exact ha)
 have pdn:pd (pa++[H.blks.length]) σ.na=H.blks.length:=by
  simp [pd,zq,<- h.na]
 refine ⟨fun ρ' pa' h1 h2=>?_,h.len,by simp [yB,h.na],?_,?_,?_,h.kl,h.top,h.edg,?_,?_,h.df,?_,?_,?_,?_⟩
 ·have h0:pa <+: pa':=(zAq _ _).trans h2;obtain ⟨e1,e2,e3,e4⟩:=h.ext ρ' pa' h1 h0;refine ⟨e1,fun a c ty hf=>?_,e3,e4⟩;simp only [yB,wi] at hf;split at hf
  ·rename_i ha;subst ha;cases hf;rw [jl h2 (by simp [h.na]),pdn,hv ρ' pa' h1 h0]
   simp [Hp.get,Hp.push,zq]
  ·exact get_push (e2 a c ty hf)
 ·intro a a' ha ha' he;simp only [yB] at ha ha'
  by_cases h1:a<σ.na<;>by_cases h2:a'<σ.na
  ·rw [pda a h1,pda a' h2] at he;exact h.inj a a' h1 h2 he
  ·obtain rfl:a'=σ.na:=by omega
   rw [pda a h1,pdn] at he;have:=h.hi a h1;simp only at this;omega
  ·obtain rfl:a=σ.na:=by omega
   rw [pda a' h2,pdn] at he;have:=h.hi a' h2;simp only at this;omega
  ·omega
 ·intro a h1 h2;simp only [yB] at h1 h2
  by_cases h3:a<σ.na
  ·rw [pda a h3];exact h.lo a h1 h3
  ·obtain rfl:a=σ.na:=by omega
   rw [pdn];exact h.blen
 ·intro a h2;simp only [yB] at h2;simp only [Hp.push,zAi,List.length_singleton]
  by_cases h3:a<σ.na
  ·rw [pda a h3];have:=h.hi a h3;simp only at this;omega
  ·obtain rfl:a=σ.na:=by omega
   rw [pdn];omega
 ·intro b hb hn;have h1:=h.blen;simp only at h1;simp only [Hp.push];rw [zAe (by omega)]
  exact h.base b hb fun a ha=>by rw [<- pda a (by have:=h.nf;omega)];exact hn a ha
 ·have h1:=h.blen;simp only at h1;simp only [Hp.push,zAi];omega
 ·intro a off hl cs' ty c hg hc hlk;simp only [yB] at hl hg;have ha:=h.ln a off hl;rw [pda a ha] at hg ⊢;refine h.lk a off hl cs' ty c ?_ hc hlk;have:=h.hi a ha;simp only at this;simp only [Hp.get,Hp.push,zq] at hg ⊢
  rwa [zAe this] at hg
 ·intro a x hf;simp only [yB,wi] at hf ⊢;split at hf
  ·omega
  ·have:=h.bn a x hf;omega
 ·intro a off hl;have:=h.ln a off hl;simp only [yB];omega
 ·have:=h.nf;simp only [yB];omega
theorem xD {a b:Nat} {cs:List C}:∀ {l:List (Nat×List C×TypeId)},jv b (zdQ a cs l)=if a=b then (jv b l).map (fun x=>(cs,x.2)) else jv b l
 | []=>by simp [zdQ,jv]
 | (c,x,t)::r=>by
  by_cases hac:a=c
  ·subst hac;simp only [zdQ,zBS,if_true,wi]
   by_cases hb:b=a
   ·subst hb;simp
   ·have:¬ a=b:=fun e=>hb e.symm;simp [hb,this]
  ·have h0:Nat.beq a c=false:=by cases hb:Nat.beq a c with|false=>rfl|true=>exact absurd (jI hb) hac
   simp only [zdQ,h0,zAD,if_false,wi,xD]
   by_cases hb:b=c
   ·subst hb;simp [hac]
   ·simp [hb]
theorem xE {H:Hp} {b:Nat} {x:Blk} (h:b<H.blks.length):(H.set b x).get b=some x:=by
 simp [Hp.get,Hp.set,zq,h]
theorem yh {H:Hp} {b c:Nat} {x:Blk} (h:b≠c):(H.set b x).get c=H.get c:=by
 simp [Hp.get,Hp.set,zq,h]
theorem zct {H:Hp} {b:Nat} {v:V}:(H.edge b v).blks=H.blks:=by
 unfold Hp.edge;split<;>rfl
theorem zbR {H:Hp} {b c:Nat} {v:V}:(H.edge b v).get c=H.get c:=by
 simp [Hp.get,zct]
theorem zis {H:Hp} {b:Nat} {v:V} {e:Nat×Nat} (h:e∈(H.edge b v).edges):e∈H.edges\/(e=(b,v.top)/\v.top≠0):=by
 unfold Hp.edge at h;split at h
 ·exact .inl h
 ·simp only [zAO] at h;rcases h with rfl|h
  ·exact .inr ⟨rfl,by omega⟩
  ·exact .inl h
theorem Rel.write {a:Nat} {cs0 cs:List C} {vs:List V} {ty:TypeId} {v:V} {lk2:List (Nat×Nat)} {lk':List (Nat×Nat)} (h:Rel n0 B ρ pa σ ⟨env,H,lk,df⟩) (hf:jv a σ.blks=some (cs0,ty))
  (hv:∀ ρ' pa',ρ <+: ρ'->pa <+: pa'->zr ρ' pa' cs=vs) (htop:σ.nf<=a\/v.top=0)
  (hl1:∀ b off,vH lk2 b off=true->b<σ.na)
  (hl2:∀ b off,b<σ.na->b≠a->vH lk2 b off=true->vH σ.lk b off=true) (hl3:∀ x,x∈lk->x∈lk')
  (hl4:∀ off c,vH lk2 a off=true->nth vs off=some c->locked c=true->lk'.any (fun p=>Nat.beq p.1 (pd pa a) && Nat.beq p.2 off)=true) :
  Rel n0 B ρ pa { σ with blks:=zdQ a cs σ.blks,lk:=lk2 } ⟨env,(H.set (pd pa a) (.cells vs ty)).edge (pd pa a) v,lk',df⟩:=by
 have ha:=h.bn a _ hf;have hlen:((H.set (pd pa a) (.cells vs ty)).edge (pd pa a) v).blks.length=H.blks.length:=by simp [zct,Hp.set]
 have hha:=h.hi a ha;simp only at hha;refine ⟨fun ρ' pa' h1 h2=>?_,h.len,h.na,h.inj,h.lo,fun b hb=>by simp only [hlen];exact h.hi b hb,h.kl,h.top,fun e he=>?_,fun b hb hn=>?_,by simp only [hlen];exact h.blen,h.df,fun b off hl cs' ty' c hg hc hlk=>?_,fun b x hb=>?_,hl1,h.nf⟩
 ·obtain ⟨e1,e2,e3,e4⟩:=h.ext ρ' pa' h1 h2;refine ⟨e1,fun b c t hb=>?_,e3,e4⟩;have pdb:∀ b,b<σ.na->pd pa' b=pd pa b:=fun b hb=>jl h2 (by rw [h.na];exact hb)
  simp only [xD] at hb;simp only [zbR];split at hb
  ·rename_i hab;subst hab;rw [hf] at hb;simp only [zAC,zAA,zAH] at hb;obtain ⟨rfl,rfl⟩:=hb;rw [pdb a ha,xE hha,hv ρ' pa' h1 h2]
  ·rename_i hab;have hb':=h.bn b _ hb;rw [yh]
   ·exact e2 b c t hb
   ·rw [pdb b hb'];intro e;exact hab (h.inj a b ha hb' e)
 ·rcases zis he with he|⟨rfl,ht⟩
  ·exact h.edg e he
  ·rcases htop with htop|htop
   ·exact h.lo a htop ha
   ·exact absurd htop ht
 ·simp only [zct,Hp.set];rw [zAx];split
  ·rename_i e;subst e;rcases zAg a σ.nf with hn1|hn1
   ·exact absurd rfl (hn a hn1)
   ·have:=h.lo a hn1 ha;omega
  ·exact h.base b hb hn
 ·by_cases hab:b=a
  ·subst hab;simp only [zbR] at hg;rw [xE hha] at hg;cases hg;exact hl4 off c hl hc hlk
  ·have hb:=hl1 b off hl;simp only [zbR] at hg;rw [yh (fun e=>hab (h.inj a b ha hb e).symm)] at hg;have:=h.lk b off (hl2 b off hb hab hl) cs' ty' c hg hc hlk;simp only [List.any_eq_true] at this ⊢;obtain ⟨x,hx,hx2⟩:=this;exact ⟨x,hl3 x hx,hx2⟩
 ·simp only [xD] at hb;split at hb
  ·rename_i hab;subst hab;exact ha
  ·exact h.bn b x hb
end Go.Vm.Sx
namespace Go.Vm.Sx
open Go Go.Vm
abbrev PH:=FuncId->List AV->List (List V×TypeId)->Option (V×List (List V))
variable {P:Program} {gl:Gl} {ph:PH} {N:Nat} {r:Nat×List V} {ρ ρ':List V} {pa pa':List Nat} {σ:Sg} {s:St} {n0:Nat} {B:List Blk} {env:List V} {H:Hp} {lk:List (Nat×Nat)} {df:List (V×List V)} {takes:List Tmp}
def znn (x:OR) (v:V):Prop:=x=.val v\/(x=.skip/\v=.tup [])
def Step (P:Program) (gl:Gl) (ph:PH) (N:Nat) (r:Nat×List V) (n0:Nat) (B:List Blk) (k:KT) (takes:List Tmp) (o:Oper) (σ:Sg) (ρ:List V) (pa:List Nat) (s:St):Prop :=
 ∃ σ' sv ρ' pa' t' x s' v,k σ' sv=some t'/\evT ph gl N t' ρ'=some r/\ρ <+: ρ'/\pa <+: pa'/\Rel n0 B ρ' pa' σ' s' /\
  (∃ k0,∀ n,k0<=n->Cx.op ⟨P,gl,zx P gl n,gl.uq⟩ takes o s.env s.H s.lk s.defers=some (x,s'))/\znn x v /\
  (∀ ρ'' pa'',ρ' <+: ρ''->pa' <+: pa''->∀ v',jt ρ'' pa'' sv=some v'->v'=v)/\∀ b,jW takes σ o=some (.wr b)->∀ A,A≠pd pa' b->s'.H.get A=s.H.get A
theorem xc {o:Oper} {k:KT} {t:Tree} (h:vG P σ o.op k=some t) (hr:Rel n0 B ρ pa σ ⟨env,H,lk,df⟩) (hq:evT ph gl N t ρ=some r) (ht:qB takes o.dst=false) :
  Step P gl ph N r n0 B k takes o σ ρ pa ⟨env,H,lk,df⟩:=by
 unfold vG at h;split at h
 ·rename_i sv hsv;obtain ⟨v,h1,h2⟩:=zbP (gl:=gl) (lk:=lk) (df:=df) hr.here ht hsv;refine ⟨σ,sv,ρ,pa,t,.val v,_,v,h,hq,zAK _,zAK _,hr,⟨0,fun n _=>h1 _ _⟩,.inl rfl,fun ρ'' pa'' e1 e2 v' hv'=>?_,fun _ _ _ _=>rfl⟩;obtain ⟨w,h3,h4⟩:=zbP (gl:=gl) (lk:=lk) (df:=df) (hr.ext ρ'' pa'' e1 e2) ht hsv;have:=(h1 (zx P gl 0) gl.uq).symm.trans (h3 (zx P gl 0) gl.uq);simp only [zAA,zAH,OR.val.injEq] at this
  rw [this.1];exact zA1 (hv'.symm.trans h4)
 ·cases h
theorem km {c:TB} {t:Option Tree} {t0:Tree} (h:vF c t=some t0) (hq:evT ph gl N t0 ρ=some r):∃ t1,t=some t1/\evT ph gl N t1 ρ=some r/\evB ρ c=true:=by
 unfold vF at h;split at h
 ·exact ⟨t0,h,hq,rfl⟩
 ·split at h
  ·rename_i t1;cases h;simp only [evT,cond_eq_ite] at hq;split at hq
   ·rename_i hc;exact ⟨t1,rfl,hq,hc⟩
   ·cases hq
  ·cases h
theorem zbS {e:VE} {t:Option Tree} {t0:Tree} (h:zkl e t=some t0) (hq:evT ph gl N t0 ρ=some r):∃ t1,t=some t1/\evT ph gl N t1 (ρ++[qR ρ e])=some r:=by
 unfold zkl at h;split at h
 ·rename_i t1;cases h;exact ⟨t1,rfl,hq⟩
 ·cases h
theorem zbT {pa:List Nat} {y:List V}:∀ {x z:List V} {ks:List CK} {i:Nat},z.length=ks.length->x.length=i->zr (x++z++y) pa (lits ks i)=z
 | _,[],[],i,_,_=>rfl
 | _,[],_::_,i,h,_=>by simp at h
 | _,_::_,[],i,h,_=>by simp at h
 | x,v::vs,k::ks,i,h,hi=>by
  simp only [lits,zr];have h1:at' (x++v::vs++y) i=v:=by
   rw [yN];subst hi;simp
  have h2:=zbT (pa:=pa) (x:=x++[v]) (y:=y) (z:=vs) (ks:=ks) (i:=i+1) (by simpa using h) (by simp [hi])
  simp only [zAb,zAY,zAW] at h1 h2 ⊢;rw [h2];simp only [evC];rw [h1]
theorem zaK {ty:TypeId} {i:Nat} {k:Sg->SC->Option Tree} {t:Tree} (h:xz P σ ty i k=some t) (hr:Rel n0 B ρ pa σ s) (hi:i<σ.ks.length) (hq:evT ph gl N t ρ=some r) :
  ∃ ks' sc ρ' t',k { σ with ks:=ks' } sc=some t'/\evT ph gl N t' ρ'=some r/\ρ <+: ρ'/\Rel n0 B ρ' pa { σ with ks:=ks' } s/\(∀ ρ'' pa'',ρ' <+: ρ''->zC ρ'' pa'' sc=at' ρ i)/\(∀ ρ'' pa'',ρ' <+: ρ''->zr ρ'' pa'' (cellsSC sc)=(at' ρ i).cells):=by
 have hi':i<ρ.length:=by rw [hr.kl];exact hi
 unfold xz at h;split at h
 ·split at h
  ·rename_i ks hl;split at h
   ·rename_i t' ht';cases h;simp only [evT] at hq;split at hq
    ·rename_i cs hcs;rw [cond_eq_ite] at hq;split at hq
     ·rename_i hk;have htop:tops cs=0:=by have:=xC hr.top i;rw [hcs] at this;exact this
      have hlen:=ksOk_len hk;have hev:∀ ρ'' pa'',ρ++cs <+: ρ''->zr ρ'' pa'' (lits ks σ.ks.length)=cs:=by
       rintro ρ'' pa'' ⟨y,rfl⟩;exact zbT hlen hr.kl
      exact ⟨_,_,ρ++cs,t',ht',hq,zAq _ _,hr.push hk htop,fun ρ'' pa'' e=>by rw [hcs];simp only [zC];rw [hev ρ'' pa'' e],fun ρ'' pa'' e=>by rw [hcs];exact hev ρ'' pa'' e⟩
     ·cases hq
    ·cases hq
   ·cases h
  ·cases h
 ·split at h
  ·rename_i ck hck;split at h
   ·rename_i t' ht';cases h;simp only [evT,cond_eq_ite] at hq;split at hq
    ·rename_i hk;refine ⟨_,_,ρ,t',ht',hq,zAK _,hr.kind hi hk,fun ρ'' pa'' e=>?_,fun ρ'' pa'' e=>?_⟩
     ·simp only [zC,evC];exact wX e hi'
     ·simp only [cellsSC,zr,evC];rw [wX e hi'];have hne:ck≠.raw:=by
       unfold ckT at hck
       repeat' split at hck
       all_goals first|(cases hck;intro e;cases e;done)|(cases hck;done)
      exact ((zbb (yC hk hne).1).1).symm
    ·cases hq
   ·cases h
  ·cases h
 ·cases h
theorem zoP {v:V} (h:v.top=0):tops (Sx.vL v)=0:=by
 cases v<;>first|rfl|exact h
theorem tops_take {l:List V} (h:tops l=0) (n:Nat):tops (l.take n)=0:=zbQ fun _v hv=>vj (zA3 hv) h
theorem tops_drop {l:List V} (h:tops l=0) (n:Nat):tops (l.drop n)=0:=zbQ fun _v hv=>vj (zBB hv) h
theorem yD (h:tops ρ=0):∀ (l:TL),tops (evL ρ l)=0
 | .var i=>zoP (xC h i)
 | .nil=>rfl
 | .snoc l i=>by simp only [evL,kY,yD h l,tops,xC h i];rfl
 | .cat a b=>by simp only [evL,kY,yD h a,yD h b];rfl
 | .sub l a b=>by simp only [evL];exact tops_drop (tops_take (yD h l) _) _
 | .ofS s=>zbQ fun v hv=>by
   simp only [evL,zA4] at hv;obtain ⟨_,_,rfl⟩:=hv;rfl
theorem zam (hk:∀ i k,nth σ.ks i=some k->kOk k (at' ρ i)=true) (ht:tops ρ=0) {c:C} (h:zag σ.ks c=true):(evC ρ pa c).top=0/\locked (evC ρ pa c)=false/\∀ pa',evC ρ pa' c=evC ρ pa c:=by
 cases c with
 | k v =>
  simp only [zag,zAF,zAr] at h;exact ⟨jI h.1,h.2,fun _=>rfl⟩
 | v i cl =>
  simp only [zag] at h;have hl:locked (at' ρ i)=false:=by
   split at h
   all_goals first
    |(rename_i h0;exact (yC (hk _ _ h0) (by intro e;cases e)).2)
    |cases h
  refine ⟨?_,?_,fun _=>by cases cl<;>rfl⟩
  ·cases cl
   ·exact xC ht i
   ·simp only [evC,top_clr];exact xC ht i
  ·cases cl
   ·exact hl
   ·simp only [evC];cases hv:at' ρ i<;>rfl
 | i k t=>exact ⟨rfl,rfl,fun _=>rfl⟩
 | b t=>exact ⟨rfl,rfl,fun _=>rfl⟩
 | s t=>exact ⟨rfl,rfl,fun _=>rfl⟩
 | sl sz t o =>
  refine ⟨yD ht t,?_,fun _=>rfl⟩;cases o<;>first|rfl|cases h
 | p a off=>cases h
 | lkd i=>cases h
theorem wu (hk:∀ i k,nth σ.ks i=some k->kOk k (at' ρ i)=true) (ht:tops ρ=0):∀ {cs:List C},wQ σ.ks cs=true->tops (zr ρ pa cs)=0/\(∀ v∈zr ρ pa cs,locked v=false)/\∀ pa',zr ρ pa' cs=zr ρ pa cs
 | [],_=>⟨rfl,fun v hv=>by simp [zr] at hv,fun _=>rfl⟩
 | c::cs,h=>by
  simp only [wQ,zAF] at h;obtain ⟨a1,a2,a3⟩:=zam (pa:=pa) hk ht h.1;obtain ⟨b1,b2,b3⟩:=wu hk ht h.2;refine ⟨by simp only [zr,tops,a1,b1];rfl,fun v hv=>?_,fun pa'=>by simp only [zr,a3 pa',b3 pa']⟩
  simp only [zr,zAO] at hv;rcases hv with rfl|hv
  ·exact a2
  ·exact b2 v hv
theorem vX (hk:∀ i k,nth σ.ks i=some k->kOk k (at' ρ i)=true) (ht:tops ρ=0) {x:SC} (h:zba σ.ks x=true):(zC ρ pa x).top=0/\∀ pa',zC ρ pa' x=zC ρ pa x:=by
 cases x with
 | one c=>obtain ⟨a1,_,a3⟩:=zam (pa:=pa) hk ht h;exact ⟨a1,a3⟩
 | agg cs=>obtain ⟨a1,_,a3⟩:=wu (pa:=pa) hk ht h;exact ⟨a1,fun pa'=>by simp only [zC,a3 pa']⟩
theorem zkv {t:Nat} {v:V} (h:∀ sz xs e,v≠.sl sz xs (.yes e)):jV env t (some v)=some (clr v,env):=by
 cases v<;>first|rfl|(rename_i sz xs o;cases o<;>first|rfl|exact absurd rfl (h _ _ _))
theorem zbU {x:Operand} {k:Sg->SC->Option Tree} {t:Tree} (h:yA σ x k=some t) (hr:Rel n0 B ρ pa σ ⟨env,H,lk,df⟩) :
  ∃ e' sc env' v,k { σ with env:=e' } sc=some t/\take env x=some (v,env')/\Rel n0 B ρ pa { σ with env:=e' } ⟨env',H,lk,df⟩/\(∀ ρ'' pa'',ρ <+: ρ''->pa <+: pa''->zC ρ'' pa'' sc=v):=by
 have hself:{ σ with env:=σ.env }=σ:=rfl;cases x with
 | tmp tt =>
  simp only [yA] at h;split at h
  ·rename_i sz l e hs;have hv:∀ ρ'' pa'',ρ <+: ρ''->pa <+: pa''->nth env tt=some (.sl sz (evL ρ'' l) (.yes e)):=fun ρ'' pa'' h1 h2=>by
    obtain ⟨_,v,h3,h4⟩:=zbO (hr.ext ρ'' pa'' h1 h2) hs;cases h4;exact h3
   have h0:=hv ρ pa (zAK _) (zAK _);have hst:∀ ρ'' pa'',ρ <+: ρ''->pa <+: pa''->evL ρ'' l=evL ρ l:=fun ρ'' pa'' h1 h2=>by
    have:=(hv ρ'' pa'' h1 h2).symm.trans h0;simpa using this
   refine ⟨_,_,_,.sl sz (evL ρ l) (.yes e),h,?_,hr.put (v:=.sl sz (evL ρ l) .no) (fun ρ'' pa'' h1 h2 v' hv'=>?_),fun ρ'' pa'' h1 h2=>?_⟩
   ·rw [ze,h0];rfl
   ·cases hv';simp only [zC,evC];rw [hst ρ'' pa'' h1 h2]
   ·simp only [zC,evC];rw [hst ρ'' pa'' h1 h2]
  ·rename_i i hs;split at h
   ·rename_i hd;have hv:∀ ρ'' pa'',ρ <+: ρ''->pa <+: pa''->nth env tt=some (at' ρ'' i):=fun ρ'' pa'' h1 h2=>by
     obtain ⟨_,v,h3,h4⟩:=zbO (hr.ext ρ'' pa'' h1 h2) hs;cases h4;exact h3
    have h0:=hv ρ pa (zAK _) (zAK _);have hst:∀ ρ'' pa'',ρ <+: ρ''->pa <+: pa''->at' ρ'' i=at' ρ i:=fun ρ'' pa'' h1 h2=>by
     have:=(hv ρ'' pa'' h1 h2).symm.trans h0;simpa using this
    have hl:locked (at' ρ i)=false:=(zam (pa:=pa) hr.here.ks hr.top hd).2.1;have hr2:=hr.put (d:=tt) (sv:=.val (.one (.v i true))) (v:=clr (at' ρ i)) (fun ρ'' pa'' h1 h2 v' hv'=>by cases hv';simp only [zC,evC];rw [hst ρ'' pa'' h1 h2])
    have hsame:∀ v,nth env tt=some v->env.set tt v=env:=fun v hv=>zhg hv;cases hvi:at' ρ i with
    | sl sz xs o =>
     cases o with
     | yes e =>
      refine ⟨_,_,_,_,h,by rw [ze,h0,hvi];rfl,?_,fun ρ'' pa'' h1 h2=>?_⟩
      ·rw [hvi] at hr2;exact hr2
      ·simp only [zC,evC];rw [hst ρ'' pa'' h1 h2,hvi]
     | no =>
      refine ⟨_,_,_,_,h,by rw [ze,h0,hvi];rfl,?_,fun ρ'' pa'' h1 h2=>?_⟩
      ·rw [hvi] at hr2;simp only [clr] at hr2
       rwa [hsame _ (by rw [h0,hvi])] at hr2
      ·simp only [zC,evC];rw [hst ρ'' pa'' h1 h2,hvi];rfl
     | lock=>rw [hvi] at hl;cases hl
    | _ =>
     refine ⟨_,_,_,_,h,by rw [ze,h0,hvi];rfl,?_,fun ρ'' pa'' h1 h2=>?_⟩
     ·rw [hvi] at hr2;simp only [clr] at hr2
      rwa [hsame _ (by rw [h0,hvi])] at hr2
     ·simp only [zC,evC];rw [hst ρ'' pa'' h1 h2,hvi];rfl
   ·cases h
  ·rename_i x n1 n2 hs;split at h
   ·rename_i hny;have hv:∀ ρ'' pa'',ρ <+: ρ''->pa <+: pa''->nth env tt=some (zC ρ'' pa'' x):=fun ρ'' pa'' h1 h2=>by
     obtain ⟨_,v,h3,h4⟩:=zbO (hr.ext ρ'' pa'' h1 h2) hs;cases h4;exact h3
    have h0:=hv ρ pa (zAK _) (zAK _);have hst:∀ ρ'' pa'',ρ <+: ρ''->pa <+: pa''->zC ρ'' pa'' x=zC ρ pa x:=fun ρ'' pa'' h1 h2=>by
     have:=(hv ρ'' pa'' h1 h2).symm.trans h0;simpa using this
    refine ⟨σ.env,clrSC x,env,clr (zC ρ pa x),h,?_,hr,fun ρ'' pa'' h1 h2=>by rw [kG,hst ρ'' pa'' h1 h2]⟩
    rw [ze,h0];refine zkv ?_;intro sz xs e he;cases x with
    | agg cs=>cases he
    | one c =>
     cases c with
     | k v=>simp only [zC,evC] at he;subst he;cases hny
     | v i cl =>
      cases cl with
      | false=>exact n2 i rfl
      | true=>simp only [zC,evC] at he;cases hh:at' ρ i<;>rw [hh] at he<;>cases he
     | sl sz' t o=>simp only [zC,evC,V.sl.injEq] at he;obtain ⟨_,_,rfl⟩:=he;exact n1 _ _ _ rfl
     | lkd i=>simp only [zC,evC] at he;cases hh:at' ρ i<;>rw [hh] at he<;>cases he
     | _=>cases he
   ·cases h
  ·cases h
 | const v =>
  simp only [yA] at h;split at h
  ·rename_i x hs;have h0:=kH hr.here hs;exact ⟨σ.env,x,env,zC ρ pa x,h,by simp only [take,h0,zAC],hr,fun ρ'' pa'' h1 h2=>zA1 ((kH (hr.ext ρ'' pa'' h1 h2) hs).symm.trans h0)⟩
  ·cases h
 | global g=>simp [yA,pk] at h
 | func f=>simp [yA,pk] at h
end Go.Vm.Sx
namespace Go.Vm.Sx
open Go Go.Vm
variable {P:Program} {gl:Gl} {ph:PH} {N:Nat} {r:Nat×List V} {ρ ρ':List V} {pa pa':List Nat} {σ:Sg} {s:St} {n0:Nat} {B:List Blk} {env:List V} {H:Hp} {lk:List (Nat×Nat)} {df:List (V×List V)} {takes:List Tmp} {k:KT} {t:Tree}
variable {dst:Option Tmp} {type:TypeId} {pos:String} {after:Array Edge} {guard:Option (Nat×Bool)}
theorem vk {v:V} {ρ'':List V} (h:ρ++[v] <+: ρ'') {j:Nat} (hj:j=ρ.length):at' ρ'' j=v:=by
 subst hj;rw [wX h (by simp),y9]
theorem zcu {x ρ'':List V} (h:ρ++x <+: ρ''):ρ <+: ρ'':=(zAq _ _).trans h
theorem ql {o:Oper} {σ':Sg} {sv:SV} {ρ':List V} {t':Tree} {v:V} {env':List V} (hk:k σ' sv=some t') (hq:evT ph gl N t' ρ'=some r) (hp:ρ <+: ρ') (hr:Rel n0 B ρ' pa σ' ⟨env',H,lk,df⟩)
  (ho:∀ n,Cx.op ⟨P,gl,zx P gl n,gl.uq⟩ takes o env H lk df=some (.val v,⟨env',H,lk,df⟩)) (hv:∀ ρ'' pa'',ρ' <+: ρ''->pa <+: pa''->∀ v',jt ρ'' pa'' sv=some v'->v'=v) :
  Step P gl ph N r n0 B k takes o σ ρ pa ⟨env,H,lk,df⟩ :=
 ⟨σ',sv,ρ',pa,t',.val v,_,v,hk,hq,hp,zAK _,hr,⟨0,fun n _=>ho n⟩,.inl rfl,hv,fun _ _ _ _=>rfl⟩
theorem take_ok {o:Oper} {x:Operand} (h:yA σ x (fun σ x=>k σ (.val x))=some t) (hr:Rel n0 B ρ pa σ ⟨env,H,lk,df⟩) (hq:evT ph gl N t ρ=some r) (ho:∀ cx:Cx,cx.op takes o env H lk df=tkQ H lk df (take env x)) :
  Step P gl ph N r n0 B k takes o σ ρ pa ⟨env,H,lk,df⟩:=by
 obtain ⟨e',sc,env',v,h1,h2,h3,h4⟩:=zbU h hr;exact ql h1 hq (zAK _) h3 (v:=v) (fun n=>by rw [ho,h2];rfl) (fun ρ'' pa'' e1 e2 v' hv'=>by cases hv';exact h4 ρ'' pa'' e1 e2)
theorem zbV {c:TB} {a b:Option Tree} (h:zdT c a b=some t) (hq:evT ph gl N t ρ=some r):∃ ta tb,a=some ta/\b=some tb/\((evB ρ c=true/\evT ph gl N ta ρ=some r)\/(evB ρ c=false/\evT ph gl N tb ρ=some r)):=by
 unfold zdT at h;split at h
 ·rename_i ta tb;cases h;simp only [evT] at hq;refine ⟨ta,tb,rfl,rfl,?_⟩;cases hc:evB ρ c<;>rw [hc] at hq
  ·exact .inr ⟨rfl,hq⟩
  ·exact .inl ⟨rfl,hq⟩
 ·cases h
theorem zno {c a b:Operand} (h:xOp P takes σ ⟨dst,.pick c a b,type,pos,after,guard⟩ k=some t) (hr:Rel n0 B ρ pa σ ⟨env,H,lk,df⟩) (hq:evT ph gl N t ρ=some r) (htk:qB takes dst=false) :
  Step P gl ph N r n0 B k takes ⟨dst,.pick c a b,type,pos,after,guard⟩ σ ρ pa ⟨env,H,lk,df⟩:=by
 simp only [xOp] at h;split at h
 ·rename_i v hv;exact xc (o:=⟨dst,.pick c a b,type,pos,after,guard⟩) (by simp only [vG,hv];exact h) hr hq htk
 ·split at h
  ·rename_i tt x y hc ha hb;obtain ⟨ta,tb,h1,h2,h3⟩:=zbV h hq;have ec:=ziq hr.here hc;rcases h3 with ⟨h3,h4⟩|⟨h3,h4⟩
   ·obtain ⟨v,e1,e2⟩:=wt hr.here ha;refine ql h1 h4 (zAK _) hr (v:=v) (fun n=>by rw [qE,ec,h3,e1];rfl) (fun ρ'' pa'' f1 f2 v' hv'=>?_)
    obtain ⟨w,e3,e4⟩:=wt (hr.ext ρ'' pa'' f1 f2) ha;have:=e1.symm.trans e3;cases this;exact zA1 (hv'.symm.trans e4)
   ·obtain ⟨v,e1,e2⟩:=wt hr.here hb;refine ql h2 h4 (zAK _) hr (v:=v) (fun n=>by rw [qE,ec,h3,e1];rfl) (fun ρ'' pa'' f1 f2 v' hv'=>?_)
    obtain ⟨w,e3,e4⟩:=wt (hr.ext ρ'' pa'' f1 f2) hb;have:=e1.symm.trans e3;cases this;exact zA1 (hv'.symm.trans e4)
  ·cases h
theorem lkHas_cons {a off b o:Nat} {l:List (Nat×Nat)}:vH ((a,off)::l) b o=true ↔ (a=b/\off=o)\/vH l b o=true:=by
 simp only [vH,yM];constructor
 ·intro h;split at h
  ·rename_i hh;simp only [zAF] at hh;exact .inl ⟨jI hh.1,jI hh.2⟩
  ·exact .inr h
 ·rintro (⟨rfl,rfl⟩|h)
  ·simp
  ·split
   ·rfl
   ·exact h
theorem zho {cs:List C} {off:Nat} {c:C}:zr ρ pa (cs.set off c)=(zr ρ pa cs).set off (evC ρ pa c):=by
 simp only [qk,List.map_set]
theorem zlV {H:Hp} {b:Nat} {x:Blk} (h:H.get b=some x):H.set b x=H:=by
 obtain ⟨bs,es⟩:=H;simp only [Hp.get,zq] at h;simp only [Hp.set]
 congr 1
 apply List.ext_getElem?;intro t;rw [List.getElem?_set'];split
 ·rename_i e;subst e;rw [h];rfl
 ·rfl
theorem zbW {d:Tmp} {tt:TypeId} {a:Operand} {b off:Nat} {cs:List V} {ty:TypeId} {cx:Cx} (hd:takes.any (Nat.beq d)=true) (ha:jG cx.P tt=some false) (hp:peek env a=some (.ptr b off)) (hg:H.get b=some (.cells cs ty)) :
  (∀ sz xs e,nth cs off=some (.sl sz xs (.yes e))->cx.op takes ⟨some d,.load tt a,type,pos,after,guard⟩ env H lk df=some (.val (.sl sz xs (.yes e)),⟨env,H.set b (.cells (cs.set off (.sl sz xs .lock)) ty),(b,off)::lk,df⟩)) /\
  (nth cs off=some .snil->cx.op takes ⟨some d,.load tt a,type,pos,after,guard⟩ env H lk df=some (.val .snil,⟨env,H,lk,df⟩)):=by
 refine ⟨fun sz xs e hc=>?_,fun hc=>?_⟩
 ·simp only [Cx.op,hd,ha,hp,hg,hc,fSet_eq,q7];rfl
 ·simp only [Cx.op,hd,ha,hp,hg,hc]
theorem zlW {d:Tmp} {tt:TypeId} {a:Operand} (h:xOp P takes σ ⟨some d,.load tt a,type,pos,after,guard⟩ k=some t) (hr:Rel n0 B ρ pa σ ⟨env,H,lk,df⟩) (hq:evT ph gl N t ρ=some r) (htk:takes.any (Nat.beq d)=true) :
  Step P gl ph N r n0 B k takes ⟨some d,.load tt a,type,pos,after,guard⟩ σ ρ pa ⟨env,H,lk,df⟩:=by
 simp only [xOp,qB,htk] at h;split at h
 ·rename_i a' off hag hpk;have hp:=kH hr.here hpk;simp only [zC,evC] at hp;split at h
  ·rename_i cs ty hf;have hgb:=hr.here.blks _ _ _ hf;have hN:=hr.bn _ _ hf;have hloc:∀ (cs':List V) (b:Nat),jW takes σ ⟨some d,.load tt a,type,pos,after,guard⟩=some (.wr b)->∀ A,A≠pd pa b->(H.set (pd pa a') (.cells cs' ty)).get A=H.get A:=fun cs' b hb A hA=>by
    have hb':b=a':=by
     cases a with
     | global g=>simp [pk] at hpk
     | func f=>simp [pk] at hpk
     | tmp x=>simp [jW,qB,htk,hpk] at hb;exact hb.symm
     | const v=>simp [jW,qB,htk,hpk] at hb;exact hb.symm
    subst hb';exact yh (fun e=>hA e.symm)
   have hall:∀ ρ'' pa'',ρ <+: ρ''->pa <+: pa''->zr ρ'' pa'' cs=zr ρ pa cs:=fun ρ'' pa'' h1 h2=>by
    have:=(hr.ext ρ'' pa'' h1 h2).blks _ _ _ hf;rw [jl h2 (by rw [hr.na];exact hN),hgb] at this
    simpa using this.symm
   split at h
   ·rename_i hc;have e0:nth (zr ρ pa cs) off=some .snil:=by rw [qk,we,hc];rfl
    exact ql h hq (zAK _) hr (v:=.snil) (fun n=>(zbW htk hag hp hgb).2 e0) (fun _ _ _ _ v' hv'=>by cases hv';rfl)
   ·rename_i sz l e hc;have e0:nth (zr ρ pa cs) off=some (.sl sz (evL ρ l) (.yes e)):=by rw [qk,we,hc];rfl
    have hl:∀ ρ'' pa'',ρ <+: ρ''->pa <+: pa''->evL ρ'' l=evL ρ l:=fun ρ'' pa'' h1 h2=>by
     have h3:=hall ρ'' pa'' h1 h2;have h4:nth (zr ρ'' pa'' cs) off=some (.sl sz (evL ρ'' l) (.yes e)):=by rw [qk,we,hc];rfl
     rw [h3,e0] at h4;simpa using h4.symm
    refine ⟨_,_,ρ,pa,t,.val (.sl sz (evL ρ l) (.yes e)),_,_,h,hq,zAK _,zAK _,?_,⟨0,fun n _=>(zbW htk hag hp hgb).1 _ _ _ e0⟩,.inl rfl,fun ρ'' pa'' h1 h2 v' hv'=>by cases hv';simp only [zC,evC];rw [hl ρ'' pa'' h1 h2],hloc _⟩
    have hw:=hr.write (v:=.nilp) (lk':=(pd pa a',off)::lk) (lk2:=(a',off)::σ.lk) (cs:=cs.set off (.sl sz l .lock)) (vs:=(zr ρ pa cs).set off (.sl sz (evL ρ l) .lock)) hf (fun ρ'' pa'' h1 h2=>by rw [zho,hall ρ'' pa'' h1 h2];simp only [evC];rw [hl ρ'' pa'' h1 h2]) (.inr rfl)
     (fun b o hb=>by rcases lkHas_cons.1 hb with ⟨rfl,_⟩|hb;exact hN;exact hr.ln b o hb) (fun b o _ hne hb=>by rcases lkHas_cons.1 hb with ⟨rfl,_⟩|hb;exact absurd rfl hne;exact hb) (fun x hx=>zAE _ hx) (fun o c hb hc hlk=>?_)
    ·simpa [Hp.edge,V.top] using hw
    ·rcases lkHas_cons.1 hb with ⟨_,rfl⟩|hb
     ·simp
     ·simp only [zq,zAx] at hc;split at hc
      ·rename_i hoo;subst hoo;simp
      ·have:=hr.lk a' o hb (zr ρ pa cs) ty c hgb (by rw [zq];exact hc) hlk
       simp only [List.any_cons,this,Bool.or_true]
   ·rename_i i hc;split at h
    ·rename_i sz hki;obtain ⟨t1,h1,h2,h3⟩:=km h hq;have e0:nth (zr ρ pa cs) off=some (at' ρ i):=by rw [qk,we,hc];rfl
     have hl:∀ ρ'' pa'',ρ <+: ρ''->pa <+: pa''->at' ρ'' i=at' ρ i:=fun ρ'' pa'' h1 h2=>by
      have h3:=hall ρ'' pa'' h1 h2;have h4:nth (zr ρ'' pa'' cs) off=some (at' ρ'' i):=by rw [qk,we,hc];rfl
      rw [h3,e0] at h4;simpa using h4.symm
     simp only [evB] at h3;have hw:∀ lk',(∀ x,x∈lk->x∈lk')->(locked (lockV (at' ρ i))=true->(pd pa a',off)∈lk')->Rel n0 B ρ pa { σ with blks:=zdQ a' (cs.set off (.lkd i)) σ.blks,lk:=(a',off)::σ.lk } ⟨env,H.set (pd pa a') (.cells ((zr ρ pa cs).set off (lockV (at' ρ i))) ty),lk',df⟩:=fun lk' hl3 hl5=>by
      have hw:=hr.write (v:=.nilp) (lk':=lk') (lk2:=(a',off)::σ.lk) (cs:=cs.set off (.lkd i)) (vs:=(zr ρ pa cs).set off (lockV (at' ρ i))) hf (fun ρ'' pa'' h1 h2=>by rw [zho,hall ρ'' pa'' h1 h2];simp only [evC];rw [hl ρ'' pa'' h1 h2]) (.inr rfl)
       (fun b o hb=>by rcases lkHas_cons.1 hb with ⟨rfl,_⟩|hb;exact hN;exact hr.ln b o hb) (fun b o _ hne hb=>by rcases lkHas_cons.1 hb with ⟨rfl,_⟩|hb;exact absurd rfl hne;exact hb) hl3 (fun o c hb hc hlk=>?_)
      ·simpa [Hp.edge,V.top] using hw
      ·simp only [zq,zAx] at hc;have hthis:off=o->lk'.any (fun p=>Nat.beq p.1 (pd pa a') && Nat.beq p.2 o)=true:=fun hoo=>by
        subst hoo;have hlt:off<(zr ρ pa cs).length:=zir e0;simp [hlt] at hc;subst hc;have:=hl5 hlk;simp only [List.any_eq_true];exact ⟨_,this,by simp⟩
       rcases lkHas_cons.1 hb with ⟨_,hoo⟩|hb
       ·exact hthis hoo
       ·by_cases hoo:off=o
        ·exact hthis hoo
        ·simp only [hoo,if_false] at hc;have:=hr.lk a' o hb (zr ρ pa cs) ty c hgb (by rw [zq];exact hc) hlk
         simp only [List.any_eq_true] at this ⊢;obtain ⟨x,hx,hx2⟩:=this;exact ⟨x,hl3 x hx,hx2⟩
     cases hv:at' ρ i with
     | snil =>
      refine ql h1 h2 (zAK _) ?_ (v:=.snil) (fun n=>(zbW htk hag hp hgb).2 (by rw [e0,hv])) (fun ρ'' pa'' e1 e2 v' hv'=>by cases hv';simp only [zC,evC];rw [hl ρ'' pa'' e1 e2,hv])
      have:=hw lk (fun _ h=>h) (by rw [hv];intro h;cases h)
      rw [hv] at this e0;have e1:(zr ρ pa cs).set off (lockV .snil)=zr ρ pa cs:=zhg e0;rw [e1,zlV hgb] at this;exact this
     | sl sz' xs o =>
      cases o with
      | yes e =>
       refine ⟨_,_,ρ,pa,t1,.val (.sl sz' xs (.yes e)),_,_,h1,h2,zAK _,zAK _,?_,⟨0,fun n _=>(zbW htk hag hp hgb).1 _ _ _ (by rw [e0,hv])⟩,.inl rfl,fun ρ'' pa'' e1 e2 v' hv'=>by cases hv';simp only [zC,evC];rw [hl ρ'' pa'' e1 e2,hv],hloc _⟩
       have:=hw ((pd pa a',off)::lk) (fun _ h=>zAE _ h) (fun _=>zAL);rw [hv] at this;exact this
      | _=>rw [hv] at h3;cases h3
     | _=>rw [hv] at h3;cases h3
    ·cases h
   ·cases h
  ·cases h
 ·cases h
end Go.Vm.Sx
namespace Go.Vm.Sx
open Go Go.Vm
variable {P:Program} {gl:Gl} {ph:PH} {N:Nat} {r:Nat×List V} {ρ ρ':List V} {pa pa':List Nat} {σ:Sg} {s:St} {n0:Nat} {B:List Blk} {env:List V} {H:Hp} {lk:List (Nat×Nat)} {df:List (V×List V)} {takes:List Tmp} {k:KT} {t:Tree}
variable {dst:Option Tmp} {type:TypeId} {pos:String} {after:Array Edge} {guard:Option (Nat×Bool)}
theorem zcT {H:Hp} {A:Nat} {x:Blk} (h:A≠H.blks.length):(H.push x).get A=H.get A:=by
 simp only [Hp.get,Hp.push,zq,List.getElem?_append];split
 ·rfl
 ·rename_i hl;rw [zAu (by simp;omega),zAu (by omega)]
theorem alloc_ok {tt:TypeId} (h:xOp P takes σ ⟨dst,.alloc tt,type,pos,after,guard⟩ k=some t) (hr:Rel n0 B ρ pa σ ⟨env,H,lk,df⟩) (hq:evT ph gl N t ρ=some r) :
  Step P gl ph N r n0 B k takes ⟨dst,.alloc tt,type,pos,after,guard⟩ σ ρ pa ⟨env,H,lk,df⟩:=by
 simp only [xOp] at h;split at h
 ·rename_i z hz;split at h
  ·rename_i hk;have hb:=hr.block (cs:=cellsSC (cSC z)) (vs:=z.cells) (t:=tt) (fun ρ'' pa'' _ _=>by cases z<;>first|rfl|exact zf6 _)
   refine ⟨_,_,ρ,_,t,.val (.ptr H.blks.length 0),_,_,h,hq,zAK _,zAq _ _,hb,⟨0,fun n _=>zlw hz hk⟩,.inl rfl,fun ρ'' pa'' h1 h2 v' hv'=>?_,fun b hb A hA=>?_⟩
   rotate_left
   ·simp only [jW,zAA,Cls.wr.injEq] at hb;subst hb;exact zcT (by rw [<- hr.na] at hA;simpa [pd,zq] using hA)
   cases hv';simp only [zC,evC];rw [jl h2 (by simp [hr.na])]
   simp [pd,zq,<- hr.na]
  ·cases h
 ·cases h
theorem zde {x:SC} {v:V} (hk:zkk σ.ks x=true) (h:∀ i k,nth σ.ks i=some k->kOk k (at' ρ i)=true) (he:zC ρ pa x=v):okC v=true/\v.laid=zr ρ pa (laidSC x):=by
 obtain ⟨h1,_,h3⟩:=zdd (pa:=pa) h hk;rw [<- he];exact ⟨h1,h3⟩
theorem box_ok {tt:TypeId} {x:Operand} (h:xOp P takes σ ⟨dst,.box tt x,type,pos,after,guard⟩ k=some t) (hr:Rel n0 B ρ pa σ ⟨env,H,lk,df⟩) (hq:evT ph gl N t ρ=some r) :
  Step P gl ph N r n0 B k takes ⟨dst,.box tt x,type,pos,after,guard⟩ σ ρ pa ⟨env,H,lk,df⟩:=by
 simp only [xOp] at h;obtain ⟨e',sc,env',v,h1,h2,h3,h4⟩:=zbU h hr;split at h1
 ·rename_i hk;have hl:=zde hk h3.here.ks (h4 ρ pa (zAK _) (zAK _));have hb:=h3.block (cs:=laidSC sc) (vs:=v.laid) (t:=tt) (fun ρ'' pa'' e1 e2=>(zde hk (h3.ext ρ'' pa'' e1 e2).ks (h4 ρ'' pa'' e1 e2)).2.symm);refine ⟨_,_,ρ,_,t,.val (.ptr H.blks.length 0),_,_,h1,hq,zAK _,zAq _ _,hb,⟨0,fun n _=>by rw [kE,h2,qO hl.1]⟩,.inl rfl,fun ρ'' pa'' e1 e2 v' hv'=>?_,fun b hb A hA=>?_⟩
  rotate_left
  ·simp only [jW,zAA,Cls.wr.injEq] at hb;subst hb;exact zcT (by rw [<- hr.na] at hA;simpa [pd,zq] using hA)
  cases hv';simp only [zC,evC];rw [jl e2 (by simp [hr.na])]
  simp [pd,zq,<- hr.na]
 ·cases h1
theorem zji (hk:∀ i k,nth σ.ks i=some k->kOk k (at' ρ i)=true) (ht:tops ρ=0) {c:C} (h:zne σ.ks c=true):locked (evC ρ pa c)=false:=by
 cases c with
 | k v=>simpa [zne,evC] using h
 | v i cl =>
  have:=(zam (pa:=pa) hk ht (c:=.v i false) h).2.1;cases cl
  ·exact this
  ·simp only [evC];cases hv:at' ρ i<;>rfl
 | sl sz tl o=>cases o<;>first|rfl|cases h
 | lkd i=>cases h
 | _=>rfl
theorem zhp (hk:∀ i k,nth σ.ks i=some k->kOk k (at' ρ i)=true) (ht:tops ρ=0):∀ {cs:List C},zi6 σ.ks cs=true->∀ v∈zr ρ pa cs,locked v=false
 | [],_,v,hv=>by simp [zr] at hv
 | c::cs,h,v,hv=>by
  simp only [zi6,zAF] at h;simp only [zr,zAO] at hv;rcases hv with rfl|hv
  ·exact zji hk ht h.1
  ·exact zhp hk ht h.2 v hv
theorem zjj {lks:List (Nat×Nat)} {a b:Nat} (hk:∀ i k,nth σ.ks i=some k->kOk k (at' ρ i)=true) (ht:tops ρ=0) :
  ∀ {n off:Nat} {cs:List C},zlE lks σ.ks a off n cs=true->(∀ i c,nth cs i=some c->vH lks a (off+i)=true->locked (evC ρ pa c)=true->lk.any (fun p=>Nat.beq p.1 b && Nat.beq p.2 (off+i))=true)->vY lk b off n (zr ρ pa cs)=true
 | 0,_,cs,_,_=>by simp [vY]
 | n+1,off,[],h,_=>by simp [zlE] at h
 | n+1,off,c::cs,h,hl=>by
  simp only [zlE,zAF,zAZ] at h;simp only [zr,vY,zAF,zAZ,zAr];refine ⟨?_,zjj hk ht h.2 fun i c' h1 h2 h3=>?_⟩
  ·cases hlc:locked (evC ρ pa c) with
   | false=>exact .inl rfl
   | true =>
    right
    rcases h.1 with h1|h1
    ·exact hl 0 c rfl h1 hlc
    ·rw [zji hk ht h1] at hlc;cases hlc
  ·have:=hl (i+1) c' h1 (by rw [show off+(i+1)=off+1+i by omega];exact h2) h3
   rw [show off+(i+1)=off+1+i by omega] at this
   exact this
theorem ze4 {cs:List C} {n:Nat}:zr ρ pa (cs.drop n)=(zr ρ pa cs).drop n:=by simp only [qk,List.map_drop]
theorem zan {α:Type}:∀ {vs cs:List α} {off i:Nat} {c:α},(storeCells cs off vs)[i]?=some c->(off<=i/\i<off+vs.length/\c∈vs)\/(cs[i]?=some c)
 | [],cs,off,i,c,h=>.inr h
 | v::vs,cs,off,i,c,h=>by
  simp only [storeCells] at h;rcases zan h with ⟨h1,h2,h3⟩|h1
  ·exact .inl ⟨by omega,by simp;omega,zAE _ h3⟩
  ·rw [zAx] at h1;split at h1
   ·rename_i e;subst e;split at h1
    ·cases h1;exact .inl ⟨zAR _,by simp,zAL⟩
    ·cases h1
   ·exact .inr h1
theorem store_ok {tt:TypeId} {a x:Operand} (h:xOp P takes σ ⟨dst,.store tt a x,type,pos,after,guard⟩ k=some t) (hr:Rel n0 B ρ pa σ ⟨env,H,lk,df⟩) (hq:evT ph gl N t ρ=some r) :
  Step P gl ph N r n0 B k takes ⟨dst,.store tt a x,type,pos,after,guard⟩ σ ρ pa ⟨env,H,lk,df⟩:=by
 simp only [xOp] at h;split at h
 ·rename_i a' off ha;have hp:=q6 hr.here ha;simp only [evC] at hp;obtain ⟨e',sc,env',v,h1,h2,h3,h4⟩:=zbU h hr;split at h1
  ·rename_i n cs ty hn hf;split at h1
   ·rename_i hc;simp only [zAF,zAZ] at hc;obtain ⟨⟨⟨⟨⟨c0,c5⟩,c1⟩,c2⟩,c3⟩,c4⟩:=hc;have hgb:=h3.here.blks _ _ _ hf;have hN:=h3.bn _ _ hf;have hall:∀ ρ'' pa'',ρ <+: ρ''->pa <+: pa''->zr ρ'' pa'' cs=zr ρ pa cs:=fun ρ'' pa'' h1 h2=>by
     have:=(h3.ext ρ'' pa'' h1 h2).blks _ _ _ hf;rw [jl h2 (by rw [h3.na];exact hN),hgb] at this
     simpa using this.symm
    have hl:=zde c1 h3.here.ks (h4 ρ pa (zAK _) (zAK _));have hl':∀ ρ'' pa'',ρ <+: ρ''->pa <+: pa''->zr ρ'' pa'' (laidSC sc)=v.laid:=fun ρ'' pa'' e1 e2=>(zde c1 (h3.ext ρ'' pa'' e1 e2).ks (h4 ρ'' pa'' e1 e2)).2.symm;have hlen:v.laid.length=n:=by rw [<- hl' ρ pa (zAK _) (zAK _),qv];exact jI c2
    have hmay:vY lk (pd pa a') off n ((zr ρ pa cs).drop off)=true:=by
     rw [<- ze4];refine zjj h3.here.ks h3.top c4 fun i c hi hlh hlc=>?_;refine h3.lk a' (off+i) hlh (zr ρ pa cs) ty (evC ρ pa c) hgb ?_ hlc;rw [zq,zBU] at hi;rw [qk,we,zq,hi];rfl
    have hop:∀ cx:Cx,cx.P=P->cx.op takes ⟨dst,.store tt a x,type,pos,after,guard⟩ env H lk df=some (.skip,⟨env',(H.set (pd pa a') (.cells (storeCells (zr ρ pa cs) off v.laid) ty)).edge (pd pa a') v,lk,df⟩):=by
     rintro cx rfl;rw [zhc hn (by intro b u k e;rw [hp] at e;cases e),hp,h2]
     simp only [zco,hgb,hl.1,hlen,zBS,qv,c3,hmay,zAc,if_true]
    have htop:σ.nf<=a'\/v.top=0:=by
     rcases c0 with c0|c0
     ·exact .inl (zoM c0)
     ·right
      have hd:=(wu (pa:=pa) h3.here.ks h3.top c0).1;rw [hl' ρ pa (zAK _) (zAK _)] at hd;have hev:=h4 ρ pa (zAK _) (zAK _);rw [<- hev] at hd ⊢;cases sc with
      | one c =>
       obtain ⟨_,_,h9⟩:=zdd (pa:=pa) h3.here.ks c1;rw [h9] at hd;simp only [laidSC,zr,tops] at hd;simp only [zC];omega
      | agg cs' =>
       simp only [zC,V.laid] at hd;simp only [zC,V.top];refine zbQ fun w hw=>?_;have:=vj (zBJ (f:=clr) hw) hd
       rwa [top_clr] at this
    have hw:=h3.write (lk':=lk) (lk2:=σ.lk) (v:=v) (cs:=storeCells cs off (laidSC sc)) (vs:=storeCells (zr ρ pa cs) off v.laid) hf (fun ρ'' pa'' e1 e2=>by rw [zaY,hall ρ'' pa'' e1 e2,hl' ρ'' pa'' e1 e2]) htop
     (fun b o hb=>h3.ln b o hb) (fun b o _ _ hb=>hb) (fun x hx=>hx) (fun o c hb hc hlk=>?_)
    ·exact ⟨_,_,ρ,pa,t,.skip,_,.tup [],h1,hq,zAK _,zAK _,hw,⟨0,fun n _=>hop _ rfl⟩,.inr ⟨rfl,rfl⟩,fun ρ'' pa'' e1 e2 v' hv'=>by cases hv';rfl,fun b hb A hA=>by
      simp only [jW,ha,zAA,Cls.wr.injEq] at hb;subst hb;simp only [zbR]
      exact yh (fun e=>hA e.symm)⟩
    ·rw [zq] at hc;rcases zan hc with ⟨h5,h6,h7⟩|h5
     ·rw [<- hl' ρ pa (zAK _) (zAK _)] at h7;rw [zhp h3.here.ks h3.top c5 c h7] at hlk;cases hlk
     ·exact h3.lk a' o hb (zr ρ pa cs) ty c hgb (by rw [zq];exact h5) hlk
   ·cases h1
  ·cases h1
 ·cases h
end Go.Vm.Sx
namespace Go.Vm.Sx
set_option linter.unusedSectionVars false
open Go Go.Vm
variable {P:Program} {gl:Gl} {ph:PH} {N:Nat} {r:Nat×List V} {ρ ρ':List V} {pa pa':List Nat} {σ:Sg} {s:St} {n0:Nat} {B:List Blk} {env:List V} {H:Hp} {lk:List (Nat×Nat)} {df:List (V×List V)} {takes:List Tmp} {k:KT} {t:Tree}
variable [NoU gl]
variable {dst:Option Tmp} {type:TypeId} {pos:String} {after:Array Edge} {guard:Option (Nat×Bool)}
theorem zao {o:Oper} {sv:SV} (hk:k σ sv=some t) (hq:evT ph gl N t ρ=some r) (hr:Rel n0 B ρ pa σ ⟨env,H,lk,df⟩)
  (ho:∀ ρ'' pa'',ρ <+: ρ''->pa <+: pa''->∃ v,jt ρ'' pa'' sv=some v/\∀ n,Cx.op ⟨P,gl,zx P gl n,gl.uq⟩ takes o env H lk df=some (.val v,⟨env,H,lk,df⟩)) :
  Step P gl ph N r n0 B k takes o σ ρ pa ⟨env,H,lk,df⟩:=by
 obtain ⟨v,h1,h2⟩:=ho ρ pa (zAK _) (zAK _);refine ql hk hq (zAK _) hr (v:=v) h2 fun ρ'' pa'' e1 e2 v' hv'=>?_;obtain ⟨w,h3,h4⟩:=ho ρ'' pa'' e1 e2;have:=(h2 0).symm.trans (h4 0);simp only [zAA,zAH,OR.val.injEq] at this;rw [this.1];exact zA1 (hv'.symm.trans h3)
theorem zoQ {op:BinOp} {tt u:TypeId} {x y:Operand} (h:xOp P takes σ ⟨dst,.binOp op tt x y u,type,pos,after,guard⟩ k=some t) (hr:Rel n0 B ρ pa σ ⟨env,H,lk,df⟩) (hq:evT ph gl N t ρ=some r) (htk:qB takes dst=false) :
  Step P gl ph N r n0 B k takes ⟨dst,.binOp op tt x y u,type,pos,after,guard⟩ σ ρ pa ⟨env,H,lk,df⟩:=by
 have pure:∀ {t:Tree},vG P σ (.binOp op tt x y u) k=some t->evT ph gl N t ρ=some r->Step P gl ph N r n0 B k takes ⟨dst,.binOp op tt x y u,type,pos,after,guard⟩ σ ρ pa ⟨env,H,lk,df⟩:=fun h hq=>xc (o:=⟨dst,.binOp op tt x y u,type,pos,after,guard⟩) h hr hq htk
 have qr:∀ (kd:IntKind) (a b:TI) (c:TB),(op=.quo\/op=.rem)->pkI σ x=some (kd,a)->pkI σ y=some (kd,b)->(∀ ρ:List V,evB ρ c=true->evI ρ b≠0)->vF c (k σ (.val (.one (.i kd (.bin op kd a b)))))=some t->Step P gl ph N r n0 B k takes ⟨dst,.binOp op tt x y u,type,pos,after,guard⟩ σ ρ pa ⟨env,H,lk,df⟩:=by
  intro kd a b c hop h1 h2 hc h;obtain ⟨t1,h3,h4,h5⟩:=km h hq;have e0:=jx hr.here h2;have nz:=hc ρ h5;refine zao h3 h4 hr fun ρ'' pa'' e1 e2=>⟨_,rfl,fun n=>?_⟩;have e4:=jx (hr.ext ρ'' pa'' e1 e2) h1;have e5:=jx (hr.ext ρ'' pa'' e1 e2) h2;have nz':evI ρ'' b≠0:=by
   have:=e0.symm.trans e5;simp only [zAA,V.int.injEq,zAa] at this;rw [<- this];exact nz
  rw [zA,e4,e5];rcases hop with rfl|rfl<;>simp [kD,jN,w8,vv,nz',zC,evC,evI,biI,rdQ]
 have sh:∀ (kd kd':IntKind) (a b:TI) (c:TB),(op=.shl\/op=.shr)->pkI σ x=some (kd,a)->pkI σ y=some (kd',b)->(∀ ρ:List V,evB ρ c=true->0<=evI ρ b)->vF c (k σ (.val (.one (.i kd (.bin op kd a b)))))=some t->Step P gl ph N r n0 B k takes ⟨dst,.binOp op tt x y u,type,pos,after,guard⟩ σ ρ pa ⟨env,H,lk,df⟩:=by
  intro kd kd' a b c hop h1 h2 hc h;obtain ⟨t1,h3,h4,h5⟩:=km h hq;have e0:=jx hr.here h2;have nz:=hc ρ h5;refine zao h3 h4 hr fun ρ'' pa'' e1 e2=>⟨_,rfl,fun n=>?_⟩;have e4:=jx (hr.ext ρ'' pa'' e1 e2) h1;have e5:=jx (hr.ext ρ'' pa'' e1 e2) h2;have nz':¬ evI ρ'' b<0:=by
   have:=e0.symm.trans e5;simp only [zAA,V.int.injEq,zAa] at this;rw [<- this];omega
  rw [zA,e4,e5];rcases hop with rfl|rfl<;>simp [kD,jN,w8,zfs,nz',zC,evC,evI,biI,rdQ]
 cases op<;>simp only [xOp] at h
 case quo =>
  split at h
  ·rename_i kd a kd' b h1 h2;split at h
   ·rename_i hk;subst hk;refine qr _ _ _ _ (.inl rfl) h1 h2 (fun ρ hb=>?_) h;split at hb
    ·simp only [evI];intro h;exact absurd (Int.ofNat.inj h) (Nat.succ_ne_zero _)
    ·simp only [evB,cmI,evI,zAr,beq_eq_false_iff_ne] at hb;exact hb
   ·cases h
  ·cases h
 case rem =>
  split at h
  ·rename_i kd a kd' b h1 h2;split at h
   ·rename_i hk;subst hk;refine qr _ _ _ _ (.inr rfl) h1 h2 (fun ρ hb=>?_) h;split at hb
    ·simp only [evI];intro h;exact absurd (Int.ofNat.inj h) (Nat.succ_ne_zero _)
    ·simp only [evB,cmI,evI,zAr,beq_eq_false_iff_ne] at hb;exact hb
   ·cases h
  ·cases h
 case shl =>
  split at h
  ·rename_i kd a kd' b h1 h2;refine sh _ _ _ _ _ (.inl rfl) h1 h2 (fun ρ hb=>?_) h;split at hb
   ·exact Int.natCast_nonneg _
   ·exact of_decide_eq_true hb
  ·cases h
 case shr =>
  split at h
  ·rename_i kd a kd' b h1 h2;refine sh _ _ _ _ _ (.inr rfl) h1 h2 (fun ρ hb=>?_) h;split at hb
   ·exact Int.natCast_nonneg _
   ·exact of_decide_eq_true hb
  ·cases h
 case add =>
  split at h
  ·rename_i a b h1 h2;obtain ⟨t1,h3,h4,h5⟩:=km h hq;have f1:=zcq hr.here h1;have f2:=zcq hr.here h2;simp only [evB] at h5;refine zao h3 h4 hr fun ρ'' pa'' e1 e2=>⟨_,rfl,fun n=>?_⟩;have e4:=zcq (hr.ext ρ'' pa'' e1 e2) h1;have e5:=zcq (hr.ext ρ'' pa'' e1 e2) h2;have g1:evS ρ'' a=evS ρ a:=by have:=f1.symm.trans e4;simpa using this.symm
   have g2:evS ρ'' b=evS ρ b:=by have:=f2.symm.trans e5;simpa using this.symm
   have:=zoM h5;rw [zA,e4,e5];simp [kD,jN,w8,zdq,zC,evC,evS,g1,g2,this,rdQ]
  ·exact pure h hq
 all_goals exact pure h hq
theorem znp {a b:TypeId} {x:Operand} (h:xOp P takes σ ⟨dst,.convert a b x,type,pos,after,guard⟩ k=some t) (hr:Rel n0 B ρ pa σ ⟨env,H,lk,df⟩) (hq:evT ph gl N t ρ=some r) (htk:qB takes dst=false) :
  Step P gl ph N r n0 B k takes ⟨dst,.convert a b x,type,pos,after,guard⟩ σ ρ pa ⟨env,H,lk,df⟩:=by
 simp only [xOp] at h;split at h
 ·rename_i e c h1 h2 hc;split at h
  ·rename_i l h3 hl;have hop:∀ (ρ'':List V) (pa'':List Nat) (s:List Nat),ρ <+: ρ''->pa <+: pa''->bytesA (evL ρ'' l)=some s->∀ n,Cx.op ⟨P,gl,zx P gl n,gl.uq⟩ takes ⟨dst,.convert a b x,type,pos,after,guard⟩ env H lk df=some (.val (.str s),⟨env,H,lk,df⟩):=by
    intro ρ'' pa'' s e1 e2 hb n;have hp:=hr.ext ρ'' pa'' e1 e2;rw [xx (zna (by rw [h1,h2];simp)),q6 hp hc]
    rcases zaj (pa:=pa'') hp.ks hl with ⟨e3,e4⟩|⟨o,e3⟩
    ·rw [e4] at hb;cases hb;simp only [e3,zAB,yT,h1,h2,h3,Option.bind_eq_bind];rfl
    ·simp only [e3,zAB,yT,h1,h2,h3,Option.bind_eq_bind,hb,zAC];rfl
   split at h
   ·rename_i hn;refine zao h hq hr fun ρ'' pa'' e1 e2=>⟨_,rfl,hop ρ'' pa'' [] e1 e2 ?_⟩;rw [zah ρ'' hn];rfl
   ·split at h
    ·rename_i t1 ht;cases h;simp only [evT] at hq;split at hq
     ·rename_i s hs;have hr2:=hr.push1 (v:=.str s) (ck:=.str) rfl rfl;refine ql ht hq (zAq _ _) hr2 (v:=.str s) (hop ρ pa s (zAK _) (zAK _) hs) fun ρ'' pa'' e1 e2 v' hv'=>?_;cases hv';simp only [zC,evC,evS];rw [vk e1 hr.kl.symm];rfl
     ·cases hq
    ·cases h
  ·cases h
 ·exact xc (o:=⟨dst,.convert a b x,type,pos,after,guard⟩) h hr hq htk
theorem znq {e:TypeId} {l:TL} {i:TI} {k:Sg->SC->Option Tree} (h:zlG P σ e l i k=some t) (hr:Rel n0 B ρ pa σ s) (hq:evT ph gl N t ρ=some r) :
  ∃ ks' sc ρ' t' v,nth (evL ρ l) (evI ρ i).toNat=some v/\0<=evI ρ i/\k { σ with ks:=ks' } sc=some t'/\evT ph gl N t' ρ'=some r/\ρ <+: ρ'/\Rel n0 B ρ' pa { σ with ks:=ks' } s/\(∀ ρ'' pa'',ρ' <+: ρ''->zC ρ'' pa'' sc=v)/\(∀ ρ'' pa'',ρ' <+: ρ''->zr ρ'' pa'' (cellsSC sc)=v.cells):=by
 unfold zlG at h;split at h
 ·rename_i t1 ht;cases h;simp only [evT] at hq;split at hq
  ·cases hq
  ·rename_i hi;split at hq
   ·rename_i v hv;have htop:v.top=0:=vj (by rw [zq] at hv;exact zAh hv) (yD hr.top l)
    have hr2:=hr.push1 (v:=v) (ck:=.raw) rfl htop;obtain ⟨ks',sc,ρ',t',h1,h2,h3,h4,h5,h6⟩:=zaK ht hr2 (by simp) hq
    have hat:at' (ρ++[v]) σ.ks.length=v:=by rw [<- hr.kl];exact y9
    exact ⟨ks',sc,ρ',t',v,hv,by omega,h1,h2,zcu h3,h4,fun ρ'' pa'' e=>by rw [h5 ρ'' pa'' e,hat],fun ρ'' pa'' e=>by rw [h6 ρ'' pa'' e,hat]⟩
   ·cases hq
 ·cases h
theorem zoR {e:TypeId} {cs:List C} {i:TI} {k:Sg->SC->Option Tree} (h:zoK P σ e cs i k=some t) (hd:wQ σ.ks cs=true) (hr:Rel n0 B ρ pa σ s) (hq:evT ph gl N t ρ=some r) :
  ∃ ks' sc ρ' t' v,nth (zr ρ pa cs) (evI ρ i).toNat=some v/\0<=evI ρ i/\k { σ with ks:=ks' } sc=some t'/\evT ph gl N t' ρ'=some r/\ρ <+: ρ'/\Rel n0 B ρ' pa { σ with ks:=ks' } s/\(∀ ρ'' pa'',ρ' <+: ρ''->zC ρ'' pa'' sc=v)/\(∀ ρ'' pa'',ρ' <+: ρ''->zr ρ'' pa'' (cellsSC sc)=v.cells)/\locked v=false:=by
 obtain ⟨d1,d2,d3⟩:=wu (pa:=pa) hr.here.ks hr.top hd;unfold zoK at h;split at h
 ·rename_i t1 ht;cases h;simp only [evT] at hq;split at hq
  ·cases hq
  ·rename_i hi;split at hq
   ·rename_i v hv;rw [d3 []] at hv;have hm:v∈zr ρ pa cs:=by rw [zq] at hv;exact zAh hv
    have hr2:=hr.push1 (v:=v) (ck:=.raw) rfl (vj hm d1);obtain ⟨ks',sc,ρ',t',h1,h2,h3,h4,h5,h6⟩:=zaK ht hr2 (by simp) hq
    have hat:at' (ρ++[v]) σ.ks.length=v:=by rw [<- hr.kl];exact y9
    exact ⟨ks',sc,ρ',t',v,hv,by omega,h1,h2,zcu h3,h4,fun ρ'' pa'' e=>by rw [h5 ρ'' pa'' e,hat],fun ρ'' pa'' e=>by rw [h6 ρ'' pa'' e,hat],d2 v hm⟩
   ·cases hq
 ·cases h
theorem zdf {i:TI} {f:Nat->SV} {m:Int} {k:KT}:∀ {c j:Nat} {σ:Sg} {t:Tree},zko i f k σ j c=some t->Rel n0 B ρ pa σ s->evT ph gl N t ρ=some r->(∀ ρ'' pa'',ρ <+: ρ''->pa <+: pa''->evI ρ'' i=m) ->
  ∃ j' as' t',j<=j'/\j'<j+c/\m=(j':Int)/\k { σ with as:=as' } (f j')=some t'/\evT ph gl N t' ρ=some r/\Rel n0 B ρ pa { σ with as:=as' } s
 | 0,j,σ,t,h,hr,hq,hm=>by
  cases h;simp [evT,evB] at hq
 | c+1,j,σ,t,h,hr,hq,hm=>by
  simp only [zko] at h;have hst:∀ ρ'' pa'',ρ <+: ρ''->pa <+: pa''->evB ρ'' (.cmp .eql i (.lit (.ofNat j)))=(m == (j:Int)):=fun ρ'' pa'' e1 e2=>by
   simp only [evB,cmI,hm ρ'' pa'' e1 e2,evI];rfl
  have h0:=hst ρ pa (zAK _) (zAK _);split at h
  ·rename_i hk;have:=jT hr.here.as hk;rw [h0] at this;exact ⟨j,σ.as,t,zAR _,by omega,eq_of_beq this,h,hq,hr⟩
  ·rename_i hk;obtain ⟨j',as',t',h1,h2,h3⟩:=zdf h hr hq hm;exact ⟨j',as',t',by omega,by omega,h3⟩
  ·obtain ⟨ta,tb,h1,h2,h3⟩:=zbV h hq;rcases h3 with ⟨h3,h4⟩|⟨h3,h4⟩
   ·rw [h0] at h3;exact ⟨j,_,ta,zAR _,by omega,eq_of_beq h3,h1,h4,hr.cond fun ρ'' pa'' e1 e2=>by rw [hst ρ'' pa'' e1 e2];exact h3⟩
   ·rw [h0] at h3;have hr2:=hr.cond (c:=mkNot (.cmp .eql i (.lit (.ofNat j)))) fun ρ'' pa'' e1 e2=>by rw [jJ,hst ρ'' pa'' e1 e2,h3];rfl
    obtain ⟨j',as',t',g1,g2,g3⟩:=zdf h2 hr2 h4 hm;exact ⟨j',as',t',by omega,by omega,g3⟩
theorem zlX {tt:TypeId} {x ix:Operand} (h:xOp P takes σ ⟨dst,.indexAddr tt x ix,type,pos,after,guard⟩ k=some t) (hr:Rel n0 B ρ pa σ ⟨env,H,lk,df⟩) (hq:evT ph gl N t ρ=some r) (htk:qB takes dst=false) :
  Step P gl ph N r n0 B k takes ⟨dst,.indexAddr tt x ix,type,pos,after,guard⟩ σ ρ pa ⟨env,H,lk,df⟩:=by
 simp only [xOp] at h;split at h
 ·rename_i e kd i hu hi;have ei:=jx hr.here hi;split at h
  ·rename_i n c hn hc;split at h
   ·rename_i l hl;obtain ⟨ks',sc,ρ',t',v,g1,g2,g3,g4,g5,g6,g7,g8⟩:=znq h hr hq;refine ql g3 g4 g5 g6 (v:=.vp v.cells) (fun nn=>?_) fun ρ'' pa'' e1 e2 v' hv'=>by cases hv';rw [g8 ρ'' pa'' e1]
    rw [qh,q6 hr.here hc,ei];simp only [wv];rcases zaj (pa:=pa) hr.here.ks hl with ⟨_,e4⟩|⟨o,e3⟩
    ·rw [e4] at g1;simp [nth] at g1
    ·have hlt:¬ evI ρ i<0:=by omega
     rw [e3];simp [z8,hu,hn,g1,hlt,rdQ]
   ·cases h
  ·cases h
 ·rename_i len e kd i hu hi;have ei:=jx hr.here hi;have hm:∀ ρ'' pa'',ρ <+: ρ''->pa <+: pa''->evI ρ'' i=evI ρ i:=fun ρ'' pa'' e1 e2=>by
   have:=(jx (hr.ext ρ'' pa'' e1 e2) hi).symm.trans ei;simpa using this
  split at h
  ·rename_i v hv;exact xc (o:=⟨dst,.indexAddr tt x ix,type,pos,after,guard⟩) (by simp only [vG,hv];exact h) hr hq htk
  ·split at h
   ·rename_i n cs hn hx;split at h
    ·obtain ⟨j,as',t',h1,h2,h3,h4,h5,h6⟩:=zdf h hr hq hm;have hst:∀ ρ'' pa'',ρ <+: ρ''->pa <+: pa''->peek env x=some (.vp (zr ρ'' pa'' cs)):=fun ρ'' pa'' e1 e2=>by
      obtain ⟨w,hw1,hw2⟩:=wt (hr.ext ρ'' pa'' e1 e2) hx;cases hw2;exact hw1
     refine ql h4 h5 (zAK _) h6 (v:=.vp ((zr ρ pa cs).drop (j * n))) (fun nn=>?_) fun ρ'' pa'' e1 e2 v' hv'=>?_
     ·rw [qh,hst ρ pa (zAK _) (zAK _),ei,h3];simp [wv,z8,hu,hn,show j<len by omega,rdQ]
     ·cases hv';rw [ze4];have:=(hst ρ'' pa'' e1 e2).symm.trans (hst ρ pa (zAK _) (zAK _));simp only [zAA,V.vp.injEq] at this;rw [this]
    ·cases h
   ·rename_i n a off hn hx;split at h
    ·obtain ⟨j,as',t',h1,h2,h3,h4,h5,h6⟩:=zdf h hr hq hm;have hst:∀ ρ'' pa'',ρ <+: ρ''->pa <+: pa''->peek env x=some (.ptr (pd pa'' a) off):=fun ρ'' pa'' e1 e2=>kH (hr.ext ρ'' pa'' e1 e2) hx;refine ql h4 h5 (zAK _) h6 (v:=.ptr (pd pa a) (off+j * n)) (fun nn=>?_) fun ρ'' pa'' e1 e2 v' hv'=>?_
     ·rw [qh,hst ρ pa (zAK _) (zAK _),ei,h3];simp [wv,z8,hu,hn,show j<len by omega,rdQ]
     ·cases hv';simp only [zC,evC];have:=(hst ρ'' pa'' e1 e2).symm.trans (hst ρ pa (zAK _) (zAK _));simp only [zAA,V.ptr.injEq,zBF] at this;rw [this]
    ·cases h
   ·cases h
 ·cases h
theorem zlY {tt:TypeId} {x ix:Operand} (h:xOp P takes σ ⟨dst,.index tt x ix,type,pos,after,guard⟩ k=some t) (hr:Rel n0 B ρ pa σ ⟨env,H,lk,df⟩) (hq:evT ph gl N t ρ=some r) (htk:qB takes dst=false) :
  Step P gl ph N r n0 B k takes ⟨dst,.index tt x ix,type,pos,after,guard⟩ σ ρ pa ⟨env,H,lk,df⟩:=by
 simp only [xOp] at h;split at h
 ·rename_i kd i hu hi;split at h
  ·rename_i s' hs;obtain ⟨t1,h1,h2,h3⟩:=km h hq;have ei:=jx hr.here hi;have es:=zcq hr.here hs;simp only [evB,zAF] at h3;have h31:evI ρ i ≥ 0:=of_decide_eq_true h3.1;have h32:evI ρ i<((evS ρ s').length:Int):=of_decide_eq_true h3.2;refine zao h1 h2 hr fun ρ'' pa'' e1 e2=>⟨_,rfl,fun nn=>?_⟩;have fi:=jx (hr.ext ρ'' pa'' e1 e2) hi;have fs:=zcq (hr.ext ρ'' pa'' e1 e2) hs
   have gi:evI ρ'' i=evI ρ i:=by have:=fi.symm.trans ei;simpa using this
   have gs:evS ρ'' s'=evS ρ s':=by have:=fs.symm.trans es;simpa using this
   rw [zdM,fs,fi];have hlt:¬ evI ρ i<0:=by omega
   have hlt2:(evI ρ i).toNat<(evS ρ s').length:=by omega
   simp only [wv,zcd,hu,zC,evC,evI,zlz,gi,gs,hlt,if_false];have:nth (evS ρ s') (evI ρ i).toNat=some ((evS ρ s')[(evI ρ i).toNat]'hlt2):=by rw [zq];simp [hlt2]
   simp only [this,rdQ]
  ·cases h
 ·rename_i len e kd i hu hi;have ei:=jx hr.here hi;split at h
  ·rename_i v hv;exact xc (o:=⟨dst,.index tt x ix,type,pos,after,guard⟩) (by simp only [vG,hv];exact h) hr hq htk
  ·split at h
   ·rename_i cs hn hag hx;split at h
    ·rename_i hc;simp only [zAF] at hc;obtain ⟨ks',sc,ρ',t',v,g1,g2,g3,g4,g5,g6,g7,g8,g9⟩:=zoR h hc.2 hr hq;rw [qk,we,zq,zA9] at g1;split at g1
     ·rename_i hlt;refine ql g3 g4 g5 g6 (v:=clr v) (fun nn=>?_) fun ρ'' pa'' e1 e2 v' hv'=>by cases hv';rw [kG,g7 ρ'' pa'' e1]
      rw [zdM,kH hr.here hx,ei];have h0:0<=evI ρ i/\evI ρ i<(len:Int):=⟨g2,by omega⟩
      have h1:jU P e (zr ρ pa cs) ((evI ρ i).toNat * 1)=some v:=by
       rw [wE,hag,zda,qk,we,Nat.mul_one,zq,g1]
      simp only [wv,zcd,hu,hn,zC,h0,and_self,if_true,h1,zAC,rdQ]
     ·simp at g1
    ·cases h
   ·cases h
 ·cases h
theorem zf8 {x:Option Operand} {d tt:TI} {c:Nat} (hp:PRel ρ pa σ env H) (h:zeD σ x d=some tt) (hd:evI ρ d=(c:Int)):∃ v,peekO env x=some v/\(0<=evI ρ tt->j7 v c=some (evI ρ tt).toNat):=by
 cases x with
 | none=>cases h;exact ⟨none,rfl,fun _=>by simp [j7,hd]⟩
 | some x =>
  simp only [zeD] at h;split at h
  ·rename_i k' t' hi;cases h;exact ⟨some (.int k' (evI ρ tt)),by simp only [peekO,jx hp hi],fun h0=>by simp [j7,h0]⟩
  ·cases h
theorem op_slice {tt:TypeId} {x:Operand} {lo hi:Option Operand} {cx:Cx} (hu:uqT cx.P cx.uq tt=false):cx.op takes ⟨dst,.slice tt x lo hi none,type,pos,after,guard⟩ env H lk df=rdQ env H lk df ((peekO env lo).bind fun l=>(peekO env hi).bind fun h=>(peek env x).bind fun v=>xq cx.P tt v l h):=by
 simp only [Cx.op,hu];refine wq ?_;simp only [qj,Option.isSome_none,zAD,if_false,Option.bind_eq_bind]
theorem zlZ {tt:TypeId} {x:Operand} {lo hi mx:Option Operand} (h:xOp P takes σ ⟨dst,.slice tt x lo hi mx,type,pos,after,guard⟩ k=some t) (hr:Rel n0 B ρ pa σ ⟨env,H,lk,df⟩) (hq:evT ph gl N t ρ=some r) :
  Step P gl ph N r n0 B k takes ⟨dst,.slice tt x lo hi mx,type,pos,after,guard⟩ σ ρ pa ⟨env,H,lk,df⟩:=by
 simp only [xOp] at h;split at h
 ·cases h
 ·rename_i hmx;obtain rfl:mx=none:=by cases mx<;>simp_all
  split at h
  ·rename_i c hu hc;split at h
   ·rename_i s' hs;split at h
    ·rename_i l hh hl hhh;obtain ⟨t1,h1,h2,h3⟩:=km h hq;rw [yg] at h3;simp only [evB,zAF] at h3;have a1:evI ρ (.lit 0)<=evI ρ l:=of_decide_eq_true h3.1;have a2:evI ρ l<=evI ρ hh:=of_decide_eq_true h3.2.1;have a3:evI ρ hh<=evI ρ (.slen s'):=of_decide_eq_true h3.2.2;simp only [evI] at a1 a3;obtain ⟨vl,l1,l2⟩:=zf8 (c:=0) hr.here hl rfl;obtain ⟨vh,m1,m2⟩:=zf8 (c:=(evS ρ s').length) hr.here hhh rfl
     have e0:peek env x=some (.str (evS ρ s')):=by rw [q6 hr.here hc,wF (pa:=pa) hr.here.ks hs]
     have hop:∀ n,Cx.op ⟨P,gl,zx P gl n,gl.uq⟩ takes ⟨dst,.slice tt x lo hi none,type,pos,after,guard⟩ env H lk df=some (.val (.str (((evS ρ s').take (evI ρ hh).toNat).drop (evI ρ l).toNat)),⟨env,H,lk,df⟩):=fun n=>by
      rw [op_slice (zcQ (NoU.out (gl:=gl)) _),l1,m1,e0];have b1:(evI ρ l).toNat<=(evI ρ hh).toNat:=by omega
      have b2:(evI ρ hh).toNat<=(evS ρ s').length:=by omega
      simp only [zAB,xq,hu,Option.bind_eq_bind,m2 (by omega),l2 a1,b1,b2,and_self,if_true,rdQ]
     refine ql h1 h2 (zAK _) hr hop fun ρ'' pa'' e1 e2 v' hv'=>?_;cases hv';have f0:peek env x=some (.str (evS ρ'' s')):=by rw [q6 (hr.ext ρ'' pa'' e1 e2) hc,wF (pa:=pa'') (hr.ext ρ'' pa'' e1 e2).ks hs]
     have gs:evS ρ'' s'=evS ρ s':=by have:=f0.symm.trans e0;simpa using this
     have gb:∀ (y:Option Operand) (d tt:TI),zeD σ y d=some tt->evI ρ'' d=evI ρ d->evI ρ'' tt=evI ρ tt:=by
      intro y d tt hy hd;cases y with
      | none=>cases hy;exact hd
      | some y =>
       simp only [zeD] at hy;split at hy
       ·rename_i k' t' hi;cases hy;have:=(jx (hr.ext ρ'' pa'' e1 e2) hi).symm.trans (jx hr.here hi);simpa using this
       ·cases hy
     simp only [zC,evC,evS,gs,gb _ _ _ hl rfl,gb _ _ _ hhh (by simp only [evI,gs])]
    ·cases h
   ·cases h
  ·rename_i e c hu hc;split at h
   ·rename_i n hn;split at h
    ·rename_i xs hxs;split at h
     ·rename_i l hh hl hhh;obtain ⟨t1,h1,h2,h3⟩:=km h hq;rw [yg] at h3;simp only [evB,zAF] at h3;have a1:evI ρ (.lit 0)<=evI ρ l:=of_decide_eq_true h3.1;have a2:evI ρ l<=evI ρ hh:=of_decide_eq_true h3.2.1;have a3:evI ρ hh<=evI ρ (.len xs):=of_decide_eq_true h3.2.2;simp only [evI] at a1 a3;obtain ⟨vl,l1,l2⟩:=zf8 (c:=0) hr.here hl rfl;obtain ⟨vh,m1,m2⟩:=zf8 (c:=(evL ρ xs).length) hr.here hhh rfl
      have b1:(evI ρ l).toNat<=(evI ρ hh).toNat:=by omega
      have b2:(evI ρ hh).toNat<=(evL ρ xs).length:=by omega
      have e0:=q6 hr.here hc;have hopN:evC ρ pa c=.snil->evL ρ xs=[]->∀ n,Cx.op ⟨P,gl,zx P gl n,gl.uq⟩ takes ⟨dst,.slice tt x lo hi none,type,pos,after,guard⟩ env H lk df=some (.val .snil,⟨env,H,lk,df⟩):=fun hv hx0 n=>by
       rw [hx0] at b2 m2;rw [op_slice (zcQ (NoU.out (gl:=gl)) _),l1,m1,e0,hv];have c1:(evI ρ hh).toNat=0:=by simpa using b2
       have c2:(evI ρ l).toNat=0:=by omega
       have m3:=m2 (by omega)
       simp only [List.length_nil] at m3;simp only [zAB,xq,hu,Option.bind_eq_bind,m3,l2 a1,hn,c1,c2,and_self,if_true,rdQ]
      have hopS:∀ o,evC ρ pa c=.sl n (evL ρ xs) o->∀ n',Cx.op ⟨P,gl,zx P gl n',gl.uq⟩ takes ⟨dst,.slice tt x lo hi none,type,pos,after,guard⟩ env H lk df=some (.val (.sl n (((evL ρ xs).take (evI ρ hh).toNat).drop (evI ρ l).toNat) .no),⟨env,H,lk,df⟩):=fun o hv n'=>by
       rw [op_slice (zcQ (NoU.out (gl:=gl)) _),l1,m1,e0,hv];simp only [zAB,xq,hu,Option.bind_eq_bind,m2 (by omega),l2 a1,hn,b1,b2,and_self,if_true,rdQ]
      have gb:∀ (ρ'':List V) (pa'':List Nat),ρ <+: ρ''->pa <+: pa''->∀ (y:Option Operand) (d tt:TI),zeD σ y d=some tt->evI ρ'' d=evI ρ d->evI ρ'' tt=evI ρ tt:=by
       intro ρ'' pa'' e1 e2 y d tt hy hd;cases y with
       | none=>cases hy;exact hd
       | some y =>
        simp only [zeD] at hy;split at hy
        ·rename_i k' t' hi;cases hy;have:=(jx (hr.ext ρ'' pa'' e1 e2) hi).symm.trans (jx hr.here hi);simpa using this
        ·cases hy
      split at h1
      ·rename_i sz tl o;rcases zaj (pa:=pa) hr.here.ks hxs with ⟨e3,_⟩|⟨o',e3⟩
       ·cases e3
       ·have e3':=e3;simp only [evC,V.sl.injEq] at e3';obtain ⟨rfl,e4,rfl⟩:=e3';refine ql h1 h2 (zAK _) hr (hopS _ e3) fun ρ'' pa'' e1 e2 v' hv'=>?_;cases hv';have hp'':=hr.ext ρ'' pa'' e1 e2;have gl':evL ρ'' xs=evL ρ xs:=by
         have f0:=(q6 hp'' hc).symm.trans e0;rcases zaj (pa:=pa'') hp''.ks hxs with ⟨f3,_⟩|⟨o'',f3⟩
         ·cases f3
         ·rw [f3,e3] at f0;simp only [zAA,V.sl.injEq] at f0;exact f0.2.1
        simp only [zC,evC,evL,gl',gb ρ'' pa'' e1 e2 _ _ _ hl rfl,gb ρ'' pa'' e1 e2 _ _ _ hhh (by simp only [evI,gl'])]
      ·rename_i i cl;obtain ⟨t2,g1,g2⟩:=zbS h1 h2;have hv:(evC ρ pa (.v i cl)=.snil/\evL ρ xs=[]/\zil (at' ρ i) (evI ρ l) (evI ρ hh)=.snil)\/(∃ o,evC ρ pa (.v i cl)=.sl n (evL ρ xs) o/\zil (at' ρ i) (evI ρ l) (evI ρ hh)=.sl n (((evL ρ xs).take (evI ρ hh).toNat).drop (evI ρ l).toNat) .no):=by
        have hl':=zaj (pa:=pa) hr.here.ks hxs;rcases hl' with ⟨f1,f2⟩|⟨o,f1⟩
        ·refine .inl ⟨f1,f2,?_⟩;cases cl
         ·simp only [evC] at f1;rw [f1];rfl
         ·simp only [evC] at f1;cases hat:at' ρ i<;>rw [hat] at f1<;>simp only [clr,reduceCtorEq] at f1;rfl
        ·refine .inr ⟨o,f1,?_⟩;cases cl
         ·simp only [evC] at f1;rw [f1];rfl
         ·simp only [evC] at f1;cases hat:at' ρ i<;>rw [hat] at f1<;>simp only [clr,reduceCtorEq,V.sl.injEq] at f1;obtain ⟨rfl,rfl,rfl⟩:=f1;rfl
       rcases hv with ⟨f1,f2,f3⟩|⟨o,f1,f3⟩
       ·simp only [qR,f3] at g2;exact ql g1 g2 (zAq _ _) (hr.push1 (v:=.snil) (ck:=.sl n) rfl rfl) (hopN f1 f2) fun ρ'' pa'' e1 e2 v' hv'=>by cases hv';simp only [zC,evC];exact vk e1 hr.kl.symm
       ·simp only [qR,f3] at g2;exact ql g1 g2 (zAq _ _) (hr.push1 (v:=.sl n (((evL ρ xs).take (evI ρ hh).toNat).drop (evI ρ l).toNat) .no) (ck:=.sl n) (by simp [kOk,locked]) (tops_drop (tops_take (yD hr.top xs) _) _)) (hopS o f1) fun ρ'' pa'' e1 e2 v' hv'=>by cases hv';simp only [zC,evC];exact vk e1 hr.kl.symm
      ·rcases zaj (pa:=pa) hr.here.ks hxs with ⟨e3,e4⟩|⟨o',e3⟩
       ·exact ql h1 h2 (zAK _) hr (hopN e3 e4) fun ρ'' pa'' e1 e2 v' hv'=>by cases hv';rfl
       ·cases e3
      ·cases h1
     ·cases h
    ·cases h
   ·cases h
  ·cases h
end Go.Vm.Sx
namespace Go.Vm.Sx
set_option linter.unusedSectionVars false
open Go Go.Vm
variable {P:Program} {gl:Gl} {ph:PH} {N:Nat} {r:Nat×List V} {ρ ρ':List V} {pa pa':List Nat} {σ:Sg} {s:St} {n0:Nat} {B:List Blk} {env:List V} {H:Hp} {lk:List (Nat×Nat)} {df:List (V×List V)} {takes:List Tmp} {k:KT} {t:Tree}
variable [NoU gl]
variable {dst:Option Tmp} {type:TypeId} {pos:String} {after:Array Edge} {guard:Option (Nat×Bool)}
theorem znr {tt:TypeId} {x:Operand} (h:xOp P takes σ ⟨dst,.makeInterface tt x,type,pos,after,guard⟩ k=some t) (hr:Rel n0 B ρ pa σ ⟨env,H,lk,df⟩) (hq:evT ph gl N t ρ=some r) :
  Step P gl ph N r n0 B k takes ⟨dst,.makeInterface tt x,type,pos,after,guard⟩ σ ρ pa ⟨env,H,lk,df⟩:=by
 simp only [xOp] at h;split at h
 ·rename_i v hv;split at h
  ·cases h
  ·rename_i hc;simp only [zAZ,zAr,not_or,Bool.not_eq_true,zBZ] at hc;obtain ⟨t1,h1,h2⟩:=zbS h hq;obtain ⟨d1,d2⟩:=vX (pa:=pa) hr.here.ks hr.top hc.2;simp only [qR,d2 []] at h2;refine ql h1 h2 (zAq _ _) (hr.push1 (v:=.ifc tt (zC ρ pa v)) (ck:=.ifc) rfl d1) (v:=.ifc tt (zC ρ pa v)) (fun n=>?_) fun ρ'' pa'' e1 e2 v' hv'=>by cases hv';simp only [zC,evC];exact vk e1 hr.kl.symm
   simp only [Cx.op,qj,kH hr.here hv,hc.1,Option.bind_eq_bind,zAB,zAD,if_false]
 ·cases h
theorem zns {tt:TypeId} {g:Nat} (hgl:∀ g off v,gl g off=some v->v.top=0) (h:xOp P takes σ ⟨dst,.load tt (.global g),type,pos,after,guard⟩ k=some t) (hr:Rel n0 B ρ pa σ ⟨env,H,lk,df⟩) (hq:evT ph gl N t ρ=some r) (htk:qB takes dst=false) :
  Step P gl ph N r n0 B k takes ⟨dst,.load tt (.global g),type,pos,after,guard⟩ σ ρ pa ⟨env,H,lk,df⟩:=by
 simp only [xOp,htk] at h;split at h
 ·rename_i ha;split at h
  ·rename_i t1 ht;cases h;simp only [evT] at hq;split at hq
   ·rename_i v hv;have hr2:=hr.push1 (v:=v) (ck:=.raw) rfl (hgl _ _ _ hv);have hat:at' (ρ++[v]) σ.ks.length=v:=by rw [<- hr.kl];exact y9
    simp only [xz,ha] at ht;split at ht
    ·rename_i ck hck;split at ht
     ·rename_i t' ht';cases ht;simp only [evT,cond_eq_ite] at hq;split at hq
      ·rename_i hk;have hr3:=hr2.kind (i:=σ.ks.length) (by simp) hk
       rw [hat] at hk;refine ql ht' hq (zAq _ _) hr3 (v:=clr v) (fun n=>?_) fun ρ'' pa'' e1 e2 v' hv'=>?_
       ·rw [zal htk];simp only [peek,zAB,zJ,ha,hv,Option.bind_eq_bind,zAC,zAD,if_false,rdQ]
       ·cases hv';rw [kG];simp only [zC,evC];rw [vk e1 hr.kl.symm]
      ·cases hq
     ·cases ht
    ·cases ht
   ·cases hq
  ·cases h
 ·cases h
theorem zdg {x y:TL}:evL ρ (zkm x y)=evL ρ x++evL ρ y:=by
 unfold zkm;split<;>simp [evL]
theorem zjk {l:TL} (h:isSnoc l=true):evL ρ l≠[]:=by
 cases l<;>first|(cases h;done)|(simp only [evL];exact fun h=>by simp at h)
theorem append_ok {tt:TypeId} {x y:Operand} {ts:Array TypeId} (hts:ts=#[tt,tt]) (h:zf0 P σ tt x y k=some t) (hr:Rel n0 B ρ pa σ ⟨env,H,lk,df⟩) (hq:evT ph gl N t ρ=some r) :
  Step P gl ph N r n0 B k takes ⟨dst,.call ⟨.builtin .append,#[x,y],ts⟩,type,pos,after,guard⟩ σ ρ pa ⟨env,H,lk,df⟩:=by
 subst hts;unfold zf0 at h;split at h
 ·rename_i e hu;split at h
  ·rename_i n ti yc hn hi hyc;split at h
   ·rename_i z l hz hl;split at h
    ·cases h
    ·rename_i hzn;simp only [zAZ,zAr,not_or,zBZ,Bool.not_eq_true] at hzn;have hn0:n≠0:=fun e=>by rw [e] at hzn;simp at hzn
     obtain ⟨e',sc,env',v,h1,h2,h3,h4⟩:=zbU h hr;have hey:∀ ρ'' pa'',ρ <+: ρ''->pa <+: pa''->∃ yv,peek env y=some yv/\vr P H e yv=some (evL ρ'' l):=fun ρ'' pa'' e1 e2=>by
      have hp:=hr.ext ρ'' pa'' e1 e2;refine ⟨_,q6 hp hyc,?_⟩;rcases zaj (pa:=pa'') hp.ks hl with ⟨f1,f2⟩|⟨o,f1⟩
      ·rw [f1,f2];rfl
      ·rw [f1];simp [vr,hn]
     have hst:∀ ρ'' pa'',ρ <+: ρ''->pa <+: pa''->evL ρ'' l=evL ρ l:=fun ρ'' pa'' e1 e2=>by
      obtain ⟨yv,g1,g2⟩:=hey ρ'' pa'' e1 e2;obtain ⟨yw,g3,g4⟩:=hey ρ pa (zAK _) (zAK _);rw [g1] at g3;cases g3;rw [g2] at g4;exact zA1 g4
     obtain ⟨yv,hy1,hy2⟩:=hey ρ pa (zAK _) (zAK _);have hbn:Nat.beq n 0=false:=hzn.2;have key:∀ u,(∀ z',z=z'->qL P H tt v yv=some u)->∀ n',Cx.op ⟨P,gl,zx P gl n',gl.uq⟩ takes ⟨dst,.call ⟨.builtin .append,#[x,y],#[tt,tt]⟩,type,pos,after,guard⟩ env H lk df=some (.val u,⟨env',H,lk,df⟩):=fun u hu' n'=>by
      rw [wP (zcQ (NoU.out (gl:=gl)) _),hy1,h2];simp only [zdO,zAB,hu' z rfl]
     have app:∀ w,v=.snil->(match evL ρ l with|[]=>some V.snil|ys=>if kh ys.length ti.bytes && !Nat.beq n 0 then some (V.sl n ys (.yes e)) else none)=some w->qL P H tt v yv=some w:=fun w hv hw=>by
      subst hv;simp only [qL,hu,hn,hi,hz,Option.bind_eq_bind,zAB,hzn.1,zAs,zAD,if_false,hy2];exact hw
     have app2:∀ xs,v=.sl n xs (.yes e)->kh (xs.length+(evL ρ l).length) ti.bytes=true->qL P H tt v yv=some (.sl n (xs++evL ρ l) (.yes e)):=fun xs hv hw=>by
      subst hv;simp only [qL,hu,hn,hi,hz,Option.bind_eq_bind,zAB,hzn.1,zAs,zAD,if_false,hy2,zBS,hbn,hw,zAw,zAc,if_true]
     have hltop:=yD hr.top l;have h40:=h4 ρ pa (zAK _) (zAK _);split at h1
     ·
      simp only [zC,evC] at h40;split at h1
      ·rename_i hs;obtain ⟨t1,g1,g2,g3⟩:=km h1 hq;simp only [evB] at g3;refine ql g1 g2 (zAK _) h3 (v:=.sl n (evL ρ l) (.yes e)) (key _ fun _ _=>app _ h40.symm ?_) fun ρ'' pa'' e1 e2 v' hv'=>by cases hv';simp only [zC,evC];rw [hst ρ'' pa'' e1 e2]
       split
       ·rename_i h0;exact absurd h0 (zjk hs)
       ·simp [g3,hbn]
      ·obtain ⟨t0,g1,g2,g3⟩:=km h1 hq;obtain ⟨t1,g4,g5⟩:=zbS g1 g2;simp only [evB] at g3;simp only [qR,evC,zhh] at g5;have hk:kOk (.sl n) (match evL ρ l with|[]=>V.snil|ys=>.sl n ys (.yes e))=true:=by split<;>simp [kOk,locked]
       have ht:(match evL ρ l with|[]=>V.snil|ys=>.sl n ys (.yes e)).top=0:=by split<;>first|rfl|exact hltop
       refine ql g4 g5 (zAq _ _) (h3.push1 hk ht) (key _ fun _ _=>app _ h40.symm ?_) fun ρ'' pa'' e1 e2 v' hv'=>by cases hv';simp only [zC,evC];exact vk e1 hr.kl.symm
       cases hL:evL ρ l with
       | nil=>rfl
       | cons a b=>rw [hL] at g3;simp only [g3,hbn,zAw,zAc,if_true]
     ·rename_i sz xs e2;split at h1
      ·rename_i hc;simp only [zAF] at hc;obtain rfl:=jI hc.1;obtain rfl:=jI hc.2;obtain ⟨t1,g1,g2,g3⟩:=km h1 hq;simp only [evB,zdg,zAi] at g3;simp only [zC,evC] at h40;refine ql g1 g2 (zAK _) h3 (v:=.sl n (evL ρ xs++evL ρ l) (.yes e)) (key _ fun _ _=>app2 _ h40.symm g3) fun ρ'' pa'' e1 e2 v' hv'=>?_;cases hv';have:=h4 ρ'' pa'' e1 e2;rw [<- h40] at this;simp only [zC,evC,V.sl.injEq,zAa,zBF] at this
       simp only [zC,evC,zdg,hst ρ'' pa'' e1 e2,this]
      ·cases h1
     ·rename_i j;split at h1
      ·rename_i sz hkj;split at h1
       ·rename_i hc;have:=jI hc;subst this;obtain ⟨t0,g1,g2,g3⟩:=km h1 hq;obtain ⟨t1,g4,g5,g6⟩:=km g1 g2;simp only [evB,zdg,evL,zAi] at g6;simp only [evB] at g3;simp only [zC,evC] at h40;have hkk:=h3.here.ks _ _ hkj;have hv:(v=.snil/\at' ρ j=.snil)\/∃ xs,v=.sl n xs (.yes e)/\at' ρ j=.sl n xs (.yes e):=by
         rw [h40] at g3 hkk ⊢;cases v<;>simp only [zpv,zAD] at g3
         ·exact .inl ⟨rfl,rfl⟩
         ·rename_i s' xs o;cases o<;>simp only [zAD] at g3;have:=jI g3;subst this;simp only [kOk,zAF] at hkk;have:=jI hkk.1;subst this;exact .inr ⟨xs,rfl,rfl⟩
        have hat:∀ ρ'' pa'',ρ <+: ρ''->pa <+: pa''->at' ρ'' j=at' ρ j:=fun ρ'' pa'' e1 e2=>by
         have:=h4 ρ'' pa'' e1 e2;simp only [zC,evC] at this;rw [this,h40]
        split at g4
        ·rename_i hs;refine ql g4 g5 (zAK _) h3 (v:=.sl n (Sx.vL (at' ρ j)++evL ρ l) (.yes e)) (key _ fun _ _=>?_) fun ρ'' pa'' e1 e2 v' hv'=>by cases hv';simp only [zC,evC,zdg,evL,hst ρ'' pa'' e1 e2,hat ρ'' pa'' e1 e2]
         rcases hv with ⟨f1,f2⟩|⟨xs,f1,f2⟩
         ·refine app _ f1 ?_;rw [f2] at g6 ⊢;simp only [Sx.vL,List.length_nil,zAT,zAW] at g6 ⊢;split
          ·rename_i h0;exact absurd h0 (zjk hs)
          ·simp [g6,hbn]
         ·rw [f2] at g6 ⊢;exact app2 _ f1 g6
        ·obtain ⟨t2,g7,g8⟩:=zbS g4 g5;simp only [qR,evC] at g8;have hval:qL P H tt v yv=some (zhh (at' ρ j) n e (evL ρ l)):=by
          rcases hv with ⟨f1,f2⟩|⟨xs,f1,f2⟩
          ·refine app _ f1 ?_;rw [f2] at g6 ⊢;simp only [Sx.vL,List.length_nil,zAT] at g6;simp only [zhh];cases hL:evL ρ l with
           | nil=>rfl
           | cons a b=>rw [hL] at g6;simp only [g6,hbn,zAw,zAc,if_true]
          ·rw [f2] at g6 ⊢;exact app2 _ f1 g6
         have hk:kOk (.sl n) (zhh (at' ρ j) n e (evL ρ l))=true:=by
          rcases hv with ⟨f1,f2⟩|⟨xs,f1,f2⟩<;>rw [f2]<;>simp only [zhh]
          ·split<;>simp [kOk,locked]
          ·simp [kOk,locked]
         have ht:(zhh (at' ρ j) n e (evL ρ l)).top=0:=by
          have ha:=xC hr.top j;rcases hv with ⟨f1,f2⟩|⟨xs,f1,f2⟩<;>rw [f2] at ha ⊢<;>simp only [zhh]
          ·split<;>first|rfl|exact hltop
          ·simp only [V.top] at ha ⊢;rw [kY,ha,hltop];rfl
         exact ql g7 g8 (zAq _ _) (h3.push1 hk ht) (key _ fun _ _=>hval) fun ρ'' pa'' e1 e2 v' hv'=>by cases hv';simp only [zC,evC];exact vk e1 hr.kl.symm
       ·cases h1
      ·cases h1
     ·cases h1
   ·cases h
  ·cases h
 ·cases h
theorem zl0 {n:Nat} {kk:Sg->TL->Option Tree}:∀ {parts:List (Nat×Operand)} {j:Nat} {l:TL} {σ:Sg} {ρ:List V} {t:Tree} {len:Nat} {rest:List V},znf σ n kk j l parts=some t->Rel n0 B ρ pa σ ⟨env,H,lk,df⟩->evT ph gl N t ρ=some r->(evL ρ l).length=j->(∀ ρ'',ρ <+: ρ''->evL ρ'' l=evL ρ l)->rest.length=parts.length->j+parts.length=len ->
  ∃ ks' l' ρ' t',kk { σ with ks:=ks' } l'=some t'/\evT ph gl N t' ρ'=some r/\ρ <+: ρ'/\Rel n0 B ρ' pa { σ with ks:=ks' } ⟨env,H,lk,df⟩/\(∀ ρ'',ρ' <+: ρ''->evL ρ'' l'=evL ρ' l')/\zbs n len env (evL ρ l++rest) parts=some (evL ρ' l')
 | [],j,l,σ,ρ,t,len,rest,h,hr,hq,hj,hl,hrest,hlen=>by
  obtain rfl:rest=[]:=zBR.1 hrest;exact ⟨σ.ks,l,ρ,t,h,hq,zAK _,hr,hl,by simp [zbs]⟩
 | (i,x)::ps,j,l,σ,ρ,t,len,rest,h,hr,hq,hj,hl,hrest,hlen=>by
  simp only [znf] at h;split at h
  ·rename_i v hv;split at h
   ·rename_i hc;simp only [zAF] at hc;obtain ⟨⟨⟨c1,c2⟩,c3⟩,c4⟩:=hc;have:=jI c1;subst this;obtain ⟨t1,h1,h2⟩:=zbS h hq;obtain ⟨d1,d2⟩:=vX (pa:=pa) hr.here.ks hr.top c3;obtain ⟨k1,k2,_⟩:=zdd (pa:=pa) hr.here.ks c2;simp only [qR,d2 []] at h2;have hr2:=hr.push1 (v:=zC ρ pa v) (ck:=.raw) rfl d1;have hat:∀ ρ'',ρ++[zC ρ pa v] <+: ρ''->evL ρ'' (.snoc l σ.ks.length)=evL ρ l++[zC ρ pa v]:=fun ρ'' e=>by
     simp only [evL];rw [hl ρ'' (zcu e),vk e hr.kl.symm]
    match rest,hrest with
    | w::rest,hrest =>
    simp only [zAS] at hlen hrest;obtain ⟨ks',l',ρ',t',g1,g2,g3,g4,g5,g6⟩:=zl0 (rest:=rest) (len:=len) h1 hr2 h2 (by rw [hat _ (zAK _)];simp [hj]) (fun ρ'' e=>by rw [hat ρ'' e,hat _ (zAK _)]) (by omega) (by omega)
    refine ⟨ks',l',ρ',t',g1,g2,zcu g3,g4,g5,?_⟩;rw [hat _ (zAK _)] at g6;have hlt:Nat.blt i len=true:=by simp only [zBq];omega
    have hcl:Nat.beq (zC ρ pa v).cells.length n=true:=by rw [k2,qv];exact c4
    simp only [zbs,kH hr.here hv,Option.bind_eq_bind,zAB,k1,hcl,hlt,zAc,if_true,zO,fSet_eq];rw [<- g6]
    congr 1
    rw [zBH _ _ (by omega),hj]
    simp
   ·cases h
  ·cases h
theorem zkw {tt:TypeId} {len:Nat} {parts:Array (Nat×Operand)} (h:xOp P takes σ ⟨dst,.buildSlice tt len parts,type,pos,after,guard⟩ k=some t) (hr:Rel n0 B ρ pa σ ⟨env,H,lk,df⟩) (hq:evT ph gl N t ρ=some r) :
  Step P gl ph N r n0 B k takes ⟨dst,.buildSlice tt len parts,type,pos,after,guard⟩ σ ρ pa ⟨env,H,lk,df⟩:=by
 simp only [xOp] at h;split at h
 ·rename_i e hu;split at h
  ·rename_i n z hn hz;split at h
   ·cases h
   ·rename_i hc;simp only [zAZ,zAr,not_or,zBZ,Bool.not_eq_true] at hc;obtain ⟨⟨⟨⟨c1,c2⟩,c3⟩,c4⟩,c5⟩:=hc;obtain ⟨ks',l',ρ',t',g1,g2,g3,g4,g5,g6⟩:=zl0 (len:=len) (rest:=List.replicate len z) h hr hq rfl (fun _ _=>rfl) (by simp [jI c5]) (by simp only [zAT];exact jI c5)
    refine ql g1 g2 g3 g4 (v:=.sl n (evL ρ' l') (.yes e)) (fun n'=>?_) fun ρ'' pa'' e1 e2 v' hv'=>by cases hv';simp only [zC,evC];rw [g5 ρ'' e1]
    simp only [evL,zAW] at g6;simp only [Cx.op,qj,hu,hn,hz,Option.bind_eq_bind,zAB,c1,c2,c3,c4,zAs,Bool.or_self,zAD,if_false,g6]
  ·cases h
 ·cases h
end Go.Vm.Sx
namespace Go.Vm.Sx
set_option linter.unusedSectionVars false
open Go Go.Vm
variable {P:Program} {gl:Gl} {ph:PH} {N:Nat} {r:Nat×List V} {ρ ρ':List V} {pa pa':List Nat} {σ:Sg} {s:St} {n0:Nat} {B:List Blk} {env:List V} {H:Hp} {lk:List (Nat×Nat)} {df:List (V×List V)} {takes:List Tmp} {k:KT} {t:Tree}
variable [NoU gl]
variable {dst:Option Tmp} {type:TypeId} {pos:String} {after:Array Edge} {guard:Option (Nat×Bool)}
def vm (θ:List Nat):AV->V
 | .d x=>x
 | .p j off=>.ptr (pd θ j) off
def yP (H:Hp):List Nat->List (List V×TypeId)->Prop
 | [],[]=>True
 | b::θ,(cs,t)::r=>H.get b=some (.cells cs t)/\yP H θ r
 | _,_=>False
def xF (H:Hp):List Nat->List (List V×TypeId)->List (List V)->Hp
 | b::θ,(_,t)::r,o::out=>xF (H.set b (.cells o t)) θ r out
 | _,_,_=>H
def szOk:List (List V×TypeId)->List (List V)->Prop
 | [],[]=>True
 | (cs,_)::r,l::ls=>cs.length=l.length/\szOk r ls
 | _,_=>False
def Ev (P:Program) (gl:Gl) (f:FuncId) (avs:List AV) (fp:List (List V×TypeId)) (v:V) (out:List (List V)):Prop :=
 v.top=0/\tops (joinL out)=0/\szOk fp out/\∀ (θ:List Nat) (H:Hp),θ.Nodup->yP H θ fp->∃ k,∀ n,k<=n->zx P gl n f (avs.map (vm θ)) H=some (.ret v,xF H θ fp out)
def zl1 (P:Program) (gl:Gl) (ph:PH):Prop:=∀ f avs fp v out,ph f avs fp=some (v,out)->Ev P gl f avs fp v out
theorem zbc {a:Nat}:∀ {ns:List Nat} {j:Nat},zdR a ns=some j->nth ns j=some a
 | b::r,j,h=>by
  simp only [zdR] at h;split at h
  ·rename_i hb;cases h;rw [jI hb];rfl
  ·split at h
   ·rename_i i hi;cases h;exact zbc (ns:=r) hi
   ·cases h
theorem zbd {a:Nat}:∀ {ns:List Nat},zdR a ns=none->a ∉ ns
 | [],_=>by simp
 | b::r,h=>by
  simp only [zdR] at h;split at h
  ·cases h
  ·rename_i hb;split at h
   ·cases h
   ·rename_i hi;intro hm;rcases zAO.1 hm with rfl|hm
    ·simp at hb
    ·exact zbd hi hm
theorem pks_ok (hr:Rel n0 B ρ pa σ ⟨env,H,lk,df⟩):∀ {args:List Operand} {ns ns':List Nat} {vs:List AS},pks σ ns args=some (vs,ns')->ns.Nodup ->
  ∃ vals,peeks env args=some vals/\vals.map clr=(kX ρ vs).map (vm (ns'.map (pd pa)))/\ns <+: ns'/\ns'.Nodup
 | [],ns,ns',vs,h,hn=>by cases h;exact ⟨[],rfl,rfl,zAK _,hn⟩
 | x::xs,ns,ns',vs,h,hn=>by
  simp only [pks] at h;split at h
  ·rename_i a off hx;have e0:=kH hr.here hx;simp only [zC,evC] at e0;have pt:∀ (ns':List Nat) (j:Nat),nth ns' j=some a->vm (ns'.map (pd pa)) (.p j off)=.ptr (pd pa a) off:=fun ns' j hj=>by
    simp only [vm,pd,we,hj,zAC]
   split at h
   ·rename_i j hj;split at h
    ·rename_i vs' ns1 hxs;cases h;obtain ⟨vals,h1,h2,h3,h4⟩:=pks_ok hr hxs hn;refine ⟨.ptr (pd pa a) off::vals,by simp only [peeks,e0,zO,h1],?_,h3,h4⟩
     obtain ⟨y,rfl⟩:=h3;simp only [zAX,kX,evA,clr,h2];rw [pt _ j (zaI (zbc hj))]
    ·cases h
   ·rename_i hj;split at h
    ·rename_i vs' ns1 hxs;cases h
     obtain ⟨vals,h1,h2,h3,h4⟩:=pks_ok hr hxs (by
      rw [List.nodup_append]
      exact ⟨hn,by simp,fun b hb c hc=>by simp at hc;subst hc;intro e;subst e;exact zbd hj hb⟩)
     refine ⟨.ptr (pd pa a) off::vals,by simp only [peeks,e0,zO,h1],?_,pre_nat h3,h4⟩
     obtain ⟨y,rfl⟩:=h3;simp only [zAX,kX,evA,clr,h2];rw [pt _ ns.length (zaI (by simp [zq]))]
    ·cases h
  ·rename_i v hv hx;split at h
   ·rename_i vs' ns1 hd hxs;cases h;obtain ⟨vals,h1,h2,h3,h4⟩:=pks_ok hr hxs hn;have e0:=kH hr.here hx;refine ⟨zC ρ pa v::vals,by simp only [peeks,e0,zO,h1],?_,h3,h4⟩
    simp only [zAX,kX,evA,vm,h2];rw [(vX (pa:=pa) hr.here.ks hr.top hd).2 [],peek_clr e0]
   ·cases h
  ·cases h
 where
 pre_nat {ns ns1:List Nat} {a:Nat} (h:ns++[a] <+: ns1):ns <+: ns1:=(zAq _ _).trans h
 peek_clr {x:Operand} {v:V} (h:peek env x=some v):clr v=v:=by
  cases x with
  | tmp t =>
   simp only [peek] at h;split at h
   ·cases h;exact clr_clr _
   ·cases h
  | const u =>
   simp only [peek] at h;cases v<;>first|rfl|skip
   exfalso;unfold ofVal at h;split at h
   all_goals first|(cases h;done)|skip
   simp only [zAM] at h;obtain ⟨l,_,h⟩:=h;split at h<;>cases h
  | global g=>cases h;rfl
  | func f=>cases h;rfl
def zcU (σ:Sg):List Nat->List (List C×TypeId)->Prop
 | [],[]=>True
 | a::ns,x::r=>jv a σ.blks=some x/\wQ σ.ks x.1=true/\zcU σ ns r
 | _,_=>False
theorem lentB_ok:∀ {ns:List Nat} {l:List (List C×TypeId)},zeZ σ ns=some l->zcU σ ns l
 | [],l,h=>by cases h;trivial
 | a::ns,l,h=>by
  simp only [zeZ] at h;split at h
  ·rename_i cs t l' h1 h2;split at h
   ·rename_i hd;cases h;exact ⟨h1,hd,lentB_ok h2⟩
   ·cases h
  ·cases h
theorem zd1 (hr:Rel n0 B ρ pa σ ⟨env,H,lk,df⟩):∀ {ns:List Nat} {l:List (List C×TypeId)},zcU σ ns l->yP H (ns.map (pd pa)) (qD ρ l)
 | [],[],_=>trivial
 | a::ns,(cs,t)::r,h=>by
  refine ⟨?_,zd1 hr h.2.2⟩;have:=hr.here.blks _ _ _ h.1;rw [(wu (pa:=pa) hr.here.ks hr.top h.2.1).2.2 []];exact this
 | [],_::_,h=>h.elim
 | _::_,[],h=>h.elim
theorem zd2 (hr:Rel n0 B ρ pa σ s):∀ {ns:List Nat} {l:List (List C×TypeId)},zcU σ ns l->∀ a∈ns,a<σ.na
 | a::ns,_::r,h,b,hb=>by
  rcases zAO.1 hb with rfl|hb
  ·exact hr.bn _ _ h.1
  ·exact zd2 hr h.2.2 b hb
theorem zhq (hr:Rel n0 B ρ pa σ s) {ns:List Nat} (hn:ns.Nodup) (hl:∀ a∈ns,a<σ.na):(ns.map (pd pa)).Nodup:=by
 induction ns with
 | nil=>simp
 | cons a ns ih =>
  simp only [zAX,List.nodup_cons] at hn ⊢;refine ⟨fun h=>?_,ih hn.2 fun b hb=>hl b (zAE _ hb)⟩;obtain ⟨b,hb,he⟩:=zA4.1 h;have:=hr.inj b a (hl b (zAE _ hb)) (hl a zAL) he;subst this;exact hn.1 hb
theorem zoS {ks:List CK} {c:C} (h:zag ks c=true):ckC ks c≠.raw:=by
 cases c with
 | k v=>cases v<;>simp [ckC]
 | v i cl =>
  simp only [zag] at h;simp only [ckC];cases hn:nth ks i with
  | none=>rw [hn] at h;cases h
  | some k=>rw [hn] at h;cases k<;>first|(cases h;done)|(simp)
 | p a off=>cases h
 | lkd i=>cases h
 | _=>simp [ckC]
theorem ckLent_ne:∀ {l:List (List C×TypeId)} {ns:List Nat},zcU σ ns l->∀ k∈vz σ.ks l,k≠.raw
 | [],_,_,k,hk=>by simp [vz] at hk
 | (cs,t)::r,[],h,_,_=>h.elim
 | (cs,t)::r,a::ns,h,k,hk=>by
  simp only [vz,zAt,zA4] at hk;rcases hk with ⟨c,hc,rfl⟩|hk
  ·have hd:=h.2.1;simp only at hd;clear h
   induction cs with
   | nil=>simp at hc
   | cons x xs ih =>
    simp only [wQ,zAF] at hd;rcases zAO.1 hc with rfl|hc
    ·exact zoS hd.1
    ·exact ih hc hd.2
  ·exact ckLent_ne (ns:=ns) h.2.2 k hk
theorem ks_unl:∀ {cks:List CK} {x:List V},ksOk cks x=true->(∀ k∈cks,k≠.raw)->∀ v∈x,locked v=false
 | [],[],_,_,v,hv=>by simp at hv
 | c::cs,w::ws,h,hn,v,hv=>by
  simp only [ksOk,zAF] at h;rcases zAO.1 hv with rfl|hv
  ·exact (yC h.1 (hn c zAL)).2
  ·exact ks_unl h.2 (fun k hk=>hn k (zAE _ hk)) v hv
 | [],_::_,h,_,_,_=>by cases h
 | _::_,[],h,_,_,_=>by cases h
theorem zkx {H:Hp} {b:Nat}:H.edge b .nilp=H:=by simp [Hp.edge,V.top]
theorem back_ok:∀ {ns:List Nat} {l:List (List C×TypeId)} {out:List (List V)} {i:Nat} {σ:Sg} {H:Hp} {x y:List V},Rel n0 B ρ pa σ ⟨env,H,lk,df⟩->(∀ p∈List.zip ns l,jv p.1 σ.blks=some p.2)->ns.length=l.length->ns.Nodup->sizesOk l out=true->(∀ v∈joinL out,locked v=false)->ρ=x++joinL out++y->x.length=i->tops ρ=0 ->
  Rel n0 B ρ pa { σ with blks:=backB ns l i σ.blks } ⟨env,xF H (ns.map (pd pa)) (qD ρ l) out,lk,df⟩
 | [],[],[],i,σ,H,x,y,hr,_,_,_,_,_,_,_,_=>hr
 | a::ns,(cs,t)::r,o::out,i,σ,H,x,y,hr,hz,hlen,hn,hs,hu,hx,hi,htop=>by
  simp only [sizesOk,zAF] at hs;have hol:=jI hs.1;have hfa:jv a σ.blks=some (cs,t):=hz (a,(cs,t)) (by simp)
  simp only [joinL] at hx hu;have hout:∀ ρ'' pa'',ρ <+: ρ''->pa <+: pa''->zr ρ'' pa'' (lits (cs.map fun _=>CK.raw) i)=o:=by
   rintro ρ'' pa'' ⟨z,rfl⟩ _;have:=zbT (pa:=pa'') (x:=x) (z:=o) (ks:=cs.map fun _=>CK.raw) (y:=joinL out++y++z) (i:=i) (by simp [hol]) hi
   rw [hx];simpa only [zAb] using this
  have hw:=hr.write (v:=.nilp) (lk2:=σ.lk) (lk':=lk) hfa hout (.inr rfl) (fun b o hb=>hr.ln b o hb) (fun b o _ _ hb=>hb) (fun x hx=>hx) (fun off c hb hc hlk=>by
   rw [zq] at hc
   rw [hu c (zAz _ (zAh hc))] at hlk;cases hlk)
  rw [zkx] at hw;simp only [List.nodup_cons] at hn
  have:=back_ok (ns:=ns) (l:=r) (out:=out) (i:=i+cs.length) (x:=x++o) (y:=y) hw (fun p hp=>by
    simp only [xD];have hne:a≠p.1:=fun e=>hn.1 (by rw [e];exact (List.of_mem_zip hp).1)
    simp only [hne,if_false]
    exact hz p (by simp [hp])) (by simpa using hlen) hn.2 hs.2 (fun v hv=>hu v (zA6 _ hv)) (by rw [hx];simp) (by simp [hi,hol]) htop
  simpa [backB,xF,qD] using this
 | [],_::_,_,_,_,_,_,_,_,_,h,_,_,_,_,_,_=>by simp at h
 | _::_,[],_,_,_,_,_,_,_,_,h,_,_,_,_,_,_=>by simp at h
 | [],[],_::_,_,_,_,_,_,_,_,_,_,h,_,_,_,_=>by cases h
 | _::_,_::_,[],_,_,_,_,_,_,_,_,_,h,_,_,_,_=>by cases h
theorem lents_zip:∀ {ns:List Nat} {l:List (List C×TypeId)},zcU σ ns l->ns.length=l.length/\∀ p∈List.zip ns l,jv p.1 σ.blks=some p.2
 | [],[],_=>⟨rfl,fun p hp=>by simp at hp⟩
 | a::ns,x::r,h=>by
  obtain ⟨h1,h2⟩:=lents_zip h.2.2;refine ⟨by simp [h1],fun p hp=>?_⟩
  simp only [List.zip_cons_cons,zAO] at hp;rcases hp with rfl|hp
  ·exact h.1
  ·exact h2 p hp
 | [],_::_,h=>h.elim
 | _::_,[],h=>h.elim
theorem zcv {kk:Sg->List SC->Option Tree}:∀ {ts:List TypeId} {σ:Sg} {ρ:List V} {i:Nat} {acc:List SC} {t:Tree},zdS P kk σ ts i acc=some t->Rel n0 B ρ pa σ s->i+ts.length<=σ.ks.length->evT ph gl N t ρ=some r ->
  ∃ ks' ys ρ' t',kk { σ with ks:=ks' } (acc++ys)=some t'/\evT ph gl N t' ρ'=some r/\ρ <+: ρ'/\Rel n0 B ρ' pa { σ with ks:=ks' } s/\∀ ρ'' pa'',ρ' <+: ρ''->kT ρ'' pa'' ys=(List.range' i ts.length).map (at' ρ)
 | [],σ,ρ,i,acc,t,h,hr,hi,hq=>⟨σ.ks,[],ρ,t,by rw [zA0];exact h,hq,zAK _,hr,fun _ _ _=>rfl⟩
 | ty::ts,σ,ρ,i,acc,t,h,hr,hi,hq=>by
  simp only [zAS] at hi;have hil:i<ρ.length:=by rw [hr.kl];omega
  have rng:∀ (ρ':List V),ρ <+: ρ'->(List.range' (i+1) ts.length).map (at' ρ')=(List.range' (i+1) ts.length).map (at' ρ):=fun ρ' e=>by
   apply List.map_congr_left;intro j hj;simp only [List.mem_range'_1] at hj;exact wX e (by rw [hr.kl];omega)
  simp only [zdS] at h;split at h
  ·split at h
   ·rename_i ks hl;split at h
    ·rename_i t1 ht;cases h;simp only [evT] at hq;split at hq
     ·rename_i cs hcs;rw [cond_eq_ite] at hq;split at hq
      ·rename_i hk;have htop:tops cs=0:=by have:=xC hr.top i;rw [hcs] at this;exact this
       have hlen:=ksOk_len hk;have hr2:=hr.push hk htop;obtain ⟨ks',ys,ρ',t',g1,g2,g3,g4,g5⟩:=zcv ht hr2 (by simp;omega) hq
       refine ⟨ks',.agg (lits ks σ.ks.length)::ys,ρ',t',by simpa using g1,g2,zcu g3,g4,fun ρ'' pa'' e=>?_⟩
       simp only [kT,g5 ρ'' pa'' e,zAS,List.range'_succ,zAX];rw [rng _ (zAq _ _),hcs]
       congr 1
       obtain ⟨z,rfl⟩:=g3.trans e;simp only [zC];rw [zbT hlen hr.kl]
      ·cases hq
     ·cases hq
    ·cases h
   ·cases h
  ·obtain ⟨ks',ys,ρ',t',g1,g2,g3,g4,g5⟩:=zcv h hr (by omega) hq
   refine ⟨ks',.one (.v i false)::ys,ρ',t',by simpa using g1,g2,g3,g4,fun ρ'' pa'' e=>?_⟩
   simp only [kT,g5 ρ'' pa'' e,zAS,List.range'_succ,zAX,zC,evC];rw [wX (g3.trans e) hil]
  ·cases h
theorem kTup_len:∀ {ts:List TypeId} {ks:List CK},zng P ts=some ks->ks.length=ts.length
 | [],ks,h=>by cases h;rfl
 | t::ts,ks,h=>by
  simp only [zng] at h;split at h
  ·rename_i r hr;cases h;simp [kTup_len hr]
  ·rename_i r hr;split at h
   ·cases h;simp [kTup_len hr]
   ·cases h
  ·cases h
theorem zky {f:FuncId} {args:Array Operand} {ts:Array TypeId} {b:Nat} (h:jW takes σ ⟨dst,.call ⟨.value (.func f),args,ts⟩,type,pos,after,guard⟩=some (.wr b)):False:=by
 simp only [jW] at h;split at h<;>cases h
theorem ze5 {o:Oper} {ns:List Nat} {lent:List (List C×TypeId)} {v:V} {out:List (List V)} {t0:Tree} {tys:List TypeId} (hno:∀ b,jW takes σ o=some (.wr b)->False) (hL:zcU σ ns lent) (p4:ns.Nodup) (e1:v.top=0) (e2:tops (joinL out)=0)
  (hc:sizesOk lent out=true/\ksOk (vz σ.ks lent) (joinL out)=true) (hr:Rel n0 B ρ pa σ ⟨env,H,lk,df⟩)
  (ht0:zi8 P { σ with ks:=σ.ks++(CK.raw::vz σ.ks lent),blks:=backB ns lent (σ.ks.length+1) σ.blks } σ.ks.length k tys=some t0) (hq:evT ph gl N t0 (ρ++(v::joinL out))=some r)
  (hrun:∃ k0,∀ n,k0<=n->Cx.op ⟨P,gl,zx P gl n,gl.uq⟩ takes o env H lk df=some (.val v,⟨env,xF H (ns.map (pd pa)) (qD ρ lent) out,lk,df⟩)) :
  Step P gl ph N r n0 B k takes o σ ρ pa ⟨env,H,lk,df⟩:=by
 obtain ⟨z1,z2⟩:=lents_zip hL;have hkl:ksOk (CK.raw::vz σ.ks lent) (v::joinL out)=true:=by simp [ksOk,kOk,hc.2]
 have hr1:=hr.push hkl (by simp only [tops,e1,e2];rfl)
 have hr2:=back_ok (ns:=ns) (l:=lent) (out:=out) (i:=σ.ks.length+1) (x:=ρ++[v]) (y:=[]) hr1 z2 z1 p4 hc.1 (ks_unl hc.2 (ckLent_ne hL)) (by simp) (by simp [hr.kl]) hr1.top
 have hE:qD (ρ++v::joinL out) lent=qD ρ lent:=by
  have key:∀ {ns:List Nat} {l:List (List C×TypeId)},zcU σ ns l->qD (ρ++v::joinL out) l=qD ρ l:=by
   intro ns l
   induction l generalizing ns with
   | nil=>intro _;rfl
   | cons x l ih =>
    obtain ⟨cs,ty⟩:=x;intro hh;cases ns with
    | nil=>exact hh.elim
    | cons a ns =>
     simp only [qD,ih hh.2.2];have a1:=hr.here.blks _ _ _ hh.1;have a2:=(hr.ext (ρ++v::joinL out) pa (zAq _ _) (zAK _)).blks _ _ _ hh.1;rw [a1] at a2;simp only [zAA,Blk.cells.injEq,zBF] at a2;have b1:=(wu (pa:=pa) hr.here.ks hr.top hh.2.1).2.2 [];have b2:=(wu (σ:={ σ with ks:=σ.ks }) (pa:=pa) (ρ:=ρ++v::joinL out) (hr.ext (ρ++v::joinL out) pa (zAq _ _) (zAK _)).ks hr1.top hh.2.1).2.2 []
     rw [b1,b2,a2]
  exact key hL
 rw [hE] at hr2;have hat:at' (ρ++v::joinL out) σ.ks.length=v:=by rw [<- hr.kl,yN];simp
 have hpre:ρ <+: ρ++v::joinL out:=zAq _ _;have hlt:σ.ks.length<(ρ++v::joinL out).length:=by rw [<- hr.kl];simp
 unfold zi8 at ht0;split at ht0
 ·refine ⟨_,_,_,pa,t0,.val v,_,v,ht0,hq,hpre,zAK _,hr2,hrun,.inl rfl,fun ρ'' pa'' f1 f2 v' hv'=>?_,fun b hb=>(hno b hb).elim⟩;cases hv';simp only [zC,evC];rw [wX f1 hlt,hat]
 ·obtain ⟨ks',sc,ρ',t',g1,g2,g3,g4,g5,g6⟩:=zaK ht0 hr2 (by simp) hq
  refine ⟨_,_,ρ',pa,t',.val v,_,v,g1,g2,hpre.trans g3,zAK _,g4,hrun,.inl rfl,fun ρ'' pa'' f1 f2 v' hv'=>?_,fun b hb=>(hno b hb).elim⟩;cases hv';rw [g5 ρ'' pa'' f1,hat]
 ·split at ht0
  ·rename_i ks hks;split at ht0
   ·rename_i t1 ht1;cases ht0;simp only [evT] at hq;split at hq
    ·rename_i cs hcs;rw [hat] at hcs;rw [cond_eq_ite] at hq;split at hq
     ·rename_i hk;have htop:tops cs=0:=by rw [hcs] at e1;exact e1
      have hr3:=hr2.push hk htop;have hkl2:cs.length=tys.length:=by rw [ksOk_len hk,kTup_len hks]
      obtain ⟨ks',ys,ρ',t',g1,g2,g3,g4,g5⟩:=zcv ht1 hr3 (by simp [kTup_len hks];omega) hq
      refine ⟨_,_,ρ',pa,t',.val v,_,v,g1,g2,(hpre.trans (zAq _ _)).trans g3,zAK _,g4,hrun,.inl rfl,fun ρ'' pa'' f1 f2 v' hv'=>?_,fun b hb=>(hno b hb).elim⟩;cases hv';simp only [zAW,g5 ρ'' pa'' f1,hcs]
      congr 1
      rw [<- hkl2];have hx:(ρ++v::joinL out).length=(σ.ks++CK.raw::vz σ.ks lent).length:=hr2.kl;rw [hcs] at hx;apply List.ext_getElem?;intro j
      by_cases hj:j<cs.length
      ·simp only [zAl,List.getElem?_range' hj,zAC,yN,Nat.one_mul];rw [<- hx,zAf (Nat.le_add_right _ _)];simp [hj]
      ·rw [zAu (by simp;omega),zAu (by omega)]
     ·cases hq
    ·cases hq
   ·cases ht0
  ·cases ht0
theorem znt {f:FuncId} {args:Array Operand} {ts:Array TypeId} (hph:zl1 P gl ph) (h:zi9 P σ f args.toList k=some t) (hr:Rel n0 B ρ pa σ ⟨env,H,lk,df⟩) (hq:evT ph gl N t ρ=some r) :
  Step P gl ph N r n0 B k takes ⟨dst,.call ⟨.value (.func f),args,ts⟩,type,pos,after,guard⟩ σ ρ pa ⟨env,H,lk,df⟩:=by
 unfold zi9 at h;split at h
 ·rename_i fn vs ns hfn hpk;split at h
  ·rename_i body lent hbody hlent;obtain ⟨vals,p1,p2,_,p4⟩:=pks_ok hr hpk (by simp)
   have hL:=lentB_ok hlent;split at h
   ·rename_i t0 ht0;cases h;simp only [evT] at hq;split at hq
    ·rename_i v out hv;rw [cond_eq_ite] at hq;split at hq
     ·rename_i hc;simp only [zAF] at hc;obtain ⟨e1,e2,e3,e4⟩:=hph _ _ _ _ _ hv;obtain ⟨k0,e4⟩:=e4 (ns.map (pd pa)) H (zhq hr p4 (zd2 hr hL)) (zd1 hr hL);refine ze5 (fun b=>zky) hL p4 e1 e2 hc hr ht0 hq ⟨k0,fun n hn=>?_⟩;have:=e4 n hn;rw [<- p2] at this;rw [qx,p1,zR,z7 hfn hbody this,zdN]
     ·cases hq
    ·cases hq
   ·cases h
  ·cases h
 ·cases h
def SvEv (ρ:List V) (pa:List Nat):List SV->List V->Prop
 | [],[]=>True
 | sv::svs,w::ws=>jt ρ pa sv=some w/\clr w=w/\SvEv ρ pa svs ws
 | _,_=>False
theorem SvEv.app:∀ {a:List SV} {x:List V} {b:List SV} {y:List V},SvEv ρ pa a x->SvEv ρ pa b y->SvEv ρ pa (a++b) (x++y)
 | [],[],_,_,_,h=>h
 | _::_,_::_,_,_,h1,h=>⟨h1.1,h1.2.1,h1.2.2.app h⟩
 | [],_::_,_,_,h,_=>h.elim
 | _::_,[],_,_,h,_=>h.elim
theorem zhr (hr:Rel n0 B ρ pa σ ⟨env,H,lk,df⟩):∀ {xs:List Operand} {svs:List SV},zi7 σ xs=some svs->∃ ws,peeks env xs=some ws/\SvEv ρ pa svs ws
 | [],svs,h=>by cases h;exact ⟨[],rfl,trivial⟩
 | x::xs,svs,h=>by
  simp only [zi7] at h;split at h
  ·rename_i sv vs h1 h2;cases h;obtain ⟨w,e1,e2⟩:=wt hr.here h1;obtain ⟨ws,e3,e4⟩:=zhr hr h2;exact ⟨w::ws,by simp only [peeks,e1,zO,e3],e2,pks_ok.peek_clr e1,e4⟩
  ·cases h
theorem capsEv:∀ {cs:List C},allP cs=true->SvEv ρ pa (cs.map fun c=>.val (.one c)) (zr ρ pa cs)
 | [],_=>trivial
 | c::cs,h=>by
  cases c<;>simp only [allP,zAD] at h;exact ⟨rfl,rfl,capsEv h⟩
theorem zdh (hr:Rel n0 B ρ pa σ ⟨env,H,lk,df⟩):∀ {svs:List SV} {ws:List V} {ns ns':List Nat} {vs:List AS},zkn σ ns svs=some (vs,ns')->SvEv ρ pa svs ws->ns.Nodup ->
  ws.map clr=(kX ρ vs).map (vm (ns'.map (pd pa)))/\ns <+: ns'/\ns'.Nodup
 | [],[],ns,ns',vs,h,_,hn=>by cases h;exact ⟨rfl,zAK _,hn⟩
 | x::xs,w::ws,ns,ns',vs,h,hw,hn=>by
  obtain ⟨e0,hcl,hw⟩:=hw;simp only [zkn] at h;split at h
  ·rename_i a off;simp only [jt,zC,evC,zAA] at e0;subst e0;have pt:∀ (ns':List Nat) (j:Nat),nth ns' j=some a->vm (ns'.map (pd pa)) (.p j off)=.ptr (pd pa a) off:=fun ns' j hj=>by
    simp only [vm,pd,we,hj,zAC]
   split at h
   ·rename_i j hj;split at h
    ·rename_i vs' ns1 hxs;cases h;obtain ⟨h2,h3,h4⟩:=zdh hr hxs hw hn;refine ⟨?_,h3,h4⟩;obtain ⟨y,rfl⟩:=h3;simp only [zAX,kX,evA,clr,h2];rw [pt _ j (zaI (zbc hj))]
    ·cases h
   ·rename_i hj;split at h
    ·rename_i vs' ns1 hxs;cases h
     obtain ⟨h2,h3,h4⟩:=zdh hr hxs hw (by
      rw [List.nodup_append]
      exact ⟨hn,by simp,fun b hb c hc=>by simp at hc;subst hc;intro e;subst e;exact zbd hj hb⟩)
     refine ⟨?_,pks_ok.pre_nat h3,h4⟩;obtain ⟨y,rfl⟩:=h3;simp only [zAX,kX,evA,clr,h2];rw [pt _ ns.length (zaI (by simp [zq]))]
    ·cases h
  ·rename_i v hv;split at h
   ·rename_i vs' ns1 hd hxs;cases h;obtain ⟨h2,h3,h4⟩:=zdh hr hxs hw hn;simp only [jt,zAA] at e0;subst e0;refine ⟨?_,h3,h4⟩;simp only [zAX,kX,evA,vm,h2];rw [(vX (pa:=pa) hr.here.ks hr.top hd).2 [],hcl]
   ·cases h
  ·cases h
 | [],_::_,_,_,_,_,h,_=>h.elim
 | _::_,[],_,_,_,_,h,_=>h.elim
theorem zit {x:Tmp} {args:Array Operand} {ts:Array TypeId} {b:Nat} (h:jW takes σ ⟨dst,.call ⟨.value (.tmp x),args,ts⟩,type,pos,after,guard⟩=some (.wr b)):False:=by
 simp only [jW] at h;cases h
theorem zl2 {x:Tmp} {args:Array Operand} {ts:Array TypeId} (hph:zl1 P gl ph) (h:zin P σ (.tmp x) args.toList k=some t) (hr:Rel n0 B ρ pa σ ⟨env,H,lk,df⟩) (hq:evT ph gl N t ρ=some r) :
  Step P gl ph N r n0 B k takes ⟨dst,.call ⟨.value (.tmp x),args,ts⟩,type,pos,after,guard⟩ σ ρ pa ⟨env,H,lk,df⟩:=by
 unfold zin at h;split at h
 ·rename_i f cs svs hfv hsvs;obtain ⟨fv,f1,f2⟩:=wt hr.here hfv;simp only [jt,zAA] at f2;subst f2;obtain ⟨ws,w1,w2⟩:=zhr hr hsvs;split at h
  ·cases h
  rename_i hall;simp only [zAr,zBZ] at hall;split at h
  ·rename_i fn vs ns hfn hpk;split at h
   ·rename_i body lent hbody hlent;obtain ⟨p2,_,p4⟩:=zdh hr hpk (w2.app (capsEv hall)) (by simp)
    have hL:=lentB_ok hlent;split at h
    ·rename_i t0 ht0;cases h;simp only [evT] at hq;split at hq
     ·rename_i v out hv;rw [cond_eq_ite] at hq;split at hq
      ·rename_i hc;simp only [zAF] at hc;obtain ⟨e1,e2,e3,e4⟩:=hph _ _ _ _ _ hv;obtain ⟨k0,e4⟩:=e4 (ns.map (pd pa)) H (zhq hr p4 (zd2 hr hL)) (zd1 hr hL);refine ze5 (fun b=>zit) hL p4 e1 e2 hc hr ht0 hq ⟨k0,fun n hn=>?_⟩;have:=e4 n hn;rw [<- p2] at this;simp only [Cx.op,f1,w1,Cx.callV,fL_eq,zAW];rw [z7 hfn hbody this]
      ·cases hq
     ·cases hq
    ·cases h
   ·cases h
  ·cases h
 ·cases h
theorem zf9 (hr:PRel ρ pa σ env H):∀ {xs:List Operand} {cs:List C},zlF σ xs=some cs->peeks env xs=some (zr ρ pa cs)
 | [],cs,h=>by cases h;rfl
 | x::xs,cs,h=>by
  simp only [zlF] at h;split at h
  ·rename_i a off cs' h1 h2;cases h;have e1:=q6 hr h1;simp only [peeks,e1,zO,zf9 hr h2,zr]
  ·cases h
theorem zhs {f:Fn} {first cap:Array Operand} {cs:List C} (hf:first.toList=[]) (hcs:zlF σ cap.toList=some cs) (h:k σ (.fn f cs)=some t) (hr:Rel n0 B ρ pa σ ⟨env,H,lk,df⟩) (hq:evT ph gl N t ρ=some r) :
  Step P gl ph N r n0 B k takes ⟨dst,.makeFunc f first cap,type,pos,after,guard⟩ σ ρ pa ⟨env,H,lk,df⟩:=by
 have e1:=zf9 hr.here hcs;refine ⟨σ,.fn f cs,ρ,pa,t,.val (.fn f [] (zr ρ pa cs)),⟨env,H,lk,df⟩,.fn f [] (zr ρ pa cs),h,hq,zAK _,zAK _,hr,⟨0,fun n _=>?_⟩,.inl rfl,fun ρ'' pa'' g1 g2 v' hv'=>?_,fun b hb=>?_⟩
 ·simp [Cx.op,qj,hf,e1,peeks]
 ·have e2:=zf9 (hr.ext ρ'' pa'' g1 g2) hcs;rw [e1] at e2;simp only [jt,zAA] at hv';rw [<- hv',zA1 e2]
 ·simp only [jW] at hb;cases hb
end Go.Vm.Sx
