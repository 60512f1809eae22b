/- Trees of bodies, as they are told of the program's code; Seat 8: expressions as data; Seat 8: what expressions are checked by, how great they are, out of their trees; and what follows from it. Conditions: none but those that each theorem names. -/
import Derived.Test.YthohlnmcjkjeiaaGreatDoorProg
import Derived.KernelRfl
import Derived.Test.YthohlnmcjkjeiaaGreatDoorVmI
namespace Go.Proofs.YthohlnmcjkjeiaaGreatDoor
set_option maxRecDepth 100000
open Go Go.Vm Go.Vm.Sx
def hs63:List (Nat×JS):=[(58,⟨[(5,(.one (.int .i64))),(11,.drop),(12,.drop),(13,.drop),(14,.drop),(15,.drop),(16,.drop),(17,.drop),(18,.drop),(19,.drop),(20,.drop),(21,.drop),(22,.drop),(23,.drop),(24,.drop),(25,.drop)],[]⟩)]
def lp63_1:Tree :=
 (.ite (.cmp .lss (.var 2) (.len (.var 0)))
       (.elem (.var 0) (.var 2)
       (.kin 3 (.int .i64)
       (.elem (.var 1) (.var 2)
       (.kin 4 (.int .i64)
       (.ite (.not (.cmp .eql (.var 3) (.var 4)))
         (.esc
          (.letv (.sc (.one (.b (.lit false))))
          (.out [(.v 5 false)])))
         (.out [(.i .i64 (.bin .add .i64 (.var 2) (.lit (1))))]))))))
       (.esc
        (.letv (.sc (.one (.b (.lit true))))
        (.out [(.v 3 false)]))))
def tree63:Tree :=
 (.kin 0 (.sl 1)
 (.kin 1 (.sl 1)
 (.ite (.not (.cmp .eql (.len (.var 0)) (.len (.var 1))))
   (.letv (.sc (.one (.b (.lit false))))
   (.out [(.v 2 false)]))
   (.loop [(.i .i64 (.lit (0)))] lp63_1))))
def hs64:List (Nat×JS):=[(58,⟨[(5,(.one (.int .i64))),(11,.drop),(12,.drop),(13,.drop),(14,.drop),(15,.drop),(16,.drop),(17,.drop),(18,.drop),(19,.drop),(20,.drop),(21,.drop),(22,.drop),(23,.drop),(24,.drop),(25,.drop),(26,.drop)],[]⟩)]
def lp64_1:Tree :=
 (.ite (.cmp .lss (.var 2) (.len (.var 0)))
       (.elem (.var 0) (.var 2)
       (.kin 3 (.sl 1)
       (.elem (.var 1) (.var 2)
       (.kin 4 (.sl 1)
       (.call 63 [(.d (.one (.v 3 true))),(.d (.one (.v 4 true)))] [] []
       (.kin 5 .bool
       (.ite (.not (.var 5))
         (.esc
          (.letv (.sc (.one (.b (.lit false))))
          (.out [(.v 6 false)])))
         (.out [(.i .i64 (.bin .add .i64 (.var 2) (.lit (1))))]))))))))
       (.esc
        (.letv (.sc (.one (.b (.lit true))))
        (.out [(.v 3 false)]))))
def tree64:Tree :=
 (.kin 0 (.sl 1)
 (.kin 1 (.sl 1)
 (.ite (.not (.cmp .eql (.len (.var 0)) (.len (.var 1))))
   (.letv (.sc (.one (.b (.lit false))))
   (.out [(.v 2 false)]))
   (.loop [(.i .i64 (.lit (0)))] lp64_1))))
def hs53:List (Nat×JS):=[]
def tree53:Tree :=
 (.kin 0 (.sl 1)
 (.need (.room (.var 0) 8)
 (.letv (.app (.k .snil) 1 3 (.var 0))
 (.letv (.sc (.one (.v 1 false)))
 (.out [(.v 2 false)])))))
def hs68:List (Nat×JS):=[(58,⟨[(3,(.one (.sl 1))),(4,(.one (.int .i64))),(5,.drop),(6,.drop),(7,.drop),(8,.drop),(9,.drop),(10,.drop),(11,.drop),(12,.drop),(13,.drop),(14,.drop),(15,.drop),(16,.drop),(17,.drop),(18,.drop)],[]⟩)]
def lp68_1:Tree :=
 (.ite (.cmp .lss (.var 2) (.len (.var 0)))
     (.elem (.var 0) (.var 2)
     (.kin 3 (.sl 1)
     (.call 53 [(.d (.one (.v 3 true)))] [] []
     (.kin 4 (.sl 1)
     (.letv (.sc (.one (.v 4 true)))
     (.need (.own 1 27)
     (.need (.room (.snoc (.var 1) 5) 24)
     (.out [(.sl 1 (.snoc (.var 1) 5) (.yes 27)),(.i .i64 (.bin .add .i64 (.var 2) (.lit (1))))]))))))))
     (.esc
      (.letv (.sc (.one (.v 1 false)))
      (.out [(.v 3 false)]))))
def tree68:Tree :=
 (.kin 0 (.sl 1)
 (.loop [(.k .snil),(.i .i64 (.lit (0)))] lp68_1))
theorem tree63_ok:yQ Tryz.prog hs63 63=some tree63:=by kernel_rfl
theorem tree64_ok:yQ Tryz.prog hs64 64=some tree64:=by kernel_rfl
theorem tree53_ok:yQ Tryz.prog hs53 53=some tree53:=by kernel_rfl
theorem tree68_ok:yQ Tryz.prog hs68 68=some tree68:=by kernel_rfl
end Go.Proofs.YthohlnmcjkjeiaaGreatDoor
namespace Go.Proofs.YthohlnmcjkjeiaaGreatDoor
open Go Go.Vm
inductive E where
 |mk (op pl s0 s1 s2 s3:Int) (text:List Nat) (mn mx:Int) (nl:Bool) (args:List E)
end Go.Proofs.YthohlnmcjkjeiaaGreatDoor
namespace Go.Proofs.YthohlnmcjkjeiaaGreatDoor
set_option maxRecDepth 10000
open Go Go.Vm Go.Vm.Sx
variable {gl:Gl} [NoU gl]
structure GL (gl:Gl):Prop where
 top:∀ g off v,gl g off=some v->v.top=0
 no:∀ f,[14,15,20,21,22,26,28,30,45,73,74].any (Nat.beq f)=false->∀ args,gl.hk f args=none
end Go.Proofs.YthohlnmcjkjeiaaGreatDoor
namespace Go.Proofs.YthohlnmcjkjeiaaGreatDoor
set_option maxRecDepth 100000
open Go Go.Vm
variable {gl:Gl}
end Go.Proofs.YthohlnmcjkjeiaaGreatDoor
namespace Go.Proofs.YthohlnmcjkjeiaaGreatDoor
set_option maxRecDepth 100000
open Go Go.Vm
variable {gl:Gl}
end Go.Proofs.YthohlnmcjkjeiaaGreatDoor
namespace Go.Proofs.YthohlnmcjkjeiaaGreatDoor
set_option maxRecDepth 100000
open Go Go.Vm
variable {gl:Gl}
end Go.Proofs.YthohlnmcjkjeiaaGreatDoor
namespace Go.Proofs.YthohlnmcjkjeiaaGreatDoor
set_option maxRecDepth 100000
open Go Go.Vm
variable {gl:Gl}
end Go.Proofs.YthohlnmcjkjeiaaGreatDoor
namespace Go.Proofs.YthohlnmcjkjeiaaGreatDoor
set_option maxRecDepth 100000
open Go Go.Vm
variable {gl:Gl}
end Go.Proofs.YthohlnmcjkjeiaaGreatDoor
namespace Go.Proofs.YthohlnmcjkjeiaaGreatDoor
set_option maxRecDepth 100000
open Go Go.Vm
variable {gl:Gl}
def setU (bs:List Blk) (i:Option Nat) (ns:List (Nat->Bool)):List Blk :=
 match i with
 | none=>bs
 | some j=>match nth bs j with
  | some (.ul v sz _ e)=>bs.set j (.ul v sz (ns.map (pv 19)).flatten e)
  | _=>bs
end Go.Proofs.YthohlnmcjkjeiaaGreatDoor
namespace Go.Proofs.YthohlnmcjkjeiaaGreatDoor
set_option maxRecDepth 100000
open Go Go.Vm
variable {gl:Gl}
section
variable {B ls:List Blk} {d k:Nat} {x:Blk}
end
section
variable {P:Program} {t n:TypeId} {B ls:List Blk} {k off:Nat} {cs:List V} {ty:TypeId} {v:V} {env:List V} {lk:List (Nat×Nat)} {df:List (V×List V)} {es:List (Nat×Nat)} {g:Nat->Nat->Option V}
end
section
variable {P:Program} {t n:TypeId} {B ls:List Blk} {k off bm:Nat} {cs:List V} {ty e:TypeId} {xs ys:List V} {env:List V} {lk:List (Nat×Nat)} {df:List (V×List V)} {es:List (Nat×Nat)}
end
def noP:Nat->Bool:=fun _=>false
structure Part where
 null:Bool
 first:Nat->Bool
 last:Nat->Bool
theorem jl:∀ {xs ys:List V},tops xs=0->tops ys=0->tops (xs++ys)=0
 | [],_,_,h=>h
 | x::xs,ys,h1,h2=>by
  simp only [tops,zA6,Nat.max_eq_zero_iff] at h1 ⊢;exact ⟨h1.1,jl h1.2 h2⟩
structure Mk where
 sets:List (Int×Int×Int×Int)
 rules:List Int
 next:List (Nat->Bool)
end Go.Proofs.YthohlnmcjkjeiaaGreatDoor
namespace Go.Proofs.YthohlnmcjkjeiaaGreatDoor
set_option maxRecDepth 100000
open Go Go.Vm
variable {gl:Gl}
end Go.Proofs.YthohlnmcjkjeiaaGreatDoor
namespace Go.Proofs.YthohlnmcjkjeiaaGreatDoor
set_option maxRecDepth 100000
open Go Go.Vm
variable {gl:Gl}
end Go.Proofs.YthohlnmcjkjeiaaGreatDoor
namespace Go.Proofs.YthohlnmcjkjeiaaGreatDoor
set_option maxRecDepth 100000
open Go Go.Vm
variable {gl:Gl}
end Go.Proofs.YthohlnmcjkjeiaaGreatDoor
namespace Go.Proofs.YthohlnmcjkjeiaaGreatDoor
set_option maxRecDepth 100000
open Go Go.Vm
variable {gl:Gl}
end Go.Proofs.YthohlnmcjkjeiaaGreatDoor
namespace Go.Proofs.YthohlnmcjkjeiaaGreatDoor
set_option maxRecDepth 100000
open Go Go.Vm
variable {gl:Gl}
variable {bs:List Blk} {bm:Nat} {i0:Option Nat} {H:Hp} {S:List (E×Nat)} {ps:List Part} {m:Mk}
end Go.Proofs.YthohlnmcjkjeiaaGreatDoor
namespace Go.Proofs.YthohlnmcjkjeiaaGreatDoor
set_option maxRecDepth 100000
open Go Go.Vm
variable {r op pl s0 s1 s2 s3 mn mx:Int} {tx:List Nat} {nl:Bool} {args:List E} {S:List (E×Nat)} {ps:List Part} {m:Mk} {d:Nat}
end Go.Proofs.YthohlnmcjkjeiaaGreatDoor
