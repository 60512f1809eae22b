/- Trees of bodies, as they are told of the program's code. Conditions: none but those that each theorem names. -/
import Derived.Test.YtlnijcffanjieaaGreatDoorProg
import Derived.KernelRfl
import Derived.Test.YtlnijcffanjieaaGreatDoorVmF
import Derived.Test.YtlnijcffanjieaaGreatDoorVmJ
namespace Go.Proofs.YtlnijcffanjieaaGreatDoor
set_option maxRecDepth 100000
open Go Go.Vm Go.Vm.Sx
def hs49:List (Nat×JS):=[]
def tree49:Tree :=
 (.opn 0 [(.int .i64),(.int .i64),(.int .u64),(.int .u64),(.int .u64),(.int .u64),.str,(.int .i64),(.int .i64),(.sl 10),.bool,(.int .i64),(.int .i64),(.int .u64),(.int .u64),(.int .u64),(.int .u64),.str,(.int .i64),(.int .i64),(.sl 10)]
 (.ite (.not (.var 11))
   (.letv (.sc (.agg [(.v 1 true),(.v 2 true),(.v 3 true),(.v 4 true),(.v 5 true),(.v 6 true),(.v 7 true),(.v 8 true),(.v 9 true),(.v 10 true)]))
   (.out [(.v 22 false)]))
   (.letv (.sc (.agg [(.v 1 true),(.v 2 true),(.v 3 true),(.v 4 true),(.v 5 true),(.v 6 true),(.v 7 true),(.v 8 true),(.v 9 true),(.v 10 true)]))
   (.letv (.sc (.agg [(.v 12 true),(.v 13 true),(.v 14 true),(.v 15 true),(.v 16 true),(.v 17 true),(.v 18 true),(.v 19 true),(.v 20 true),(.v 21 true)]))
   (.letv (.sc (.agg [(.i .i64 (.lit (5))),(.i .i64 (.lit (0))),(.i .u64 (.lit (0))),(.i .u64 (.lit (0))),(.i .u64 (.lit (0))),(.i .u64 (.lit (0))),(.s (.lit [])),(.i .i64 (.lit (0))),(.i .i64 (.lit (0))),(.sl 10 (.snoc (.snoc .nil 22) 23) .no)]))
   (.out [(.v 24 false)]))))))
def hs70:List (Nat×JS):=[]
def tree70:Tree :=
 (.opn 0 [(.int .i64),(.int .i64),(.int .u64),(.int .u64),(.int .u64),(.int .u64),.str,(.int .i64),(.int .i64),(.sl 10)]
 (.letv (.sc (.one (.b (.and (.and (.and (.and (.and (.and (.cmp .eql (.var 1) (.lit (0))) (.cmp .eql (.var 2) (.lit (0)))) (.and (.cmp .eql (.var 3) (.lit (0))) (.and (.cmp .eql (.var 4) (.lit (0))) (.and (.cmp .eql (.var 5) (.lit (0))) (.cmp .eql (.var 6) (.lit (0))))))) (.scmp .eql (.var 7) (.lit []))) (.cmp .eql (.var 8) (.lit (0)))) (.cmp .eql (.var 9) (.lit (0)))) (.cmp .eql (.len (.var 10)) (.lit (0)))))))
 (.out [(.v 11 false)])))
def hs22:List (Nat×JS):=[(58,⟨[(3,(.one (.int .i64))),(4,(.one (.int .i64)))]++drp 5 21,[]⟩)]
def lp22_1:Tree :=
 (.ite (.cmp .lss (.var 2) (.len (.var 0)))
     (.elem (.var 0) (.var 2)
     (.opn 3 [(.int .i64),(.int .i64),(.int .u64),(.int .u64),(.int .u64),(.int .u64),.str,(.int .i64),(.int .i64),(.sl 10),.bool,(.int .i64),(.int .i64),(.int .u64),(.int .u64),(.int .u64),(.int .u64),.str,(.int .i64),(.int .i64),(.sl 10)]
     (.call 10 [(.d (.agg [(.v 4 false),(.v 5 false),(.v 6 false),(.v 7 false),(.v 8 false),(.v 9 false),(.v 10 false),(.v 11 false),(.v 12 false),(.v 13 false)])),(.d (.one (.i .i64 (.lit (0)))))] [] []
     (.kin 25 (.int .i64)
     (.elem (.var 0) (.var 2)
     (.opn 26 [(.int .i64),(.int .i64),(.int .u64),(.int .u64),(.int .u64),(.int .u64),.str,(.int .i64),(.int .i64),(.sl 10),.bool,(.int .i64),(.int .i64),(.int .u64),(.int .u64),(.int .u64),(.int .u64),.str,(.int .i64),(.int .i64),(.sl 10)]
     (.call 10 [(.d (.agg [(.v 38 false),(.v 39 false),(.v 40 false),(.v 41 false),(.v 42 false),(.v 43 false),(.v 44 false),(.v 45 false),(.v 46 false),(.v 47 false)])),(.d (.one (.i .i64 (.lit (0)))))] [] []
     (.kin 48 (.int .i64)
     (.out [(.i .i64 (.bin .add .i64 (.bin .add .i64 (.var 1) (.var 25)) (.var 48))),(.i .i64 (.bin .add .i64 (.var 2) (.lit (1))))])))))))))
     (.esc
      (.letv (.sc (.one (.b (.cmp .leq (.var 1) (.lit (1200))))))
      (.out [(.v 3 false)]))))
def tree22:Tree :=
 (.kin 0 (.sl 21)
 (.loop [(.i .i64 (.lit (0))),(.i .i64 (.lit (0)))] lp22_1))
theorem tree49_ok:zbj Tryz.prog hs49 49=some tree49:=by kernel_rfl
theorem tree70_ok:zbj Tryz.prog hs70 70=some tree70:=by kernel_rfl
theorem tree22_ok:zbj Tryz.prog hs22 22=some tree22:=by kernel_rfl
end Go.Proofs.YtlnijcffanjieaaGreatDoor
