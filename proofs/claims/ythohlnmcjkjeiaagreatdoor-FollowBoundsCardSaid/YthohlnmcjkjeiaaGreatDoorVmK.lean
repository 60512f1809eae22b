/- Trees of bodies, as they are told of the program's code. Conditions: none but those named. -/
import Derived.Test.YthohlnmcjkjeiaaGreatDoorProg
import Derived.KernelRfl
import Derived.Test.YthohlnmcjkjeiaaGreatDoorVmF
set_option linter.defProp false
namespace Go.Proofs.YthohlnmcjkjeiaaGreatDoor
open Go.Proofs.Tryz
set_option maxRecDepth 100000
open Go Go.Vm Go.Vm.Sx
def dR(k n:Nat):List (Nat×GS):=(List.range n).map λi=>(k+i,.drop)
def Bl:List CK:=[(.int .i64),(.int .i64),(.int .u64),(.int .u64),(.int .u64),(.int .u64),.str,(.int .i64),(.int .i64),(.sl 10)]
def s5(i:Nat)(b:Bool):List C:=[.v i b,.v (i+1) b,.v (i+2) b,.v (i+3) b,.v (i+4) b,.v (i+5) b,.v (i+6) b,.v (i+7) b,.v (i+8) b,.v (i+9) b]
def Sz:List (Nat×JS):=[]
def D5:Tree :=
 (.uf 0 Bl
 (.dg (.sc (.one (.b (.and (.and (.and (.cmp .eql (.var 2) (.lit (0))) (.oB .eql (.var 7) (.lit []))) (.or (.cmp .eql (.var 1) (.lit (2))) (.and (.cmp .eql (.var 3) (.lit (0))) (.and (.cmp .eql (.var 4) (.lit (0))) (.and (.cmp .eql (.var 5) (.lit (0))) (.cmp .eql (.var 6) (.lit (0)))))))) (.or (.cmp .eql (.var 1) (.lit (7))) (.and (.cmp .eql (.var 8) (.lit (0))) (.cmp .eql (.var 9) (.lit (0)))))))))
 (.out [(.v 11 false)])))
def SA:List (Nat×JS):=[]
def D6:Tree :=
 (.uf 0 Bl
 (.ite (.cmp .eql (.var 1) (.lit (1)))
   (.dg (.sc (.one (.b (.cmp .eql (.len (.var 10)) (.lit (0))))))
   (.out [(.v 11 false)]))
   (.ite (.cmp .eql (.var 1) (.lit (2)))
     (.dg (.sc (.one (.b (.cmp .eql (.len (.var 10)) (.lit (0))))))
     (.out [(.v 11 false)]))
     (.ite (.cmp .eql (.var 1) (.lit (5)))
       (.dg (.sc (.one (.b (.cmp .gtr (.len (.var 10)) (.lit (1))))))
       (.out [(.v 11 false)]))
       (.ite (.cmp .eql (.var 1) (.lit (6)))
         (.dg (.sc (.one (.b (.cmp .gtr (.len (.var 10)) (.lit (1))))))
         (.out [(.v 11 false)]))
         (.ite (.cmp .eql (.var 1) (.lit (7)))
           (.dg (.sc (.one (.b (.and (.cmp .eql (.len (.var 10)) (.lit (1))) (.or (.or (.and (.cmp .eql (.var 8) (.lit (0))) (.cmp .eql (.var 9) (.lit (-1)))) (.and (.cmp .eql (.var 8) (.lit (1))) (.cmp .eql (.var 9) (.lit (-1))))) (.and (.cmp .eql (.var 8) (.lit (0))) (.cmp .eql (.var 9) (.lit (1)))))))))
           (.out [(.v 11 false)]))
           (.dg (.sc (.one (.b (.lit false))))
           (.out [(.v 11 false)]))))))))
def SB:List (Nat×JS):=[(122,⟨[(10,.drop),(21,.drop),(22,.drop),(25,.drop),(30,.drop),(45,(.one (.int .i64)))]++dR 46 11,[(0,[(some (.int .i64))]),(1,[(some (.int .i64))])]⟩)]
def s6:Tree :=
 (.ite (.cmp .lss (.var 18) (.len (.var 15)))
             (.elem (.var 15) (.var 18)
             (.uf 21 Bl
             (.call 122 [(.d (.agg (s5 22 true))),(.d (.one (.i .i64 (.bin .add .i64 (.var 1) (.lit (1)))))),(.p 0 0),(.p 1 0)] [([(.v 19 false)],3),([(.v 20 false)],3)] [(.int .i64),(.int .i64)]
             (.gv 32 .bool
             (.ite (.not (.var 32))
               (.oR
                (.dg (.sc (.one (.b (.lit false))))
                (.out [(.v 35 false),(.v 33 false),(.v 34 false)])))
               (.out [(.i .i64 (.bin .add .i64 (.var 18) (.lit (1)))),(.v 33 false),(.v 34 false)]))))))
             (.oR
              (.dg (.sc (.one (.b (.lit true))))
              (.out [(.v 21 false),(.v 19 false),(.v 20 false)]))))
def D7:Tree :=
 (.gv 4 (.int .i64)
 (.gv 5 (.int .i64)
 (.uf 0 Bl
 (.gv 1 (.int .i64)
 (.ite (.not (.or (.cmp .gtr (.bin .add .i64 (.var 4) (.lit (1))) (.lit (65536))) (.cmp .gtr (.var 1) (.lit (4096)))))
   (.call 153 [(.d (.agg (s5 6 true)))] [] []
   (.gv 16 .bool
   (.ite (.var 16)
     (.call 154 [(.d (.agg (s5 6 true)))] [] []
     (.gv 17 .bool
     (.ite (.not (.var 17))
       (.dg (.sc (.one (.b (.lit false))))
       (.out [(.v 18 false),(.i .i64 (.bin .add .i64 (.var 4) (.lit (1)))),(.v 5 false)]))
       (.ite (.cmp .eql (.var 6) (.lit (2)))
         (.loop [(.i .i64 (.lit (0))),(.i .i64 (.bin .add .i64 (.var 4) (.lit (1)))),(.i .i64 (.bin .add .i64 (.var 5) (.lit (1))))] s6)
         (.loop [(.i .i64 (.lit (0))),(.i .i64 (.bin .add .i64 (.var 4) (.lit (1)))),(.v 5 false)] s6)))))
     (.dg (.sc (.one (.b (.lit false))))
     (.out [(.v 17 false),(.i .i64 (.bin .add .i64 (.var 4) (.lit (1)))),(.v 5 false)])))))
   (.dg (.sc (.one (.b (.lit false))))
   (.out [(.v 16 false),(.i .i64 (.bin .add .i64 (.var 4) (.lit (1)))),(.v 5 false)])))))))
def aaQ:List (Nat×JS):=[]
def GY:Tree :=
 (.uf 0 Bl
 (.call 122 [(.d (.agg (s5 1 true))),(.d (.one (.i .i64 (.lit (1))))),(.p 0 0),(.p 1 0)] [([(.i .i64 (.lit (0)))],3),([(.i .i64 (.lit (0)))],3)] [(.int .i64),(.int .i64)]
 (.gv 11 .bool
 (.dg (.sc (.one (.v 11 false)))
 (.out [(.v 14 false)])))))
def aaR:List (Nat×JS):=[]
def GZ:Tree :=
 (.uf 0 Bl
 (.call 122 [(.d (.agg (s5 1 true))),(.d (.one (.i .i64 (.lit (1))))),(.p 0 0),(.p 1 0)] [([(.i .i64 (.lit (0)))],3),([(.i .i64 (.lit (0)))],3)] [(.int .i64),(.int .i64)]
 (.gv 11 .bool
 (.ite (.not (.var 11))
   (.dg (.sc (.one (.i .i64 (.lit (0)))))
   (.out [(.v 14 false)]))
   (.dg (.sc (.one (.i .i64 (.ite (.cmp .lss (.lit (1001)) (.var 13)) (.lit (1001)) (.var 13)))))
   (.out [(.v 14 false)]))))))
def aaS:List (Nat×JS):=[]
def G0:Tree :=
 (.uf 0 Bl
 (.dg (.sc (.one (.b (.and (.and (.and (.and (.and (.and (.cmp .eql (.var 1) (.lit (0))) (.cmp .eql (.var 2) (.lit (0)))) (.and (.cmp .eql (.var 3) (.lit (0))) (.and (.cmp .eql (.var 4) (.lit (0))) (.and (.cmp .eql (.var 5) (.lit (0))) (.cmp .eql (.var 6) (.lit (0))))))) (.oB .eql (.var 7) (.lit []))) (.cmp .eql (.var 8) (.lit (0)))) (.cmp .eql (.var 9) (.lit (0)))) (.cmp .eql (.len (.var 10)) (.lit (0)))))))
 (.out [(.v 11 false)])))
def aaT:List (Nat×JS):=[(58,⟨[(2,(.one (.int .i64))),(5,.drop),(11,(.one (.int .i64)))]++dR 12 39,[]⟩)]
def C0:Tree :=
 (.ite (.cmp .lss (.var 2) (.len (.var 0)))
       (.elem (.var 0) (.var 2)
       (.uf 3 [(.int .i64),(.int .i64),(.int .u64),(.int .u64),(.int .u64),(.int .u64),.str,(.int .i64),(.int .i64),(.sl 10),.bool,(.int .i64),(.int .i64),(.int .u64),(.int .u64),(.int .u64),(.int .u64),.str,(.int .i64),(.int .i64),(.sl 10)]
       (.call 85 [(.d (.agg (s5 4 true)))] [] []
       (.gv 25 .bool
       (.ite (.and (.var 25) (.var 14))
         (.call 85 [(.d (.agg (s5 15 true)))] [] []
         (.gv 26 .bool
         (.ite (.not (.var 26))
           (.oR
            (.dg (.bz [(.one (.i .i64 (.lit (0)))),(.one (.b (.lit false)))])
            (.out [(.v 27 false)])))
           (.call 87 [(.d (.agg (s5 4 true)))] [] []
           (.gv 27 (.int .i64)
           (.call 87 [(.d (.agg (s5 15 true)))] [] []
           (.gv 28 (.int .i64)
           (.out [(.i .i64 (.ite (.cmp .lss (.lit (1001)) (.bin .add .i64 (.bin .add .i64 (.var 1) (.var 27)) (.var 28))) (.lit (1001)) (.bin .add .i64 (.bin .add .i64 (.var 1) (.var 27)) (.var 28)))),(.i .i64 (.bin .add .i64 (.var 2) (.lit (1))))]))))))))
         (.ite (.and (.var 25) (.not (.var 14)))
           (.call 86 [(.d (.agg (s5 15 true)))] [] []
           (.gv 26 .bool
           (.ite (.not (.var 26))
             (.oR
              (.dg (.bz [(.one (.i .i64 (.lit (0)))),(.one (.b (.lit false)))])
              (.out [(.v 27 false)])))
             (.call 87 [(.d (.agg (s5 4 true)))] [] []
             (.gv 27 (.int .i64)
             (.call 87 [(.d (.agg (s5 15 true)))] [] []
             (.gv 28 (.int .i64)
             (.out [(.i .i64 (.ite (.cmp .lss (.lit (1001)) (.bin .add .i64 (.bin .add .i64 (.var 1) (.var 27)) (.var 28))) (.lit (1001)) (.bin .add .i64 (.bin .add .i64 (.var 1) (.var 27)) (.var 28)))),(.i .i64 (.bin .add .i64 (.var 2) (.lit (1))))]))))))))
           (.ite (.not (.var 25))
             (.oR
              (.dg (.bz [(.one (.i .i64 (.lit (0)))),(.one (.b (.lit false)))])
              (.out [(.v 26 false)])))
             (.call 87 [(.d (.agg (s5 4 true)))] [] []
             (.gv 26 (.int .i64)
             (.call 87 [(.d (.agg (s5 15 true)))] [] []
             (.gv 27 (.int .i64)
             (.out [(.i .i64 (.ite (.cmp .lss (.lit (1001)) (.bin .add .i64 (.bin .add .i64 (.var 1) (.var 26)) (.var 27))) (.lit (1001)) (.bin .add .i64 (.bin .add .i64 (.var 1) (.var 26)) (.var 27)))),(.i .i64 (.bin .add .i64 (.var 2) (.lit (1))))]))))))))))))
       (.oR
        (.dg (.bz [(.one (.v 1 true)),(.one (.b (.lit true)))])
        (.out [(.v 3 false)]))))
def G1:Tree :=
 (.gv 0 (.sl 21)
 (.ite (.cmp .gtr (.len (.var 0)) (.lit (200)))
   (.dg (.bz [(.one (.i .i64 (.lit (0)))),(.one (.b (.lit false)))])
   (.out [(.v 1 false)]))
   (.loop [(.i .i64 (.lit (0))),(.i .i64 (.lit (0)))] C0)))
def Nc:List (Nat×JS):=[]
def tN:Tree :=
 (.gv 0 (.sl 1)
 (.ny (.room (.var 0) 8)
 (.dg (.app (.k .aJ) 1 3 (.var 0))
 (.dg (.sc (.one (.v 1 false)))
 (.out [(.v 2 false)])))))
def Nd:List (Nat×JS):=[(58,⟨[(3,(.one (.sl 1))),(4,(.one (.int .i64)))]++dR 5 14,[]⟩)]
def tP:Tree :=
 (.ite (.cmp .lss (.var 2) (.len (.var 0)))
     (.elem (.var 0) (.var 2)
     (.gv 3 (.sl 1)
     (.call 53 [(.d (.one (.v 3 true)))] [] []
     (.gv 4 (.sl 1)
     (.dg (.sc (.one (.v 4 true)))
     (.ny (.own 1 27)
     (.ny (.room (.snoc (.var 1) 5) 24)
     (.out [(.sl 1 (.snoc (.var 1) 5) (.yes 27)),(.i .i64 (.bin .add .i64 (.var 2) (.lit (1))))]))))))))
     (.oR
      (.dg (.sc (.one (.v 1 false)))
      (.out [(.v 3 false)]))))
def AO:Tree :=
 (.gv 0 (.sl 1)
 (.loop [(.k .aJ),(.i .i64 (.lit (0)))] tP))
def C1:z_ prog Sz 153=some D5:=by kernel_rfl
def C2:z_ prog SA 154=some D6:=by kernel_rfl
def C3:z_ prog SB 122=some D7:=by kernel_rfl
def EV:z_ prog aaQ 85=some GY:=by kernel_rfl
def EW:z_ prog aaR 87=some GZ:=by kernel_rfl
def EX:z_ prog aaS 86=some G0:=by kernel_rfl
def EY:z_ prog aaT 54=some G1:=by kernel_rfl
def rV:z_ prog Nc 53=some tN:=by kernel_rfl
def Ae:z_ prog Nd 68=some AO:=by kernel_rfl
end Go.Proofs.YthohlnmcjkjeiaaGreatDoor
