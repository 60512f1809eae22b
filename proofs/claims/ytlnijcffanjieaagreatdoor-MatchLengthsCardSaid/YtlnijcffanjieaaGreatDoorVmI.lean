/- Trees of bodies, as they are told of the program's code. Conditions: none but those that each theorem names. -/
import Derived.Test.YtlnijcffanjieaaGreatDoorProg
import Derived.KernelRfl
import Derived.Test.YtlnijcffanjieaaGreatDoorVmF
namespace Go.Proofs.YtlnijcffanjieaaGreatDoor
set_option maxRecDepth 100000
open Go Go.Vm Go.Vm.Sx
def drp (a n:Nat):List (Nat×GS):=(List.range' a n).map fun i=>(i,GS.drop)
def hs63:List (Nat×JS):=[]
def tree63:Tree :=
 (.opn 0 [(.int .i64),(.int .i64),(.int .u64),(.int .u64),(.int .u64),(.int .u64),.str,(.int .i64),(.int .i64),(.sl 10)]
 (.letv (.sc (.one (.b (.and (.and (.and (.cmp .eql (.var 2) (.lit (0))) (.scmp .eql (.var 7) (.lit []))) (.or (.cmp .eql (.var 1) (.lit (2))) (.and (.cmp .eql (.var 3) (.lit (0))) (.and (.cmp .eql (.var 4) (.lit (0))) (.and (.cmp .eql (.var 5) (.lit (0))) (.cmp .eql (.var 6) (.lit (0)))))))) (.or (.cmp .eql (.var 1) (.lit (7))) (.and (.cmp .eql (.var 8) (.lit (0))) (.cmp .eql (.var 9) (.lit (0)))))))))
 (.out [(.v 11 false)])))
def hs64:List (Nat×JS):=[]
def tree64:Tree :=
 (.opn 0 [(.int .i64),(.int .i64),(.int .u64),(.int .u64),(.int .u64),(.int .u64),.str,(.int .i64),(.int .i64),(.sl 10)]
 (.ite (.cmp .eql (.var 1) (.lit (1)))
   (.letv (.sc (.one (.b (.cmp .eql (.len (.var 10)) (.lit (0))))))
   (.out [(.v 11 false)]))
   (.ite (.cmp .eql (.var 1) (.lit (2)))
     (.letv (.sc (.one (.b (.cmp .eql (.len (.var 10)) (.lit (0))))))
     (.out [(.v 11 false)]))
     (.ite (.cmp .eql (.var 1) (.lit (5)))
       (.letv (.sc (.one (.b (.cmp .gtr (.len (.var 10)) (.lit (1))))))
       (.out [(.v 11 false)]))
       (.ite (.cmp .eql (.var 1) (.lit (6)))
         (.letv (.sc (.one (.b (.cmp .gtr (.len (.var 10)) (.lit (1))))))
         (.out [(.v 11 false)]))
         (.ite (.cmp .eql (.var 1) (.lit (7)))
           (.letv (.sc (.one (.b (.and (.cmp .eql (.len (.var 10)) (.lit (1))) (.or (.or (.and (.cmp .eql (.var 8) (.lit (0))) (.cmp .eql (.var 9) (.lit (-1)))) (.and (.cmp .eql (.var 8) (.lit (1))) (.cmp .eql (.var 9) (.lit (-1))))) (.and (.cmp .eql (.var 8) (.lit (0))) (.cmp .eql (.var 9) (.lit (1)))))))))
           (.out [(.v 11 false)]))
           (.letv (.sc (.one (.b (.lit false))))
           (.out [(.v 11 false)]))))))))
def hs41:List (Nat×JS):=[(122,⟨[(10,.drop),(21,.drop),(22,.drop),(25,.drop),(30,.drop),(45,(.one (.int .i64)))]++drp 46 11,[(0,[(some (.int .i64))]),(1,[(some (.int .i64))])]⟩)]
def lp41_1:Tree :=
 (.ite (.cmp .lss (.var 18) (.len (.var 15)))
             (.elem (.var 15) (.var 18)
             (.opn 21 [(.int .i64),(.int .i64),(.int .u64),(.int .u64),(.int .u64),(.int .u64),.str,(.int .i64),(.int .i64),(.sl 10)]
             (.call 41 [(.d (.agg [(.v 22 true),(.v 23 true),(.v 24 true),(.v 25 true),(.v 26 true),(.v 27 true),(.v 28 true),(.v 29 true),(.v 30 true),(.v 31 true)])),(.d (.one (.i .i64 (.bin .add .i64 (.var 1) (.lit (1)))))),(.p 0 0),(.p 1 0)] [([(.v 19 false)],3),([(.v 20 false)],3)] [(.int .i64),(.int .i64)]
             (.kin 32 .bool
             (.ite (.not (.var 32))
               (.esc
                (.letv (.sc (.one (.b (.lit false))))
                (.out [(.v 35 false),(.v 33 false),(.v 34 false)])))
               (.out [(.i .i64 (.bin .add .i64 (.var 18) (.lit (1)))),(.v 33 false),(.v 34 false)]))))))
             (.esc
              (.letv (.sc (.one (.b (.lit true))))
              (.out [(.v 21 false),(.v 19 false),(.v 20 false)]))))
def tree41:Tree :=
 (.kin 4 (.int .i64)
 (.kin 5 (.int .i64)
 (.opn 0 [(.int .i64),(.int .i64),(.int .u64),(.int .u64),(.int .u64),(.int .u64),.str,(.int .i64),(.int .i64),(.sl 10)]
 (.kin 1 (.int .i64)
 (.ite (.not (.or (.cmp .gtr (.bin .add .i64 (.var 4) (.lit (1))) (.lit (65536))) (.cmp .gtr (.var 1) (.lit (4096)))))
   (.call 63 [(.d (.agg [(.v 6 true),(.v 7 true),(.v 8 true),(.v 9 true),(.v 10 true),(.v 11 true),(.v 12 true),(.v 13 true),(.v 14 true),(.v 15 true)]))] [] []
   (.kin 16 .bool
   (.ite (.var 16)
     (.call 64 [(.d (.agg [(.v 6 true),(.v 7 true),(.v 8 true),(.v 9 true),(.v 10 true),(.v 11 true),(.v 12 true),(.v 13 true),(.v 14 true),(.v 15 true)]))] [] []
     (.kin 17 .bool
     (.ite (.not (.var 17))
       (.letv (.sc (.one (.b (.lit false))))
       (.out [(.v 18 false),(.i .i64 (.bin .add .i64 (.var 4) (.lit (1)))),(.v 5 false)]))
       (.ite (.cmp .eql (.var 6) (.lit (2)))
         (.loop [(.i .i64 (.lit (0))),(.i .i64 (.bin .add .i64 (.var 4) (.lit (1)))),(.i .i64 (.bin .add .i64 (.var 5) (.lit (1))))] lp41_1)
         (.loop [(.i .i64 (.lit (0))),(.i .i64 (.bin .add .i64 (.var 4) (.lit (1)))),(.v 5 false)] lp41_1)))))
     (.letv (.sc (.one (.b (.lit false))))
     (.out [(.v 17 false),(.i .i64 (.bin .add .i64 (.var 4) (.lit (1)))),(.v 5 false)])))))
   (.letv (.sc (.one (.b (.lit false))))
   (.out [(.v 16 false),(.i .i64 (.bin .add .i64 (.var 4) (.lit (1)))),(.v 5 false)])))))))
def hs11:List (Nat×JS):=[]
def tree11:Tree :=
 (.opn 0 [(.int .i64),(.int .i64),(.int .u64),(.int .u64),(.int .u64),(.int .u64),.str,(.int .i64),(.int .i64),(.sl 10)]
 (.call 41 [(.d (.agg [(.v 1 true),(.v 2 true),(.v 3 true),(.v 4 true),(.v 5 true),(.v 6 true),(.v 7 true),(.v 8 true),(.v 9 true),(.v 10 true)])),(.d (.one (.i .i64 (.lit (1))))),(.p 0 0),(.p 1 0)] [([(.i .i64 (.lit (0)))],3),([(.i .i64 (.lit (0)))],3)] [(.int .i64),(.int .i64)]
 (.kin 11 .bool
 (.letv (.sc (.one (.v 11 false)))
 (.out [(.v 14 false)])))))
def hs10:List (Nat×JS):=[(122,⟨[(5,(.one (.int .i64))),(6,(.one (.int .i64)))]++drp 9 21,[]⟩)]
def lp10_1:Tree :=
 (.ite (.and (.cmp .lss (.var 13) (.len (.var 11))) (.cmp .lss (.var 12) (.lit (1048576))))
       (.elem (.var 11) (.var 13)
       (.opn 14 [(.int .i64),(.int .i64),(.int .u64),(.int .u64),(.int .u64),(.int .u64),.str,(.int .i64),(.int .i64),(.sl 10)]
       (.call 10 [(.d (.agg [(.v 15 false),(.v 16 false),(.v 17 false),(.v 18 false),(.v 19 false),(.v 20 false),(.v 21 false),(.v 22 false),(.v 23 false),(.v 24 false)])),(.d (.one (.i .i64 (.bin .add .i64 (.var 1) (.lit (1))))))] [] []
       (.kin 25 (.int .i64)
       (.out [(.i .i64 (.bin .add .i64 (.var 12) (.var 25))),(.i .i64 (.bin .add .i64 (.var 13) (.lit (1))))])))))
       (.esc
        (.letv (.sc (.one (.v 12 true)))
        (.out [(.v 14 false)]))))
def tree10:Tree :=
 (.opn 0 [(.int .i64),(.int .i64),(.int .u64),(.int .u64),(.int .u64),(.int .u64),.str,(.int .i64),(.int .i64),(.sl 10)]
 (.kin 1 (.int .i64)
 (.ite (.cmp .gtr (.var 1) (.lit (5000)))
   (.letv (.sc (.one (.i .i64 (.lit (1048576)))))
   (.out [(.v 12 false)]))
   (.loop [(.i .i64 (.lit (1))),(.i .i64 (.lit (0)))] lp10_1))))
def hs17:List (Nat×JS):=[]
def tree17:Tree :=
 (.opn 0 [(.int .u64),(.int .u64),(.int .u64),(.int .u64)]
 (.kin 1 (.int .u8)
 (.ite (.cmp .eql (.bin .quo .u8 (.var 1) (.lit (64))) (.lit (0)))
   (.need (.cmp .geq (.bin .rem .u8 (.var 1) (.lit (64))) (.lit (0)))
   (.letv (.sc (.one (.b (.cmp .eql (.bin .and .u64 (.bin .shr .u64 (.var 2) (.bin .rem .u8 (.var 1) (.lit (64)))) (.lit (1))) (.lit (1))))))
   (.out [(.v 6 false)])))
   (.ite (.cmp .eql (.bin .quo .u8 (.var 1) (.lit (64))) (.lit (1)))
     (.need (.cmp .geq (.bin .rem .u8 (.var 1) (.lit (64))) (.lit (0)))
     (.letv (.sc (.one (.b (.cmp .eql (.bin .and .u64 (.bin .shr .u64 (.var 3) (.bin .rem .u8 (.var 1) (.lit (64)))) (.lit (1))) (.lit (1))))))
     (.out [(.v 6 false)])))
     (.ite (.cmp .eql (.bin .quo .u8 (.var 1) (.lit (64))) (.lit (2)))
       (.need (.cmp .geq (.bin .rem .u8 (.var 1) (.lit (64))) (.lit (0)))
       (.letv (.sc (.one (.b (.cmp .eql (.bin .and .u64 (.bin .shr .u64 (.var 4) (.bin .rem .u8 (.var 1) (.lit (64)))) (.lit (1))) (.lit (1))))))
       (.out [(.v 6 false)])))
       (.ite (.cmp .eql (.bin .quo .u8 (.var 1) (.lit (64))) (.lit (3)))
         (.need (.cmp .geq (.bin .rem .u8 (.var 1) (.lit (64))) (.lit (0)))
         (.letv (.sc (.one (.b (.cmp .eql (.bin .and .u64 (.bin .shr .u64 (.var 5) (.bin .rem .u8 (.var 1) (.lit (64)))) (.lit (1))) (.lit (1))))))
         (.out [(.v 6 false)])))
         (.need (.lit false)
         (.out []))))))))
def hs226:List (Nat×JS):=[(26,⟨[(5,.drop),(6,(.one (.int .i64)))]++drp 7 11,[(0,[(some (.int .u64)),(some (.int .u64)),(some (.int .u64)),(some (.int .u64))])]⟩)]
def lp226_1:Tree :=
 (.ite (.cmp .lss (.var 10) (.lit (4)))
     (.ite (.cmp .eql (.var 10) (.lit (0)))
       (.out [(.i .i64 (.bin .add .i64 (.var 10) (.lit (1)))),(.i .u64 (.bin .or .u64 (.var 11) (.var 6))),(.v 12 false),(.v 13 false),(.v 14 false)])
       (.ite (.cmp .eql (.var 10) (.lit (1)))
         (.out [(.i .i64 (.bin .add .i64 (.var 10) (.lit (1)))),(.v 11 false),(.i .u64 (.bin .or .u64 (.var 12) (.var 7))),(.v 13 false),(.v 14 false)])
         (.ite (.cmp .eql (.var 10) (.lit (2)))
           (.out [(.i .i64 (.bin .add .i64 (.var 10) (.lit (1)))),(.v 11 false),(.v 12 false),(.i .u64 (.bin .or .u64 (.var 13) (.var 8))),(.v 14 false)])
           (.ite (.cmp .eql (.var 10) (.lit (3)))
             (.out [(.i .i64 (.bin .add .i64 (.var 10) (.lit (1)))),(.v 11 false),(.v 12 false),(.v 13 false),(.i .u64 (.bin .or .u64 (.var 14) (.var 9)))])
             (.need (.lit false)
             (.out []))))))
     (.esc
      (.letv (.sc (.agg [(.v 11 true),(.v 12 true),(.v 13 true),(.v 14 true)]))
      (.out [(.v 15 false)]))))
def tree226:Tree :=
 (.opn 0 [(.int .u64),(.int .u64),(.int .u64),(.int .u64)]
 (.opn 1 [(.int .u64),(.int .u64),(.int .u64),(.int .u64)]
 (.loop [(.i .i64 (.lit (0))),(.v 2 true),(.v 3 true),(.v 4 true),(.v 5 true)] lp226_1)))
def hs13:List (Nat×JS):=[]
def tree13:Tree :=
 (.kin 0 (.sl 1)
 (.ite (.and (.cmp .gtr (.len (.var 0)) (.lit (40))) (.cmp .leq (.len (.var 0)) (.lit (65536))))
   (.need (.and (.cmp .leq (.lit (0)) (.lit (0))) (.and (.cmp .leq (.lit (0)) (.lit (40))) (.cmp .leq (.lit (40)) (.len (.var 0)))))
   (.letv (.slc 0 (.lit (0)) (.lit (40)))
   (.letv (.sc (.one (.v 1 false)))
   (.out [(.v 2 false)]))))
   (.letv (.sc (.one (.v 0 true)))
   (.out [(.v 1 false)]))))
def hs3:List (Nat×JS):=[(119422,⟨[(7,(.one .bool)),(8,(.one (.int .i64)))]++drp 9 4++[(18,.drop),(19,.drop),(30,.drop),(31,.drop),(33,.drop),(34,.drop)]++drp 53 59,[]⟩),
 (58,⟨[(3,(.one (.int .i64)))]++drp 4 9++[(18,.drop),(19,.drop)]++drp 24 88,[]⟩)]
def hs4:List (Nat×JS):=[(260686,⟨[(9,(.one (.int .i64)))]++drp 10 8++[(184,.drop),(185,.drop),(187,.drop),(188,.drop)]++drp 198 67,[]⟩),
 (1018,⟨[(7,(.one (.int .i64)))]++drp 8 10++drp 178 87,[]⟩)]
theorem tree63_ok:yp Tryz.prog hs63 63=some tree63:=by kernel_rfl
theorem tree64_ok:yp Tryz.prog hs64 64=some tree64:=by kernel_rfl
theorem tree41_ok:yp Tryz.prog hs41 41=some tree41:=by kernel_rfl
theorem tree11_ok:yp Tryz.prog hs11 11=some tree11:=by kernel_rfl
theorem tree10_ok:yp Tryz.prog hs10 10=some tree10:=by kernel_rfl
theorem tree17_ok:yp Tryz.prog hs17 17=some tree17:=by kernel_rfl
theorem tree226_ok:yp Tryz.prog hs226 226=some tree226:=by kernel_rfl
theorem tree13_ok:yp Tryz.prog hs13 13=some tree13:=by kernel_rfl
end Go.Proofs.YtlnijcffanjieaaGreatDoor
