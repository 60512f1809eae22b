/- Trees of bodies, as they are told of the program's code. Conditions: none but those that each theorem names. -/
import Derived.Test.YtlnijcffanjieaaGreatDoorProg
import Derived.KernelRfl
import Derived.Test.YtlnijcffanjieaaGreatDoorVmF
import Derived.Test.YtlnijcffanjieaaGreatDoorVmJ
namespace Go.Proofs.YtlnijcffanjieaaGreatDoor
set_option maxRecDepth 100000
open Go Go.Vm Go.Vm.Sx
def hs49:List (Nat×JS):=[]
def tree49:Tree :=
 (.opn 0 [(.int .i64),(.int .i64),(.int .u64),(.int .u64),(.int .u64),(.int .u64),.str,(.int .i64),(.int .i64),(.sl 10),.bool,(.int .i64),(.int .i64),(.int .u64),(.int .u64),(.int .u64),(.int .u64),.str,(.int .i64),(.int .i64),(.sl 10)]
 (.ite (.not (.var 11))
   (.letv (.sc (.agg [(.v 1 true),(.v 2 true),(.v 3 true),(.v 4 true),(.v 5 true),(.v 6 true),(.v 7 true),(.v 8 true),(.v 9 true),(.v 10 true)]))
   (.out [(.v 22 false)]))
   (.letv (.sc (.agg [(.v 1 true),(.v 2 true),(.v 3 true),(.v 4 true),(.v 5 true),(.v 6 true),(.v 7 true),(.v 8 true),(.v 9 true),(.v 10 true)]))
   (.letv (.sc (.agg [(.v 12 true),(.v 13 true),(.v 14 true),(.v 15 true),(.v 16 true),(.v 17 true),(.v 18 true),(.v 19 true),(.v 20 true),(.v 21 true)]))
   (.letv (.sc (.agg [(.i .i64 (.lit (5))),(.i .i64 (.lit (0))),(.i .u64 (.lit (0))),(.i .u64 (.lit (0))),(.i .u64 (.lit (0))),(.i .u64 (.lit (0))),(.s (.lit [])),(.i .i64 (.lit (0))),(.i .i64 (.lit (0))),(.sl 10 (.snoc (.snoc .nil 22) 23) .no)]))
   (.out [(.v 24 false)]))))))
def hs70:List (Nat×JS):=[]
def tree70:Tree :=
 (.opn 0 [(.int .i64),(.int .i64),(.int .u64),(.int .u64),(.int .u64),(.int .u64),.str,(.int .i64),(.int .i64),(.sl 10)]
 (.letv (.sc (.one (.b (.and (.and (.and (.and (.and (.and (.cmp .eql (.var 1) (.lit (0))) (.cmp .eql (.var 2) (.lit (0)))) (.and (.cmp .eql (.var 3) (.lit (0))) (.and (.cmp .eql (.var 4) (.lit (0))) (.and (.cmp .eql (.var 5) (.lit (0))) (.cmp .eql (.var 6) (.lit (0))))))) (.scmp .eql (.var 7) (.lit []))) (.cmp .eql (.var 8) (.lit (0)))) (.cmp .eql (.var 9) (.lit (0)))) (.cmp .eql (.len (.var 10)) (.lit (0)))))))
 (.out [(.v 11 false)])))
def hs22:List (Nat×JS):=[(58,⟨[(3,(.one (.int .i64))),(4,(.one (.int .i64)))]++drp 5 21,[]⟩)]
def lp22_1:Tree :=
 (.ite (.cmp .lss (.var 2) (.len (.var 0)))
     (.elem (.var 0) (.var 2)
     (.opn 3 [(.int .i64),(.int .i64),(.int .u64),(.int .u64),(.int .u64),(.int .u64),.str,(.int .i64),(.int .i64),(.sl 10),.bool,(.int .i64),(.int .i64),(.int .u64),(.int .u64),(.int .u64),(.int .u64),.str,(.int .i64),(.int .i64),(.sl 10)]
     (.call 10 [(.d (.agg [(.v 4 false),(.v 5 false),(.v 6 false),(.v 7 false),(.v 8 false),(.v 9 false),(.v 10 false),(.v 11 false),(.v 12 false),(.v 13 false)])),(.d (.one (.i .i64 (.lit (0)))))] [] []
     (.kin 25 (.int .i64)
     (.elem (.var 0) (.var 2)
     (.opn 26 [(.int .i64),(.int .i64),(.int .u64),(.int .u64),(.int .u64),(.int .u64),.str,(.int .i64),(.int .i64),(.sl 10),.bool,(.int .i64),(.int .i64),(.int .u64),(.int .u64),(.int .u64),(.int .u64),.str,(.int .i64),(.int .i64),(.sl 10)]
     (.call 10 [(.d (.agg [(.v 38 false),(.v 39 false),(.v 40 false),(.v 41 false),(.v 42 false),(.v 43 false),(.v 44 false),(.v 45 false),(.v 46 false),(.v 47 false)])),(.d (.one (.i .i64 (.lit (0)))))] [] []
     (.kin 48 (.int .i64)
     (.out [(.i .i64 (.bin .add .i64 (.bin .add .i64 (.var 1) (.var 25)) (.var 48))),(.i .i64 (.bin .add .i64 (.var 2) (.lit (1))))])))))))))
     (.esc
      (.letv (.sc (.one (.b (.cmp .leq (.var 1) (.lit (1200))))))
      (.out [(.v 3 false)]))))
def tree22:Tree :=
 (.kin 0 (.sl 21)
 (.loop [(.i .i64 (.lit (0))),(.i .i64 (.lit (0)))] lp22_1))
def hs25:List (Nat×JS):=[(58,⟨[(5,(.one (.int .i64))),(6,(.one (.int .i64)))]++drp 7 62,[]⟩)]
def lp25_1:Tree :=
 (.ite (.cmp .lss (.var 6) (.len (.var 3)))
     (.elem (.var 3) (.var 6)
     (.kin 7 (.int .i64)
     (.elem (.var 2) (.var 7)
     (.opn 8 [(.int .i64),(.int .i64),(.int .u64),(.int .u64),(.int .u64),(.int .u64),.str,(.int .i64),(.int .i64),(.sl 10),.bool,(.int .i64),(.int .i64),(.int .u64),(.int .u64),(.int .u64),(.int .u64),.str,(.int .i64),(.int .i64),(.sl 10)]
     (.ite (.var 19)
       (.letv (.sc (.agg [(.v 9 true),(.v 10 true),(.v 11 true),(.v 12 true),(.v 13 true),(.v 14 true),(.v 15 true),(.v 16 true),(.v 17 true),(.v 18 true)]))
       (.letv (.sc (.agg [(.v 20 true),(.v 21 true),(.v 22 true),(.v 23 true),(.v 24 true),(.v 25 true),(.v 26 true),(.v 27 true),(.v 28 true),(.v 29 true)]))
       (.call 19 [(.d (.one (.sl 10 (.snoc (.snoc .nil 30) 31) .no)))] [] []
       (.opn 32 [(.int .i64),(.int .i64),(.int .u64),(.int .u64),(.int .u64),(.int .u64),.str,(.int .i64),(.int .i64),(.sl 10)]
       (.call 14 [(.d (.agg [(.v 33 true),(.v 34 true),(.v 35 true),(.v 36 true),(.v 37 true),(.v 38 true),(.v 39 true),(.v 40 true),(.v 41 true),(.v 42 true)])),(.d (.one (.v 1 true)))] [] []
       (.unt 43 [(.sl 1),.ifc]
       (.ite (.nili 45)
         (.call 15 [(.d (.one (.v 44 true))),(.d (.one (.i .i64 (.len (.var 1)))))] [] []
         (.kin 46 .bool
         (.ite (.and (.var 46) (.not (.cmp .lss (.var 5) (.lit (0)))))
           (.elem (.var 3) (.var 6)
           (.kin 47 (.int .i64)
           (.ite (.cmp .lss (.var 47) (.var 5))
             (.elem (.var 3) (.var 6)
             (.kin 48 (.int .i64)
             (.out [(.v 48 true),(.i .i64 (.bin .add .i64 (.var 6) (.lit (1))))])))
             (.out [(.v 5 false),(.i .i64 (.bin .add .i64 (.var 6) (.lit (1))))]))))
           (.ite (.var 46)
             (.elem (.var 3) (.var 6)
             (.kin 47 (.int .i64)
             (.out [(.v 47 true),(.i .i64 (.bin .add .i64 (.var 6) (.lit (1))))])))
             (.out [(.v 5 false),(.i .i64 (.bin .add .i64 (.var 6) (.lit (1))))])))))
         (.out [(.v 5 false),(.i .i64 (.bin .add .i64 (.var 6) (.lit (1))))]))))))))
       (.call 14 [(.d (.agg [(.v 9 true),(.v 10 true),(.v 11 true),(.v 12 true),(.v 13 true),(.v 14 true),(.v 15 true),(.v 16 true),(.v 17 true),(.v 18 true)])),(.d (.one (.v 1 true)))] [] []
       (.unt 30 [(.sl 1),.ifc]
       (.ite (.nili 32)
         (.call 15 [(.d (.one (.v 31 true))),(.d (.one (.i .i64 (.len (.var 1)))))] [] []
         (.kin 33 .bool
         (.ite (.and (.var 33) (.not (.cmp .lss (.var 5) (.lit (0)))))
           (.elem (.var 3) (.var 6)
           (.kin 34 (.int .i64)
           (.ite (.cmp .lss (.var 34) (.var 5))
             (.elem (.var 3) (.var 6)
             (.kin 35 (.int .i64)
             (.out [(.v 35 true),(.i .i64 (.bin .add .i64 (.var 6) (.lit (1))))])))
             (.out [(.v 5 false),(.i .i64 (.bin .add .i64 (.var 6) (.lit (1))))]))))
           (.ite (.var 33)
             (.elem (.var 3) (.var 6)
             (.kin 34 (.int .i64)
             (.out [(.v 34 true),(.i .i64 (.bin .add .i64 (.var 6) (.lit (1))))])))
             (.out [(.v 5 false),(.i .i64 (.bin .add .i64 (.var 6) (.lit (1))))])))))
         (.out [(.v 5 false),(.i .i64 (.bin .add .i64 (.var 6) (.lit (1))))])))))))))
     (.esc
      (.letv (.sc (.one (.v 5 true)))
      (.out [(.v 7 false)]))))
def tree25:Tree :=
 (.opn 0 [(.sl 21),(.sl 1),(.sl 1)]
 (.kin 1 (.sl 1)
 (.loop [(.i .i64 (.lit (-1))),(.i .i64 (.lit (0)))] lp25_1)))
def hs5:List (Nat×JS):=[(500986,⟨[(9,(.one (.int .i64))),(10,(.one (.int .i64))),(11,(.one (.int .i64))),(12,.drop),(13,.drop)]++drp 19 4++drp 25 4++drp 36 19++[(62,.drop),(63,.drop),(65,.drop),(66,.drop)]++drp 86 3++drp 90 44,[]⟩),
 (122,⟨[(4,(.one (.int .i64)))]++drp 5 9++drp 19 4++drp 25 4++drp 36 19++drp 56 78,[]⟩),
 (58,⟨[(3,(.one (.int .i64)))]++drp 19 4++drp 25 4++drp 31 24,[]⟩)]
def lp5_1:Tree :=
 (.ite (.cmp .leq (.var 15) (.len (.var 8)))
                  (.need (.and (.cmp .leq (.lit (0)) (.lit (0))) (.and (.cmp .leq (.lit (0)) (.var 15)) (.cmp .leq (.var 15) (.len (.var 8)))))
                  (.letv (.slc 8 (.lit (0)) (.var 15))
                  (.call 24 [(.d (.one (.v 1 true))),(.d (.one (.v 2 true))),(.d (.one (.v 16 true)))] [] []
                  (.unt 17 [(.int .i64),.ifc]
                  (.ite (.nili 19)
                    (.need (.and (.cmp .leq (.lit (0)) (.lit (0))) (.and (.cmp .leq (.lit (0)) (.var 15)) (.cmp .leq (.var 15) (.len (.var 8)))))
                    (.letv (.slc 8 (.lit (0)) (.var 15))
                    (.call 25 [(.d (.agg [(.v 1 true),(.v 2 true),(.v 3 true)])),(.d (.one (.v 20 true)))] [] []
                    (.kin 21 (.int .i64)
                    (.ite (.not (.cmp .eql (.var 18) (.var 21)))
                      (.esc
                       (.esc
                        (.letv (.sc (.one (.b (.lit false))))
                        (.out [(.v 22 false)]))))
                      (.ite (.and (.cmp .gtr (.var 15) (.lit (0))) (.cmp .geq (.var 18) (.lit (0))))
                        (.out [(.v 15 true),(.v 18 true),(.i .i64 (.bin .add .i64 (.var 15) (.lit (1))))])
                        (.out [(.v 13 false),(.v 14 false),(.i .i64 (.bin .add .i64 (.var 15) (.lit (1))))])))))))
                    (.esc
                     (.esc
                      (.letv (.sc (.one (.b (.lit false))))
                      (.out [(.v 20 false)])))))))))
                  (.esc
                   (.ite (.or (.not (.cmp .eql (.var 10) (.var 13))) (.not (.cmp .eql (.var 11) (.var 14))))
                     (.esc
                      (.letv (.sc (.one (.b (.lit false))))
                      (.out [(.v 16 false)])))
                     (.out [(.i .i64 (.bin .add .i64 (.var 6) (.lit (1))))]))))
def lp5_2:Tree :=
 (.ite (.and (.cmp .lss (.var 6) (.len (.var 3))) (.cmp .lss (.var 6) (.lit (4))))
            (.elem (.var 3) (.var 6)
            (.kin 7 (.sl 1)
            (.call 13 [(.d (.one (.v 7 true)))] [] []
            (.kin 8 (.sl 1)
            (.call 23 [(.d (.one (.v 1 true))),(.d (.one (.v 2 true))),(.d (.one (.v 8 true)))] [] []
            (.unt 9 [(.int .i64),(.int .i64),.ifc]
            (.ite (.or (.not (.nili 12)) (.cmp .gtr (.len (.var 8)) (.lit (40))))
              (.out [(.i .i64 (.bin .add .i64 (.var 6) (.lit (1))))])
              (.loop [(.i .i64 (.lit (0))),(.i .i64 (.lit (-1))),(.i .i64 (.lit (0)))] lp5_1))))))))
            (.esc
             (.call 12 [] [] []
             (.kin 7 .bool
             (.letv (.sc (.one (.v 7 false)))
             (.out [(.v 8 false)]))))))
def lp5_3:Tree :=
 (.ite (.cmp .lss (.var 5) (.len (.var 2)))
       (.elem (.var 2) (.var 5)
       (.kin 6 (.int .i64)
       (.ite (.not (.cmp .lss (.var 6) (.lit (0))))
         (.elem (.var 2) (.var 5)
         (.kin 7 (.int .i64)
         (.ite (.cmp .geq (.var 7) (.len (.var 1)))
           (.call 12 [] [] []
           (.kin 8 .bool
           (.esc
            (.letv (.sc (.one (.v 8 false)))
            (.out [(.v 9 false)])))))
           (.out [(.i .i64 (.bin .add .i64 (.var 5) (.lit (1))))]))))
         (.call 12 [] [] []
         (.kin 7 .bool
         (.esc
          (.letv (.sc (.one (.v 7 false)))
          (.out [(.v 8 false)]))))))))
       (.esc
        (.loop [(.i .i64 (.lit (0)))] lp5_2)))
def tree5:Tree :=
 (.opn 0 [(.sl 21),(.sl 1),(.sl 1)]
 (.call 22 [(.d (.one (.v 1 true)))] [] []
 (.kin 4 .bool
 (.ite (.or (.or (.not (.var 4)) (.cmp .gtr (.len (.var 1)) (.lit (200)))) (.cmp .gtr (.len (.var 2)) (.lit (60))))
   (.call 12 [] [] []
   (.kin 5 .bool
   (.letv (.sc (.one (.v 5 false)))
   (.out [(.v 6 false)]))))
   (.loop [(.i .i64 (.lit (0)))] lp5_3)))))
theorem tree49_ok:zaG Tryz.prog hs49 49=some tree49:=by kernel_rfl
theorem tree70_ok:zaG Tryz.prog hs70 70=some tree70:=by kernel_rfl
theorem tree22_ok:zaG Tryz.prog hs22 22=some tree22:=by kernel_rfl
theorem tree25_ok:zaG Tryz.prog hs25 25=some tree25:=by kernel_rfl
theorem tree5_ok:zaG Tryz.prog hs5 5=some tree5:=by kernel_rfl
end Go.Proofs.YtlnijcffanjieaaGreatDoor
