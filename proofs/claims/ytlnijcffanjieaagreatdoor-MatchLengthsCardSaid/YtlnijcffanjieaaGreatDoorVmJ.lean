/- Trees of bodies, as they are told of the program's code. Conditions: none but those that each theorem names. -/
import Derived.Test.YtlnijcffanjieaaGreatDoorVmI
namespace Go.Proofs.YtlnijcffanjieaaGreatDoor
set_option maxRecDepth 100000
open Go Go.Vm Go.Vm.Sx
def hs74:List (Nat×JS):=[]
def tree74:Tree :=
 (.opn 0 [(.int .i64),(.int .i64),(.int .u64),(.int .u64),(.int .u64),(.int .u64),.str,(.int .i64),(.int .i64),(.sl 10)]
 (.ite (.cmp .eql (.var 1) (.lit (2)))
   (.letv (.ifc 149 (.agg [(.v 3 true),(.v 4 true),(.v 5 true),(.v 6 true)]))
   (.letv (.sc (.one (.v 11 false)))
   (.out [(.v 12 false)])))
   (.ite (.cmp .eql (.var 1) (.lit (5)))
     (.letv (.ifc 152 (.agg [(.v 10 true)]))
     (.letv (.sc (.one (.v 11 false)))
     (.out [(.v 12 false)])))
     (.ite (.cmp .eql (.var 1) (.lit (6)))
       (.letv (.ifc 155 (.agg [(.v 10 true)]))
       (.letv (.sc (.one (.v 11 false)))
       (.out [(.v 12 false)])))
       (.ite (.cmp .eql (.var 1) (.lit (7)))
         (.letv (.ifc 157 (.agg [(.v 8 true),(.v 9 true),(.v 10 true)]))
         (.letv (.sc (.one (.v 11 false)))
         (.out [(.v 12 false)])))
         (.letv (.ifc 207 (.agg []))
         (.letv (.sc (.one (.v 11 false)))
         (.out [(.v 12 false)]))))))))
def hs75:List (Nat×JS):=[]
def tree75:Tree :=
 (.letv (.sc (.agg [(.b (.lit true)),(.i .i64 (.lit (0))),(.i .i64 (.lit (0)))]))
 (.out [(.v 0 false)]))
def hs77:List (Nat×JS):=[]
def tree77:Tree :=
 (.opn 0 [.bool,(.int .i64),(.int .i64)]
 (.opn 1 [.bool,(.int .i64),(.int .i64)]
 (.ite (.or (.var 2) (.var 5))
   (.call 75 [] [] []
   (.opn 8 [.bool,(.int .i64),(.int .i64)]
   (.letv (.sc (.agg [(.v 9 true),(.v 10 true),(.v 11 true)]))
   (.out [(.v 12 false)]))))
   (.ite (.or (.cmp .lss (.var 4) (.lit (0))) (.cmp .lss (.var 7) (.lit (0))))
     (.letv (.sc (.agg [(.b (.lit false)),(.i .i64 (.bin .add .i64 (.var 3) (.var 6))),(.i .i64 (.lit (-1)))]))
     (.out [(.v 8 false)]))
     (.letv (.sc (.agg [(.b (.lit false)),(.i .i64 (.bin .add .i64 (.var 3) (.var 6))),(.i .i64 (.bin .add .i64 (.var 4) (.var 7)))]))
     (.out [(.v 8 false)]))))))
def hs78:List (Nat×JS):=[]
def tree78:Tree :=
 (.opn 0 [.bool,(.int .i64),(.int .i64)]
 (.opn 1 [.bool,(.int .i64),(.int .i64)]
 (.ite (.var 2)
   (.letv (.sc (.agg [(.v 5 true),(.v 6 true),(.v 7 true)]))
   (.out [(.v 8 false)]))
   (.ite (.var 5)
     (.letv (.sc (.agg [(.v 2 true),(.v 3 true),(.v 4 true)]))
     (.out [(.v 8 false)]))
     (.ite (.or (.cmp .lss (.var 4) (.lit (0))) (.cmp .lss (.var 7) (.lit (0))))
       (.letv (.sc (.agg [(.b (.lit false)),(.i .i64 (.ite (.cmp .lss (.var 6) (.var 3)) (.var 6) (.var 3))),(.i .i64 (.lit (-1)))]))
       (.out [(.v 8 false)]))
       (.letv (.sc (.agg [(.b (.lit false)),(.i .i64 (.ite (.cmp .lss (.var 6) (.var 3)) (.var 6) (.var 3))),(.i .i64 (.ite (.cmp .gtr (.var 7) (.var 4)) (.var 7) (.var 4)))]))
       (.out [(.v 8 false)])))))))
def hs79:List (Nat×JS):=[]
def tree79:Tree :=
 (.opn 0 [(.int .i64),(.int .i64),(.sl 10)]
 (.opn 1 [.bool,(.int .i64),(.int .i64)]
 (.ite (.and (.and (.cmp .eql (.var 3) (.lit (-1))) (.not (.var 5))) (.not (.cmp .eql (.var 7) (.lit (0)))))
   (.ite (.cmp .eql (.var 2) (.lit (0)))
     (.call 78 [(.d (.agg [(.v 5 true),(.v 6 true),(.i .i64 (.lit (-1)))])),(.d (.agg [(.b (.lit false)),(.i .i64 (.lit (0))),(.i .i64 (.lit (0)))]))] [] []
     (.opn 8 [.bool,(.int .i64),(.int .i64)]
     (.letv (.sc (.agg [(.v 9 true),(.v 10 true),(.v 11 true)]))
     (.out [(.v 12 false)]))))
     (.letv (.sc (.agg [(.v 5 true),(.v 6 true),(.i .i64 (.lit (-1)))]))
     (.out [(.v 8 false)])))
   (.ite (.cmp .eql (.var 2) (.lit (0)))
     (.call 78 [(.d (.agg [(.v 5 true),(.v 6 true),(.v 7 true)])),(.d (.agg [(.b (.lit false)),(.i .i64 (.lit (0))),(.i .i64 (.lit (0)))]))] [] []
     (.opn 8 [.bool,(.int .i64),(.int .i64)]
     (.letv (.sc (.agg [(.v 9 true),(.v 10 true),(.v 11 true)]))
     (.out [(.v 12 false)]))))
     (.letv (.sc (.agg [(.v 5 true),(.v 6 true),(.v 7 true)]))
     (.out [(.v 8 false)]))))))
def hs7:List (Nat×JS):=[(256318,⟨[(9,(.one (.int .i64))),(19,.drop),(20,.drop),(39,.drop),(40,.drop),(42,.drop),(43,.drop),(62,.drop),(63,.drop),(64,.drop),(65,.drop),(66,.drop),(67,.drop),(68,.drop),(69,.drop),(70,.drop),(71,.drop),(72,.drop),(73,.drop),(74,.drop),(75,.drop),(76,.drop),(77,.drop),(78,.drop),(79,.drop),(80,.drop),(81,.drop),(82,.drop),(83,.drop),(84,.drop),(85,.drop),(86,.drop),(87,.drop),(88,.drop),(89,.drop),(90,.drop),(91,.drop),(92,.drop)],[]⟩),
 (250,⟨[(5,(.one (.int .i64))),(6,.drop),(7,.drop),(8,.drop),(9,.drop),(19,.drop),(20,.drop),(33,.drop),(34,.drop),(35,.drop),(36,.drop),(37,.drop),(38,.drop),(39,.drop),(40,.drop),(41,.drop),(42,.drop),(43,.drop),(44,.drop),(45,.drop),(46,.drop),(47,.drop),(48,.drop),(49,.drop),(50,.drop),(51,.drop),(52,.drop),(53,.drop),(54,.drop),(55,.drop),(56,.drop),(57,.drop),(58,.drop),(59,.drop),(60,.drop),(61,.drop),(62,.drop),(63,.drop),(64,.drop),(65,.drop),(66,.drop),(67,.drop),(68,.drop),(69,.drop),(70,.drop),(71,.drop),(72,.drop),(73,.drop),(74,.drop),(75,.drop),(76,.drop),(77,.drop),(78,.drop),(79,.drop),(80,.drop),(81,.drop),(82,.drop),(83,.drop),(84,.drop),(85,.drop),(86,.drop),(87,.drop),(88,.drop),(89,.drop),(90,.drop),(91,.drop),(92,.drop)],[]⟩)]
def lp7_1:Tree :=
 (.ite (.cmp .lss (.var 26) (.len (.var 24)))
                   (.ite (.not (.var 17))
                     (.elem (.var 24) (.var 26)
                     (.kin 27 (.int .i64)
                     (.ite (.not (.cmp .lss (.var 27) (.var 18)))
                       (.ite (.cmp .geq (.var 19) (.lit (0)))
                         (.elem (.var 24) (.var 26)
                         (.kin 28 (.int .i64)
                         (.ite (.cmp .gtr (.var 28) (.var 19))
                           (.esc
                            (.esc
                             (.letv (.sc (.one (.b (.lit false))))
                             (.out [(.v 29 false)]))))
                           (.out [(.i .i64 (.bin .add .i64 (.var 26) (.lit (1))))]))))
                         (.out [(.i .i64 (.bin .add .i64 (.var 26) (.lit (1))))]))
                       (.esc
                        (.esc
                         (.letv (.sc (.one (.b (.lit false))))
                         (.out [(.v 28 false)])))))))
                     (.esc
                      (.esc
                       (.letv (.sc (.one (.b (.lit false))))
                       (.out [(.v 27 false)])))))
                   (.esc
                    (.out [(.i .i64 (.bin .add .i64 (.var 20) (.lit (1))))])))
def lp7_2:Tree :=
 (.ite (.and (.cmp .lss (.var 20) (.len (.var 11))) (.cmp .lss (.var 20) (.lit (12))))
           (.elem (.var 11) (.var 20)
           (.kin 21 (.sl 1)
           (.call 13 [(.d (.one (.v 21 true)))] [] []
           (.kin 22 (.sl 1)
           (.ite (.cmp .gtr (.len (.var 22)) (.lit (40)))
             (.out [(.i .i64 (.bin .add .i64 (.var 20) (.lit (1))))])
             (.call 14 [(.d (.agg [(.v 1 true),(.v 2 true),(.v 3 true),(.v 4 true),(.v 5 true),(.v 6 true),(.v 7 true),(.v 8 true),(.v 9 true),(.v 10 true)])),(.d (.one (.v 22 true)))] [] []
             (.unt 23 [(.sl 1),.ifc]
             (.ite (.not (.nili 25))
               (.esc
                (.letv (.sc (.one (.b (.lit false))))
                (.out [(.v 26 false)])))
               (.loop [(.i .i64 (.lit (0)))] lp7_1)))))))))
           (.esc
            (.call 16 [(.d (.agg [(.v 1 true),(.v 2 true),(.v 3 true),(.v 4 true),(.v 5 true),(.v 6 true),(.v 7 true),(.v 8 true),(.v 9 true),(.v 10 true)])),(.d (.one (.k .snil)))] [] []
            (.unt 21 [.raw,.ifc]
            (.opn 22 [(.int .u64),(.int .u64),(.int .u64),(.int .u64)]
            (.call 14 [(.d (.agg [(.v 1 true),(.v 2 true),(.v 3 true),(.v 4 true),(.v 5 true),(.v 6 true),(.v 7 true),(.v 8 true),(.v 9 true),(.v 10 true)])),(.d (.one (.k .snil)))] [] []
            (.unt 28 [(.sl 1),.ifc]
            (.ite (.nili 23)
              (.ite (.nili 30)
                (.ite (.and (.cmp .eql (.var 24) (.lit (0))) (.and (.cmp .eql (.var 25) (.lit (0))) (.and (.cmp .eql (.var 26) (.lit (0))) (.cmp .eql (.var 27) (.lit (0))))))
                  (.ite (.beq (.var 17) (.cmp .eql (.len (.var 29)) (.lit (0))))
                    (.ite (.not (.var 17))
                      (.ite (.beq (.cmp .eql (.len (.var 29)) (.lit (1))) (.cmp .eql (.var 18) (.lit (0))))
                        (.ite (.beq (.and (.cmp .eql (.var 24) (.lit (0))) (.and (.cmp .eql (.var 25) (.lit (0))) (.and (.cmp .eql (.var 26) (.lit (0))) (.cmp .eql (.var 27) (.lit (0)))))) (.cmp .eql (.var 19) (.lit (0))))
                          (.call 12 [] [] []
                          (.kin 31 .bool
                          (.letv (.sc (.one (.v 31 true)))
                          (.out [(.v 32 false)]))))
                          (.letv (.sc (.one (.b (.lit false))))
                          (.out [(.v 31 false)])))
                        (.letv (.sc (.one (.b (.lit false))))
                        (.out [(.v 31 false)])))
                      (.ite (.beq (.cmp .eql (.len (.var 29)) (.lit (1))) (.lit false))
                        (.ite (.beq (.and (.cmp .eql (.var 24) (.lit (0))) (.and (.cmp .eql (.var 25) (.lit (0))) (.and (.cmp .eql (.var 26) (.lit (0))) (.cmp .eql (.var 27) (.lit (0)))))) (.lit true))
                          (.call 12 [] [] []
                          (.kin 31 .bool
                          (.letv (.sc (.one (.v 31 true)))
                          (.out [(.v 32 false)]))))
                          (.letv (.sc (.one (.b (.lit false))))
                          (.out [(.v 31 false)])))
                        (.letv (.sc (.one (.b (.lit false))))
                        (.out [(.v 31 false)]))))
                    (.letv (.sc (.one (.b (.lit false))))
                    (.out [(.v 31 false)])))
                  (.ite (.beq (.var 17) (.lit false))
                    (.ite (.not (.var 17))
                      (.ite (.beq (.cmp .eql (.len (.var 29)) (.lit (1))) (.cmp .eql (.var 18) (.lit (0))))
                        (.ite (.beq (.and (.cmp .eql (.var 24) (.lit (0))) (.and (.cmp .eql (.var 25) (.lit (0))) (.and (.cmp .eql (.var 26) (.lit (0))) (.cmp .eql (.var 27) (.lit (0)))))) (.cmp .eql (.var 19) (.lit (0))))
                          (.call 12 [] [] []
                          (.kin 31 .bool
                          (.letv (.sc (.one (.v 31 true)))
                          (.out [(.v 32 false)]))))
                          (.letv (.sc (.one (.b (.lit false))))
                          (.out [(.v 31 false)])))
                        (.letv (.sc (.one (.b (.lit false))))
                        (.out [(.v 31 false)])))
                      (.ite (.beq (.cmp .eql (.len (.var 29)) (.lit (1))) (.lit false))
                        (.ite (.beq (.and (.cmp .eql (.var 24) (.lit (0))) (.and (.cmp .eql (.var 25) (.lit (0))) (.and (.cmp .eql (.var 26) (.lit (0))) (.cmp .eql (.var 27) (.lit (0)))))) (.lit true))
                          (.call 12 [] [] []
                          (.kin 31 .bool
                          (.letv (.sc (.one (.v 31 true)))
                          (.out [(.v 32 false)]))))
                          (.letv (.sc (.one (.b (.lit false))))
                          (.out [(.v 31 false)])))
                        (.letv (.sc (.one (.b (.lit false))))
                        (.out [(.v 31 false)]))))
                    (.letv (.sc (.one (.b (.lit false))))
                    (.out [(.v 31 false)]))))
                (.letv (.sc (.one (.b (.lit false))))
                (.out [(.v 31 false)])))
              (.letv (.sc (.one (.b (.lit false))))
              (.out [(.v 31 false)]))))))))))
def tree7:Tree :=
 (.opn 0 [(.int .i64),(.int .i64),(.int .u64),(.int .u64),(.int .u64),(.int .u64),.str,(.int .i64),(.int .i64),(.sl 10),(.sl 1)]
 (.call 10 [(.d (.agg [(.v 1 true),(.v 2 true),(.v 3 true),(.v 4 true),(.v 5 true),(.v 6 true),(.v 7 true),(.v 8 true),(.v 9 true),(.v 10 true)])),(.d (.one (.i .i64 (.lit (0)))))] [] []
 (.kin 12 (.int .i64)
 (.ite (.not (.cmp .gtr (.var 12) (.lit (400))))
   (.call 11 [(.d (.agg [(.v 1 true),(.v 2 true),(.v 3 true),(.v 4 true),(.v 5 true),(.v 6 true),(.v 7 true),(.v 8 true),(.v 9 true),(.v 10 true)]))] [] []
   (.kin 13 .bool
   (.ite (.not (.var 13))
     (.call 12 [] [] []
     (.kin 14 .bool
     (.letv (.sc (.one (.v 14 false)))
     (.out [(.v 15 false)]))))
     (.call 26 [(.d (.agg [(.v 1 true),(.v 2 true),(.v 3 true),(.v 4 true),(.v 5 true),(.v 6 true),(.v 7 true),(.v 8 true),(.v 9 true),(.v 10 true)]))] [] []
     (.unt 14 [.raw,.ifc]
     (.opn 15 [.bool,(.int .i64),(.int .i64)]
     (.ite (.not (.nili 16))
       (.letv (.sc (.one (.b (.lit false))))
       (.out [(.v 20 false)]))
       (.loop [(.i .i64 (.lit (0)))] lp7_2))))))))
   (.call 12 [] [] []
   (.kin 13 .bool
   (.letv (.sc (.one (.v 13 false)))
   (.out [(.v 14 false)]))))))))
theorem tree74_ok:yp Tryz.prog hs74 74=some tree74:=by kernel_rfl
theorem tree75_ok:yp Tryz.prog hs75 75=some tree75:=by kernel_rfl
theorem tree77_ok:yp Tryz.prog hs77 77=some tree77:=by kernel_rfl
theorem tree78_ok:yp Tryz.prog hs78 78=some tree78:=by kernel_rfl
theorem tree79_ok:yp Tryz.prog hs79 79=some tree79:=by kernel_rfl
theorem tree7_ok:yp Tryz.prog hs7 7=some tree7:=by kernel_rfl
end Go.Proofs.YtlnijcffanjieaaGreatDoor
