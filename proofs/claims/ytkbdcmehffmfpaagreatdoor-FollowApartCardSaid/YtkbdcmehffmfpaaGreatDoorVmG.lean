/- Trees of bodies, as they are told of the program's code. Conditions: none but those that each theorem names. -/
import Derived.Test.YtkbdcmehffmfpaaGreatDoorProg
import Derived.KernelRfl
import Derived.Test.YtkbdcmehffmfpaaGreatDoorVmD
namespace Go.Proofs.YtkbdcmehffmfpaaGreatDoor
set_option maxRecDepth 100000
open Go Go.Vm Go.Vm.Sx
def hs71:List (Nat×JS):=[]
def tree71:Tree :=
 (.opn 0 [(.int .i64),(.int .i64),(.int .u64),(.int .u64),(.int .u64),(.int .u64),.str,(.int .i64),(.int .i64),(.sl 10)]
 (.letv (.sc (.one (.b (.and (.and (.and (.cmp .eql (.var 2) (.lit (0))) (.scmp .eql (.var 7) (.lit []))) (.or (.cmp .eql (.var 1) (.lit (2))) (.and (.cmp .eql (.var 3) (.lit (0))) (.and (.cmp .eql (.var 4) (.lit (0))) (.and (.cmp .eql (.var 5) (.lit (0))) (.cmp .eql (.var 6) (.lit (0)))))))) (.or (.cmp .eql (.var 1) (.lit (7))) (.and (.cmp .eql (.var 8) (.lit (0))) (.cmp .eql (.var 9) (.lit (0)))))))))
 (.out [(.v 11 false)])))
def hs72:List (Nat×JS):=[]
def tree72:Tree :=
 (.opn 0 [(.int .i64),(.int .i64),(.int .u64),(.int .u64),(.int .u64),(.int .u64),.str,(.int .i64),(.int .i64),(.sl 10)]
 (.ite (.cmp .eql (.var 1) (.lit (1)))
   (.letv (.sc (.one (.b (.cmp .eql (.len (.var 10)) (.lit (0))))))
   (.out [(.v 11 false)]))
   (.ite (.cmp .eql (.var 1) (.lit (2)))
     (.letv (.sc (.one (.b (.cmp .eql (.len (.var 10)) (.lit (0))))))
     (.out [(.v 11 false)]))
     (.ite (.cmp .eql (.var 1) (.lit (5)))
       (.letv (.sc (.one (.b (.cmp .gtr (.len (.var 10)) (.lit (1))))))
       (.out [(.v 11 false)]))
       (.ite (.cmp .eql (.var 1) (.lit (6)))
         (.letv (.sc (.one (.b (.cmp .gtr (.len (.var 10)) (.lit (1))))))
         (.out [(.v 11 false)]))
         (.ite (.cmp .eql (.var 1) (.lit (7)))
           (.letv (.sc (.one (.b (.and (.cmp .eql (.len (.var 10)) (.lit (1))) (.or (.or (.and (.cmp .eql (.var 8) (.lit (0))) (.cmp .eql (.var 9) (.lit (-1)))) (.and (.cmp .eql (.var 8) (.lit (1))) (.cmp .eql (.var 9) (.lit (-1))))) (.and (.cmp .eql (.var 8) (.lit (0))) (.cmp .eql (.var 9) (.lit (1)))))))))
           (.out [(.v 11 false)]))
           (.letv (.sc (.one (.b (.lit false))))
           (.out [(.v 11 false)]))))))))
def hs49:List (Nat×JS):=[(122,⟨[(10,.drop),(21,.drop),(22,.drop),(25,.drop),(30,.drop),(45,(.one (.int .i64))),(46,.drop),(47,.drop),(48,.drop),(49,.drop),(50,.drop),(51,.drop),(52,.drop),(53,.drop),(54,.drop),(55,.drop),(56,.drop)],[(0,[(some (.int .i64))]),(1,[(some (.int .i64))])]⟩)]
def lp49_1:Tree :=
 (.ite (.cmp .lss (.var 18) (.len (.var 15)))
             (.elem (.var 15) (.var 18)
             (.opn 21 [(.int .i64),(.int .i64),(.int .u64),(.int .u64),(.int .u64),(.int .u64),.str,(.int .i64),(.int .i64),(.sl 10)]
             (.call 49 [(.d (.agg [(.v 22 true),(.v 23 true),(.v 24 true),(.v 25 true),(.v 26 true),(.v 27 true),(.v 28 true),(.v 29 true),(.v 30 true),(.v 31 true)])),(.d (.one (.i .i64 (.bin .add .i64 (.var 1) (.lit (1)))))),(.p 0 0),(.p 1 0)] [([(.v 19 false)],3),([(.v 20 false)],3)] [(.int .i64),(.int .i64)]
             (.kin 32 .bool
             (.ite (.not (.var 32))
               (.esc
                (.letv (.sc (.one (.b (.lit false))))
                (.out [(.v 35 false),(.v 33 false),(.v 34 false)])))
               (.out [(.i .i64 (.bin .add .i64 (.var 18) (.lit (1)))),(.v 33 false),(.v 34 false)]))))))
             (.esc
              (.letv (.sc (.one (.b (.lit true))))
              (.out [(.v 21 false),(.v 19 false),(.v 20 false)]))))
def tree49:Tree :=
 (.kin 4 (.int .i64)
 (.kin 5 (.int .i64)
 (.opn 0 [(.int .i64),(.int .i64),(.int .u64),(.int .u64),(.int .u64),(.int .u64),.str,(.int .i64),(.int .i64),(.sl 10)]
 (.kin 1 (.int .i64)
 (.ite (.not (.or (.cmp .gtr (.bin .add .i64 (.var 4) (.lit (1))) (.lit (65536))) (.cmp .gtr (.var 1) (.lit (4096)))))
   (.call 71 [(.d (.agg [(.v 6 true),(.v 7 true),(.v 8 true),(.v 9 true),(.v 10 true),(.v 11 true),(.v 12 true),(.v 13 true),(.v 14 true),(.v 15 true)]))] [] []
   (.kin 16 .bool
   (.ite (.var 16)
     (.call 72 [(.d (.agg [(.v 6 true),(.v 7 true),(.v 8 true),(.v 9 true),(.v 10 true),(.v 11 true),(.v 12 true),(.v 13 true),(.v 14 true),(.v 15 true)]))] [] []
     (.kin 17 .bool
     (.ite (.not (.var 17))
       (.letv (.sc (.one (.b (.lit false))))
       (.out [(.v 18 false),(.i .i64 (.bin .add .i64 (.var 4) (.lit (1)))),(.v 5 false)]))
       (.ite (.cmp .eql (.var 6) (.lit (2)))
         (.loop [(.i .i64 (.lit (0))),(.i .i64 (.bin .add .i64 (.var 4) (.lit (1)))),(.i .i64 (.bin .add .i64 (.var 5) (.lit (1))))] lp49_1)
         (.loop [(.i .i64 (.lit (0))),(.i .i64 (.bin .add .i64 (.var 4) (.lit (1)))),(.v 5 false)] lp49_1)))))
     (.letv (.sc (.one (.b (.lit false))))
     (.out [(.v 17 false),(.i .i64 (.bin .add .i64 (.var 4) (.lit (1)))),(.v 5 false)])))))
   (.letv (.sc (.one (.b (.lit false))))
   (.out [(.v 16 false),(.i .i64 (.bin .add .i64 (.var 4) (.lit (1)))),(.v 5 false)])))))))
def hs28:List (Nat×JS):=[]
def tree28:Tree :=
 (.opn 0 [(.int .i64),(.int .i64),(.int .u64),(.int .u64),(.int .u64),(.int .u64),.str,(.int .i64),(.int .i64),(.sl 10)]
 (.call 49 [(.d (.agg [(.v 1 true),(.v 2 true),(.v 3 true),(.v 4 true),(.v 5 true),(.v 6 true),(.v 7 true),(.v 8 true),(.v 9 true),(.v 10 true)])),(.d (.one (.i .i64 (.lit (1))))),(.p 0 0),(.p 1 0)] [([(.i .i64 (.lit (0)))],3),([(.i .i64 (.lit (0)))],3)] [(.int .i64),(.int .i64)]
 (.kin 11 .bool
 (.letv (.sc (.one (.v 11 false)))
 (.out [(.v 14 false)])))))
def hs30:List (Nat×JS):=[]
def tree30:Tree :=
 (.opn 0 [(.int .i64),(.int .i64),(.int .u64),(.int .u64),(.int .u64),(.int .u64),.str,(.int .i64),(.int .i64),(.sl 10)]
 (.call 49 [(.d (.agg [(.v 1 true),(.v 2 true),(.v 3 true),(.v 4 true),(.v 5 true),(.v 6 true),(.v 7 true),(.v 8 true),(.v 9 true),(.v 10 true)])),(.d (.one (.i .i64 (.lit (1))))),(.p 0 0),(.p 1 0)] [([(.i .i64 (.lit (0)))],3),([(.i .i64 (.lit (0)))],3)] [(.int .i64),(.int .i64)]
 (.kin 11 .bool
 (.ite (.not (.var 11))
   (.letv (.sc (.one (.i .i64 (.lit (0)))))
   (.out [(.v 14 false)]))
   (.letv (.sc (.one (.i .i64 (.ite (.cmp .lss (.lit (1001)) (.var 13)) (.lit (1001)) (.var 13)))))
   (.out [(.v 14 false)]))))))
def hs29:List (Nat×JS):=[]
def tree29:Tree :=
 (.opn 0 [(.int .i64),(.int .i64),(.int .u64),(.int .u64),(.int .u64),(.int .u64),.str,(.int .i64),(.int .i64),(.sl 10)]
 (.letv (.sc (.one (.b (.and (.and (.and (.and (.and (.and (.cmp .eql (.var 1) (.lit (0))) (.cmp .eql (.var 2) (.lit (0)))) (.and (.cmp .eql (.var 3) (.lit (0))) (.and (.cmp .eql (.var 4) (.lit (0))) (.and (.cmp .eql (.var 5) (.lit (0))) (.cmp .eql (.var 6) (.lit (0))))))) (.scmp .eql (.var 7) (.lit []))) (.cmp .eql (.var 8) (.lit (0)))) (.cmp .eql (.var 9) (.lit (0)))) (.cmp .eql (.len (.var 10)) (.lit (0)))))))
 (.out [(.v 11 false)])))
def hs16:List (Nat×JS):=[(58,⟨[(2,(.one (.int .i64))),(5,.drop),(11,(.one (.int .i64))),(12,.drop),(13,.drop),(14,.drop),(15,.drop),(16,.drop),(17,.drop),(18,.drop),(19,.drop),(20,.drop),(21,.drop),(22,.drop),(23,.drop),(24,.drop),(25,.drop),(26,.drop),(27,.drop),(28,.drop),(29,.drop),(30,.drop),(31,.drop),(32,.drop),(33,.drop),(34,.drop),(35,.drop),(36,.drop),(37,.drop),(38,.drop),(39,.drop),(40,.drop),(41,.drop),(42,.drop),(43,.drop),(44,.drop),(45,.drop),(46,.drop),(47,.drop),(48,.drop),(49,.drop),(50,.drop)],[]⟩)]
def lp16_1:Tree :=
 (.ite (.cmp .lss (.var 2) (.len (.var 0)))
       (.elem (.var 0) (.var 2)
       (.opn 3 [(.int .i64),(.int .i64),(.int .u64),(.int .u64),(.int .u64),(.int .u64),.str,(.int .i64),(.int .i64),(.sl 10),.bool,(.int .i64),(.int .i64),(.int .u64),(.int .u64),(.int .u64),(.int .u64),.str,(.int .i64),(.int .i64),(.sl 10)]
       (.call 28 [(.d (.agg [(.v 4 true),(.v 5 true),(.v 6 true),(.v 7 true),(.v 8 true),(.v 9 true),(.v 10 true),(.v 11 true),(.v 12 true),(.v 13 true)]))] [] []
       (.kin 25 .bool
       (.ite (.and (.var 25) (.var 14))
         (.call 28 [(.d (.agg [(.v 15 true),(.v 16 true),(.v 17 true),(.v 18 true),(.v 19 true),(.v 20 true),(.v 21 true),(.v 22 true),(.v 23 true),(.v 24 true)]))] [] []
         (.kin 26 .bool
         (.ite (.not (.var 26))
           (.esc
            (.letv (.tup [(.one (.i .i64 (.lit (0)))),(.one (.b (.lit false)))])
            (.out [(.v 27 false)])))
           (.call 30 [(.d (.agg [(.v 4 true),(.v 5 true),(.v 6 true),(.v 7 true),(.v 8 true),(.v 9 true),(.v 10 true),(.v 11 true),(.v 12 true),(.v 13 true)]))] [] []
           (.kin 27 (.int .i64)
           (.call 30 [(.d (.agg [(.v 15 true),(.v 16 true),(.v 17 true),(.v 18 true),(.v 19 true),(.v 20 true),(.v 21 true),(.v 22 true),(.v 23 true),(.v 24 true)]))] [] []
           (.kin 28 (.int .i64)
           (.out [(.i .i64 (.ite (.cmp .lss (.lit (1001)) (.bin .add .i64 (.bin .add .i64 (.var 1) (.var 27)) (.var 28))) (.lit (1001)) (.bin .add .i64 (.bin .add .i64 (.var 1) (.var 27)) (.var 28)))),(.i .i64 (.bin .add .i64 (.var 2) (.lit (1))))]))))))))
         (.ite (.and (.var 25) (.not (.var 14)))
           (.call 29 [(.d (.agg [(.v 15 true),(.v 16 true),(.v 17 true),(.v 18 true),(.v 19 true),(.v 20 true),(.v 21 true),(.v 22 true),(.v 23 true),(.v 24 true)]))] [] []
           (.kin 26 .bool
           (.ite (.not (.var 26))
             (.esc
              (.letv (.tup [(.one (.i .i64 (.lit (0)))),(.one (.b (.lit false)))])
              (.out [(.v 27 false)])))
             (.call 30 [(.d (.agg [(.v 4 true),(.v 5 true),(.v 6 true),(.v 7 true),(.v 8 true),(.v 9 true),(.v 10 true),(.v 11 true),(.v 12 true),(.v 13 true)]))] [] []
             (.kin 27 (.int .i64)
             (.call 30 [(.d (.agg [(.v 15 true),(.v 16 true),(.v 17 true),(.v 18 true),(.v 19 true),(.v 20 true),(.v 21 true),(.v 22 true),(.v 23 true),(.v 24 true)]))] [] []
             (.kin 28 (.int .i64)
             (.out [(.i .i64 (.ite (.cmp .lss (.lit (1001)) (.bin .add .i64 (.bin .add .i64 (.var 1) (.var 27)) (.var 28))) (.lit (1001)) (.bin .add .i64 (.bin .add .i64 (.var 1) (.var 27)) (.var 28)))),(.i .i64 (.bin .add .i64 (.var 2) (.lit (1))))]))))))))
           (.ite (.not (.var 25))
             (.esc
              (.letv (.tup [(.one (.i .i64 (.lit (0)))),(.one (.b (.lit false)))])
              (.out [(.v 26 false)])))
             (.call 30 [(.d (.agg [(.v 4 true),(.v 5 true),(.v 6 true),(.v 7 true),(.v 8 true),(.v 9 true),(.v 10 true),(.v 11 true),(.v 12 true),(.v 13 true)]))] [] []
             (.kin 26 (.int .i64)
             (.call 30 [(.d (.agg [(.v 15 true),(.v 16 true),(.v 17 true),(.v 18 true),(.v 19 true),(.v 20 true),(.v 21 true),(.v 22 true),(.v 23 true),(.v 24 true)]))] [] []
             (.kin 27 (.int .i64)
             (.out [(.i .i64 (.ite (.cmp .lss (.lit (1001)) (.bin .add .i64 (.bin .add .i64 (.var 1) (.var 26)) (.var 27))) (.lit (1001)) (.bin .add .i64 (.bin .add .i64 (.var 1) (.var 26)) (.var 27)))),(.i .i64 (.bin .add .i64 (.var 2) (.lit (1))))]))))))))))))
       (.esc
        (.letv (.tup [(.one (.v 1 true)),(.one (.b (.lit true)))])
        (.out [(.v 3 false)]))))
def tree16:Tree :=
 (.kin 0 (.sl 21)
 (.ite (.cmp .gtr (.len (.var 0)) (.lit (200)))
   (.letv (.tup [(.one (.i .i64 (.lit (0)))),(.one (.b (.lit false)))])
   (.out [(.v 1 false)]))
   (.loop [(.i .i64 (.lit (0))),(.i .i64 (.lit (0)))] lp16_1)))
def hs11:List (Nat×JS):=[(122,⟨[(5,(.one (.int .i64))),(6,(.one (.int .i64))),(9,.drop),(10,.drop),(11,.drop),(12,.drop),(13,.drop),(14,.drop),(15,.drop),(16,.drop),(17,.drop),(18,.drop),(19,.drop),(20,.drop),(21,.drop),(22,.drop),(23,.drop),(24,.drop),(25,.drop),(26,.drop),(27,.drop),(28,.drop),(29,.drop)],[]⟩)]
def lp11_1:Tree :=
 (.ite (.and (.cmp .lss (.var 13) (.len (.var 11))) (.cmp .lss (.var 12) (.lit (1048576))))
       (.elem (.var 11) (.var 13)
       (.opn 14 [(.int .i64),(.int .i64),(.int .u64),(.int .u64),(.int .u64),(.int .u64),.str,(.int .i64),(.int .i64),(.sl 10)]
       (.call 11 [(.d (.agg [(.v 15 false),(.v 16 false),(.v 17 false),(.v 18 false),(.v 19 false),(.v 20 false),(.v 21 false),(.v 22 false),(.v 23 false),(.v 24 false)])),(.d (.one (.i .i64 (.bin .add .i64 (.var 1) (.lit (1))))))] [] []
       (.kin 25 (.int .i64)
       (.out [(.i .i64 (.bin .add .i64 (.var 12) (.var 25))),(.i .i64 (.bin .add .i64 (.var 13) (.lit (1))))])))))
       (.esc
        (.letv (.sc (.one (.v 12 true)))
        (.out [(.v 14 false)]))))
def tree11:Tree :=
 (.opn 0 [(.int .i64),(.int .i64),(.int .u64),(.int .u64),(.int .u64),(.int .u64),.str,(.int .i64),(.int .i64),(.sl 10)]
 (.kin 1 (.int .i64)
 (.ite (.cmp .gtr (.var 1) (.lit (5000)))
   (.letv (.sc (.one (.i .i64 (.lit (1048576)))))
   (.out [(.v 12 false)]))
   (.loop [(.i .i64 (.lit (1))),(.i .i64 (.lit (0)))] lp11_1))))
def hs5:List (Nat×JS):=[(58,⟨[(5,(.one (.int .i64))),(6,(.one (.int .i64))),(7,.drop),(8,.drop),(9,.drop),(10,.drop),(11,.drop),(12,.drop),(13,.drop),(14,.drop),(15,.drop),(16,.drop),(17,.drop),(18,.drop),(19,.drop),(20,.drop),(21,.drop),(22,.drop),(23,.drop),(24,.drop),(25,.drop),(26,.drop),(27,.drop)],[]⟩)]
def lp5_1:Tree :=
 (.ite (.cmp .lss (.var 3) (.len (.var 0)))
     (.elem (.var 0) (.var 3)
     (.opn 4 [(.int .i64),(.int .i64),(.int .u64),(.int .u64),(.int .u64),(.int .u64),.str,(.int .i64),(.int .i64),(.sl 10),.bool,(.int .i64),(.int .i64),(.int .u64),(.int .u64),(.int .u64),(.int .u64),.str,(.int .i64),(.int .i64),(.sl 10)]
     (.call 11 [(.d (.agg [(.v 5 false),(.v 6 false),(.v 7 false),(.v 8 false),(.v 9 false),(.v 10 false),(.v 11 false),(.v 12 false),(.v 13 false),(.v 14 false)])),(.d (.one (.i .i64 (.lit (0)))))] [] []
     (.kin 26 (.int .i64)
     (.elem (.var 0) (.var 3)
     (.opn 27 [(.int .i64),(.int .i64),(.int .u64),(.int .u64),(.int .u64),(.int .u64),.str,(.int .i64),(.int .i64),(.sl 10),.bool,(.int .i64),(.int .i64),(.int .u64),(.int .u64),(.int .u64),(.int .u64),.str,(.int .i64),(.int .i64),(.sl 10)]
     (.call 11 [(.d (.agg [(.v 39 false),(.v 40 false),(.v 41 false),(.v 42 false),(.v 43 false),(.v 44 false),(.v 45 false),(.v 46 false),(.v 47 false),(.v 48 false)])),(.d (.one (.i .i64 (.lit (0)))))] [] []
     (.kin 49 (.int .i64)
     (.out [(.i .i64 (.bin .add .i64 (.bin .add .i64 (.var 2) (.var 26)) (.var 49))),(.i .i64 (.bin .add .i64 (.var 3) (.lit (1))))])))))))))
     (.esc
      (.letv (.sc (.one (.b (.cmp .leq (.var 2) (.var 1)))))
      (.out [(.v 4 false)]))))
def tree5:Tree :=
 (.kin 0 (.sl 21)
 (.kin 1 (.int .i64)
 (.loop [(.i .i64 (.lit (0))),(.i .i64 (.lit (0)))] lp5_1)))
def hs3:List (Nat×JS):=[(521370,⟨[(9,(.one (.int .i64))),(15,.drop),(16,.drop),(17,.drop),(18,.drop),(34,.drop),(35,.drop),(36,.drop),(37,.drop),(38,.drop),(39,.drop),(40,.drop),(47,.drop),(48,.drop),(102,.drop),(103,.drop),(104,.drop),(105,.drop),(106,.drop),(107,.drop),(108,.drop),(109,.drop),(110,.drop),(111,.drop),(112,.drop),(113,.drop),(114,.drop),(115,.drop),(116,.drop),(117,.drop),(118,.drop),(119,.drop),(120,.drop),(121,.drop),(122,.drop),(123,.drop),(124,.drop),(125,.drop),(126,.drop),(127,.drop),(128,.drop),(129,.drop),(130,.drop),(131,.drop),(132,.drop),(133,.drop),(134,.drop),(135,.drop),(136,.drop),(137,.drop),(138,.drop),(139,.drop),(140,.drop),(141,.drop),(142,.drop),(143,.drop),(144,.drop),(145,.drop),(146,.drop),(147,.drop),(148,.drop),(149,.drop),(150,.drop),(151,.drop),(152,.drop),(153,.drop),(154,.drop),(155,.drop),(156,.drop),(157,.drop),(158,.drop),(159,.drop)],[]⟩),
 (1018,⟨[(5,(.one (.int .i64))),(6,(.one (.int .i64))),(7,.drop),(8,.drop),(9,.drop),(15,.drop),(16,.drop),(17,.drop),(18,.drop),(34,.drop),(35,.drop),(36,.drop),(37,.drop),(38,.drop),(39,.drop),(40,.drop),(42,.drop),(43,.drop),(44,.drop),(45,.drop),(46,.drop),(47,.drop),(48,.drop),(49,.drop),(50,.drop),(51,.drop),(52,.drop),(53,.drop),(54,.drop),(55,.drop),(56,.drop),(57,.drop),(58,.drop),(59,.drop),(60,.drop),(61,.drop),(62,.drop),(63,.drop),(64,.drop),(65,.drop),(66,.drop),(67,.drop),(68,.drop),(69,.drop),(70,.drop),(71,.drop),(72,.drop),(73,.drop),(74,.drop),(75,.drop),(76,.drop),(77,.drop),(78,.drop),(79,.drop),(80,.drop),(81,.drop),(82,.drop),(83,.drop),(84,.drop),(85,.drop),(86,.drop),(87,.drop),(88,.drop),(89,.drop),(90,.drop),(91,.drop),(92,.drop),(93,.drop),(94,.drop),(95,.drop),(96,.drop),(97,.drop),(98,.drop),(99,.drop),(100,.drop),(101,.drop),(102,.drop),(103,.drop),(104,.drop),(105,.drop),(106,.drop),(107,.drop),(108,.drop),(109,.drop),(110,.drop),(111,.drop),(112,.drop),(113,.drop),(114,.drop),(115,.drop),(116,.drop),(117,.drop),(118,.drop),(119,.drop),(120,.drop),(121,.drop),(122,.drop),(123,.drop),(124,.drop),(125,.drop),(126,.drop),(127,.drop),(128,.drop),(129,.drop),(130,.drop),(131,.drop),(132,.drop),(133,.drop),(134,.drop),(135,.drop),(136,.drop),(137,.drop),(138,.drop),(139,.drop),(140,.drop),(141,.drop),(142,.drop),(143,.drop),(144,.drop),(145,.drop),(146,.drop),(147,.drop),(148,.drop),(149,.drop),(150,.drop),(151,.drop),(152,.drop),(153,.drop),(154,.drop),(155,.drop),(156,.drop),(157,.drop),(158,.drop),(159,.drop)],[]⟩)]
def lp3_1:Tree :=
 (.ite (.cmp .lss (.var 26) (.len (.var 18)))
                         (.elem (.var 7) (.bin .add .i64 (.var 12) (.var 26))
                         (.opn 27 [(.int .u64),(.int .u64),(.int .u64),(.int .u64)]
                         (.elem (.var 18) (.var 26)
                         (.opn 32 [(.int .u64),(.int .u64),(.int .u64),(.int .u64)]
                         (.ite (.and (.cmp .eql (.var 28) (.var 33)) (.and (.cmp .eql (.var 29) (.var 34)) (.and (.cmp .eql (.var 30) (.var 35)) (.cmp .eql (.var 31) (.var 36)))))
                           (.elem (.var 8) (.bin .add .i64 (.var 12) (.var 26))
                           (.kin 37 (.int .i64)
                           (.ite (.cmp .eql (.var 37) (.var 13))
                             (.elem (.var 21) (.var 26)
                             (.kin 38 (.sl 1)
                             (.elem (.var 10) (.bin .add .i64 (.var 12) (.var 26))
                             (.kin 39 (.sl 1)
                             (.call 9 [(.d (.agg [(.v 7 true),(.v 8 true),(.v 9 true),(.v 10 true)])),(.d (.one (.v 38 true))),(.d (.one (.v 39 true))),(.d (.one (.v 12 true))),(.d (.one (.v 13 true))),(.d (.one (.i .i64 (.len (.var 18)))))] [] []
                             (.kin 40 .bool
                             (.ite (.not (.var 40))
                               (.esc
                                (.esc
                                 (.letv (.sc (.one (.b (.lit false))))
                                 (.out [(.v 41 false)]))))
                               (.out [(.i .i64 (.bin .add .i64 (.var 26) (.lit (1))))]))))))))
                             (.esc
                              (.esc
                               (.letv (.sc (.one (.b (.lit false))))
                               (.out [(.v 38 false)])))))))
                           (.esc
                            (.esc
                             (.letv (.sc (.one (.b (.lit false))))
                             (.out [(.v 37 false)])))))))))
                         (.esc
                          (.out [(.i .i64 (.bin .add .i64 (.var 12) (.len (.var 18)))),(.i .i64 (.bin .add .i64 (.var 13) (.lit (1))))])))
def lp3_2:Tree :=
 (.ite (.cmp .lss (.var 13) (.len (.var 1)))
           (.need (.and (.cmp .leq (.lit (0)) (.var 13)) (.and (.cmp .leq (.var 13) (.bin .add .i64 (.var 13) (.lit (1)))) (.cmp .leq (.bin .add .i64 (.var 13) (.lit (1))) (.len (.var 1)))))
           (.letv (.slc 1 (.var 13) (.bin .add .i64 (.var 13) (.lit (1))))
           (.call 7 [(.d (.one (.v 14 true)))] [] []
           (.unt 15 [.raw,.ifc]
           (.opn 16 [(.sl 4),(.sl 1),(.sl 1),(.sl 1)]
           (.ite (.nili 17)
             (.call 8 [(.d (.agg [(.v 18 true),(.v 19 true),(.v 20 true),(.v 21 true)]))] [] []
             (.kin 22 .bool
             (.ite (.var 22)
               (.ite (.cmp .eql (.len (.var 20)) (.lit (1)))
                 (.ite (.not (.cmp .gtr (.bin .add .i64 (.var 12) (.len (.var 18))) (.len (.var 7))))
                   (.elem (.var 20) (.lit (0))
                   (.kin 23 (.sl 1)
                   (.elem (.var 9) (.var 13)
                   (.kin 24 (.sl 1)
                   (.call 9 [(.d (.agg [(.v 7 true),(.v 8 true),(.v 9 true),(.v 10 true)])),(.d (.one (.v 23 true))),(.d (.one (.v 24 true))),(.d (.one (.v 12 true))),(.d (.one (.v 13 true))),(.d (.one (.i .i64 (.len (.var 18)))))] [] []
                   (.kin 25 .bool
                   (.ite (.not (.var 25))
                     (.esc
                      (.letv (.sc (.one (.b (.lit false))))
                      (.out [(.v 26 false)])))
                     (.loop [(.i .i64 (.lit (0)))] lp3_1))))))))
                   (.esc
                    (.letv (.sc (.one (.b (.lit false))))
                    (.out [(.v 23 false)]))))
                 (.esc
                  (.letv (.sc (.one (.b (.lit false))))
                  (.out [(.v 23 false)]))))
               (.esc
                (.letv (.sc (.one (.b (.lit false))))
                (.out [(.v 23 false)]))))))
             (.esc
              (.letv (.sc (.one (.b (.lit false))))
              (.out [(.v 22 false)])))))))))
           (.esc
            (.ite (.cmp .eql (.var 12) (.len (.var 7)))
              (.call 6 [] [] []
              (.kin 14 .bool
              (.letv (.sc (.one (.v 14 true)))
              (.out [(.v 15 false)]))))
              (.letv (.sc (.one (.b (.lit false))))
              (.out [(.v 14 false)])))))
def tree3:Tree :=
 (.opn 0 [(.sl 21),(.sl 1)]
 (.call 5 [(.d (.one (.v 1 true))),(.d (.one (.i .i64 (.lit (800)))))] [] []
 (.kin 3 .bool
 (.ite (.or (.not (.var 3)) (.cmp .lss (.len (.var 1)) (.lit (1))))
   (.call 6 [] [] []
   (.kin 4 .bool
   (.letv (.sc (.one (.v 4 false)))
   (.out [(.v 5 false)]))))
   (.call 7 [(.d (.one (.v 1 true)))] [] []
   (.unt 4 [.raw,.ifc]
   (.opn 5 [(.sl 4),(.sl 1),(.sl 1),(.sl 1)]
   (.ite (.not (.nili 6))
     (.call 6 [] [] []
     (.kin 11 .bool
     (.letv (.sc (.one (.v 11 false)))
     (.out [(.v 12 false)]))))
     (.call 8 [(.d (.agg [(.v 7 true),(.v 8 true),(.v 9 true),(.v 10 true)]))] [] []
     (.kin 11 .bool
     (.ite (.or (.not (.var 11)) (.not (.cmp .eql (.len (.var 9)) (.len (.var 1)))))
       (.letv (.sc (.one (.b (.lit false))))
       (.out [(.v 12 false)]))
       (.loop [(.i .i64 (.lit (0))),(.i .i64 (.lit (0)))] lp3_2))))))))))))
def hs9:List (Nat×JS):=[(58,⟨[(13,(.one (.int .i64))),(14,.drop),(20,.drop),(21,.drop),(22,.drop),(23,.drop),(24,.drop),(25,.drop),(26,.drop),(27,.drop),(28,.drop),(29,.drop),(30,.drop),(31,.drop),(32,.drop),(33,.drop),(34,.drop),(35,.drop),(36,.drop),(37,.drop),(38,.drop),(39,.drop),(40,.drop),(41,.drop),(42,.drop),(43,.drop),(44,.drop),(45,.drop),(46,.drop),(47,.drop),(48,.drop)],[]⟩)]
def lp9_1:Tree :=
 (.ite (.cmp .lss (.var 10) (.len (.var 2)))
       (.elem (.var 1) (.var 10)
       (.kin 11 (.int .i64)
       (.elem (.var 1) (.var 10)
       (.kin 12 (.int .i64)
       (.ite (.cmp .eql (.var 12) (.var 5))
         (.elem (.var 2) (.var 10)
         (.kin 13 (.int .i64)
         (.ite (.not (.cmp .eql (.var 13) (.bin .add .i64 (.len (.var 6)) (.var 4))))
           (.esc
            (.letv (.sc (.one (.b (.lit false))))
            (.out [(.v 14 false)])))
           (.out [(.i .i64 (.bin .add .i64 (.var 10) (.lit (1))))]))))
         (.elem (.var 2) (.var 10)
         (.kin 13 (.int .i64)
         (.ite (.not (.cmp .eql (.var 13) (.bin .add .i64 (.var 11) (.var 3))))
           (.esc
            (.letv (.sc (.one (.b (.lit false))))
            (.out [(.v 14 false)])))
           (.out [(.i .i64 (.bin .add .i64 (.var 10) (.lit (1))))])))))))))
       (.esc
        (.letv (.sc (.one (.b (.lit true))))
        (.out [(.v 11 false)]))))
def tree9:Tree :=
 (.opn 0 [(.sl 4),(.sl 1),(.sl 1),(.sl 1)]
 (.kin 1 (.sl 1)
 (.kin 2 (.sl 1)
 (.kin 3 (.int .i64)
 (.kin 4 (.int .i64)
 (.kin 5 (.int .i64)
 (.ite (.not (.cmp .eql (.len (.var 1)) (.len (.var 2))))
   (.letv (.sc (.one (.b (.lit false))))
   (.out [(.v 10 false)]))
   (.loop [(.i .i64 (.lit (0)))] lp9_1))))))))
def hs22:List (Nat×JS):=[(58,⟨[(3,(.one (.sl 1))),(4,(.one (.int .i64))),(5,.drop),(6,.drop),(7,.drop),(8,.drop),(9,.drop),(10,.drop),(11,.drop),(12,.drop),(13,.drop),(14,.drop),(15,.drop),(16,.drop),(17,.drop),(18,.drop)],[]⟩)]
def lp22_1:Tree :=
 (.ite (.cmp .lss (.var 2) (.len (.var 0)))
     (.elem (.var 0) (.var 2)
     (.kin 3 (.sl 1)
     (.call 40 [(.d (.one (.v 3 true)))] [] []
     (.kin 4 (.sl 1)
     (.letv (.sc (.one (.v 4 true)))
     (.need (.own 1 29)
     (.need (.room (.snoc (.var 1) 5) 24)
     (.out [(.sl 1 (.snoc (.var 1) 5) (.yes 29)),(.i .i64 (.bin .add .i64 (.var 2) (.lit (1))))]))))))))
     (.esc
      (.letv (.sc (.one (.v 1 false)))
      (.out [(.v 3 false)]))))
def tree22:Tree :=
 (.kin 0 (.sl 1)
 (.loop [(.k .snil),(.i .i64 (.lit (0)))] lp22_1))
def hs40:List (Nat×JS):=[]
def tree40:Tree :=
 (.kin 0 (.sl 1)
 (.need (.room (.var 0) 8)
 (.letv (.app (.k .snil) 1 3 (.var 0))
 (.letv (.sc (.one (.v 1 false)))
 (.out [(.v 2 false)])))))
theorem tree71_ok:xFun Tryz.prog hs71 71=some tree71:=by kernel_rfl
theorem tree72_ok:xFun Tryz.prog hs72 72=some tree72:=by kernel_rfl
theorem tree49_ok:xFun Tryz.prog hs49 49=some tree49:=by kernel_rfl
theorem tree28_ok:xFun Tryz.prog hs28 28=some tree28:=by kernel_rfl
theorem tree30_ok:xFun Tryz.prog hs30 30=some tree30:=by kernel_rfl
theorem tree29_ok:xFun Tryz.prog hs29 29=some tree29:=by kernel_rfl
theorem tree16_ok:xFun Tryz.prog hs16 16=some tree16:=by kernel_rfl
theorem tree11_ok:xFun Tryz.prog hs11 11=some tree11:=by kernel_rfl
theorem tree5_ok:xFun Tryz.prog hs5 5=some tree5:=by kernel_rfl
theorem tree3_ok:xFun Tryz.prog hs3 3=some tree3:=by kernel_rfl
theorem tree9_ok:xFun Tryz.prog hs9 9=some tree9:=by kernel_rfl
theorem tree22_ok:xFun Tryz.prog hs22 22=some tree22:=by kernel_rfl
theorem tree40_ok:xFun Tryz.prog hs40 40=some tree40:=by kernel_rfl
end Go.Proofs.YtkbdcmehffmfpaaGreatDoor
