/- Trees of bodies, as they are told of the program's code. Conditions: none but those that each theorem names. -/
import Derived.Test.YthohlnmcjkjeiaaGreatDoorVmQ
namespace Go.Proofs.YthohlnmcjkjeiaaGreatDoor.A2
set_option maxRecDepth 100000
open Go Go.Vm Go.Vm.Sx
def hs27:List (Nat×JS):=[(62670,⟨[(7,.drop),(14,.drop),(15,.drop),(18,.drop),(19,.drop),(20,.drop),(21,.drop),(22,.drop),(36,.drop),(37,.drop),(38,.drop),(44,.drop),(45,.drop),(46,.drop),(53,(.one (.int .i64))),(54,.drop),(55,.drop),(56,.drop),(57,.drop),(58,.drop),(59,.drop),(60,.drop),(61,.drop),(62,.drop),(63,.drop),(64,.drop),(65,.drop)],[]⟩),
 (122,⟨[(4,.drop),(5,.drop),(7,.drop),(14,.drop),(15,.drop),(18,.drop),(19,.drop),(20,.drop),(21,.drop),(22,.drop),(27,(.one (.int .i64))),(28,.drop),(29,.drop),(30,.drop),(31,.drop),(32,.drop),(33,.drop),(34,.drop),(35,.drop),(36,.drop),(37,.drop),(38,.drop),(39,.drop),(40,.drop),(41,.drop),(42,.drop),(43,.drop),(44,.drop),(45,.drop),(46,.drop),(47,.drop),(48,.drop),(49,.drop),(50,.drop),(51,.drop),(52,.drop),(53,.drop),(54,.drop),(55,.drop),(56,.drop),(57,.drop),(58,.drop),(59,.drop),(60,.drop),(61,.drop),(62,.drop),(63,.drop),(64,.drop),(65,.drop)],[]⟩)]
def lp27_1:Tree :=
 (.ite (.cmp .lss (.var 7) (.len (.var 4)))
                 (.elem (.var 4) (.var 7)
                 (.kin 8 (.int .i64)
                 (.ite (.or (.cmp .lss (.var 8) (.lit (0))) (.cmp .geq (.var 8) (.len (.var 1))))
                   (.esc
                    (.esc
                     (.letv (.sc (.one (.b (.lit false))))
                     (.out [(.v 9 false)]))))
                   (.out [(.i .i64 (.bin .add .i64 (.var 7) (.lit (1))))]))))
                 (.esc
                  (.out [(.i .i64 (.bin .add .i64 (.var 3) (.lit (1))))])))
def lp27_2:Tree :=
 (.ite (.cmp .lss (.var 3) (.len (.var 1)))
       (.elem (.var 1) (.var 3)
       (.kin 4 (.sl 1)
       (.ite (.cmp .eql (.len (.var 4)) (.lit (256)))
         (.elem (.var 2) (.var 3)
         (.kin 5 (.int .i64)
         (.ite (.not (.cmp .lss (.var 5) (.lit (-1))))
           (.elem (.var 2) (.var 3)
           (.kin 6 (.int .i64)
           (.ite (.cmp .geq (.var 6) (.lit (200)))
             (.esc
              (.letv (.sc (.one (.b (.lit false))))
              (.out [(.v 7 false)])))
             (.loop [(.i .i64 (.lit (0)))] lp27_1))))
           (.esc
            (.letv (.sc (.one (.b (.lit false))))
            (.out [(.v 6 false)]))))))
         (.esc
          (.letv (.sc (.one (.b (.lit false))))
          (.out [(.v 5 false)]))))))
       (.esc
        (.letv (.sc (.one (.b (.lit true))))
        (.out [(.v 4 false)]))))
def tree27:Tree :=
 (.opn 0 [(.sl 1),(.sl 1)]
 (.ite (.or (.or (.cmp .lss (.len (.var 1)) (.lit (1))) (.cmp .gtr (.len (.var 1)) (.lit (600)))) (.not (.cmp .eql (.len (.var 2)) (.len (.var 1)))))
   (.letv (.sc (.one (.b (.lit false))))
   (.out [(.v 3 false)]))
   (.loop [(.i .i64 (.lit (0)))] lp27_2)))
def hs29:List (Nat×JS):=[]
def tree29:Tree :=
 (.opn 0 [(.sl 1),(.sl 1)]
 (.opn 1 [(.sl 1),(.sl 1)]
 (.call 64 [(.d (.one (.v 2 true))),(.d (.one (.v 4 true)))] [] []
 (.kin 6 .bool
 (.ite (.var 6)
   (.call 63 [(.d (.one (.v 3 true))),(.d (.one (.v 5 true)))] [] []
   (.kin 7 .bool
   (.letv (.sc (.one (.v 7 true)))
   (.out [(.v 8 false)]))))
   (.letv (.sc (.one (.b (.lit false))))
   (.out [(.v 7 false)])))))))
def hs31:List (Nat×JS):=[]
def tree31:Tree :=
 (.opn 0 [(.sl 1),(.sl 1)]
 (.call 68 [(.d (.one (.v 1 true)))] [] []
 (.kin 3 (.sl 1)
 (.call 53 [(.d (.one (.v 2 true)))] [] []
 (.kin 4 (.sl 1)
 (.letv (.sc (.agg [(.v 3 true),(.v 4 true)]))
 (.out [(.v 5 false)])))))))
def hs32:List (Nat×JS):=[(15654,⟨[(5,(.one (.int .i64))),(12,.drop),(13,.drop),(16,.drop),(17,.drop),(18,.drop),(19,.drop),(20,.drop),(25,.drop),(26,.drop),(35,.drop),(36,.drop),(37,.drop),(43,.drop),(44,.drop),(45,.drop),(50,.drop),(51,.drop),(52,.drop),(53,.drop),(54,.drop),(55,.drop),(56,.drop),(57,.drop),(58,.drop),(59,.drop),(60,.drop),(61,.drop),(62,.drop),(63,.drop),(64,.drop),(65,.drop),(66,.drop),(67,.drop),(68,.drop),(69,.drop),(70,.drop),(71,.drop),(72,.drop),(73,.drop),(74,.drop)],[]⟩),
 (122,⟨[(4,(.one (.int .i64))),(5,.drop),(12,.drop),(13,.drop),(16,.drop),(17,.drop),(18,.drop),(19,.drop),(20,.drop),(22,.drop),(23,.drop),(24,.drop),(25,.drop),(26,.drop),(27,.drop),(28,.drop),(29,.drop),(30,.drop),(31,.drop),(32,.drop),(33,.drop),(34,.drop),(35,.drop),(36,.drop),(37,.drop),(38,.drop),(39,.drop),(40,.drop),(41,.drop),(42,.drop),(43,.drop),(44,.drop),(45,.drop),(46,.drop),(47,.drop),(48,.drop),(49,.drop),(50,.drop),(51,.drop),(52,.drop),(53,.drop),(54,.drop),(55,.drop),(56,.drop),(57,.drop),(58,.drop),(59,.drop),(60,.drop),(61,.drop),(62,.drop),(63,.drop),(64,.drop),(65,.drop),(66,.drop),(67,.drop),(68,.drop),(69,.drop),(70,.drop),(71,.drop),(72,.drop),(73,.drop),(74,.drop)],[]⟩)]
def lp32_1:Tree :=
 (.ite (.cmp .lss (.var 7) (.lit (256)))
                 (.elem (.var 1) (.var 3)
                 (.kin 8 (.sl 1)
                 (.elem (.var 8) (.var 7)
                 (.kin 9 (.int .i64)
                 (.ite (.not (.cmp .lss (.var 9) (.lit (0))))
                   (.elem (.var 1) (.var 3)
                   (.kin 10 (.sl 1)
                   (.elem (.var 10) (.var 7)
                   (.kin 11 (.int .i64)
                   (.ite (.cmp .geq (.var 11) (.len (.var 1)))
                     (.esc
                      (.esc
                       (.letv (.sc (.one (.b (.lit false))))
                       (.out [(.v 12 false)]))))
                     (.out [(.i .i64 (.bin .add .i64 (.var 7) (.lit (1))))]))))))
                   (.esc
                    (.esc
                     (.letv (.sc (.one (.b (.lit false))))
                     (.out [(.v 10 false)])))))))))
                 (.esc
                  (.out [(.i .i64 (.bin .add .i64 (.var 3) (.lit (1))))])))
def lp32_2:Tree :=
 (.ite (.cmp .lss (.var 3) (.len (.var 1)))
       (.elem (.var 1) (.var 3)
       (.kin 4 (.sl 1)
       (.ite (.cmp .eql (.len (.var 4)) (.lit (256)))
         (.elem (.var 2) (.var 3)
         (.kin 5 (.int .i64)
         (.ite (.not (.cmp .lss (.var 5) (.lit (-1))))
           (.elem (.var 2) (.var 3)
           (.kin 6 (.int .i64)
           (.ite (.cmp .geq (.var 6) (.lit (200)))
             (.esc
              (.letv (.sc (.one (.b (.lit false))))
              (.out [(.v 7 false)])))
             (.loop [(.i .i64 (.lit (0)))] lp32_1))))
           (.esc
            (.letv (.sc (.one (.b (.lit false))))
            (.out [(.v 6 false)]))))))
         (.esc
          (.letv (.sc (.one (.b (.lit false))))
          (.out [(.v 5 false)]))))))
       (.esc
        (.letv (.sc (.one (.b (.lit true))))
        (.out [(.v 4 false)]))))
def tree32:Tree :=
 (.opn 0 [(.sl 1),(.sl 1)]
 (.ite (.or (.or (.cmp .lss (.len (.var 1)) (.lit (1))) (.cmp .gtr (.len (.var 1)) (.lit (600)))) (.not (.cmp .eql (.len (.var 2)) (.len (.var 1)))))
   (.letv (.sc (.one (.b (.lit false))))
   (.out [(.v 3 false)]))
   (.loop [(.i .i64 (.lit (0)))] lp32_2)))
def hs33:List (Nat×JS):=[(122,⟨[(6,(.one (.int .i64))),(8,.drop),(15,(.one (.int .i64))),(16,.drop),(17,.drop),(18,.drop),(19,.drop),(20,.drop),(21,.drop),(22,.drop),(23,.drop),(24,.drop),(25,.drop),(26,.drop),(27,.drop)],[]⟩)]
def lp33_1:Tree :=
 (.ite (.cmp .lss (.var 6) (.len (.var 1)))
       (.elem (.var 1) (.var 6)
       (.kin 7 (.int .u8)
       (.elem (.var 2) (.var 5)
       (.kin 8 (.sl 1)
       (.elem (.var 8) (.var 7)
       (.kin 9 (.int .i64)
       (.out [(.v 9 true),(.i .i64 (.bin .add .i64 (.var 6) (.lit (1))))])))))))
       (.esc
        (.letv (.tup [(.one (.v 5 true)),(.one (.k .nili))])
        (.out [(.v 7 false)]))))
def tree33:Tree :=
 (.opn 0 [(.sl 1),(.sl 1)]
 (.kin 1 (.sl 1)
 (.call 27 [(.d (.agg [(.v 2 true),(.v 3 true)]))] [] []
 (.kin 4 .bool
 (.ite (.not (.var 4))
   (.glob 0 0
   (.kin 5 .ifc
   (.letv (.tup [(.one (.i .i64 (.lit (0)))),(.one (.v 5 true))])
   (.out [(.v 6 false)]))))
   (.loop [(.i .i64 (.lit (0))),(.i .i64 (.lit (0)))] lp33_1))))))
def hs34:List (Nat×JS):=[(26,⟨[(1,(.one (.int .i64))),(7,(.one (.int .i64))),(8,.drop),(9,.drop),(10,.drop),(11,.drop),(12,.drop),(13,.drop),(14,.drop),(15,.drop),(16,.drop),(17,.drop),(18,.drop),(19,.drop),(20,.drop),(21,.drop),(22,.drop),(23,.drop),(24,.drop),(25,.drop)],[]⟩)]
def lp34_1:Tree :=
 (.ite (.cmp .lss (.var 6) (.len (.var 2)))
     (.elem (.var 3) (.var 5)
     (.kin 7 (.sl 1)
     (.elem (.var 2) (.var 6)
     (.kin 8 (.int .u8)
     (.elem (.var 7) (.conv .i64 (.var 8))
     (.kin 9 (.int .i64)
     (.out [(.v 9 true),(.i .i64 (.bin .add .i64 (.var 6) (.lit (1))))])))))))
     (.esc
      (.letv (.sc (.one (.v 5 true)))
      (.out [(.v 7 false)]))))
def tree34:Tree :=
 (.opn 0 [(.sl 1),(.sl 1)]
 (.kin 1 (.int .i64)
 (.kin 2 (.sl 1)
 (.loop [(.v 1 false),(.i .i64 (.lit (0)))] lp34_1))))
def hs7:List (Nat×JS):=[(53882,⟨[(6,(.one (.int .i64))),(7,.drop),(8,.drop),(15,.drop),(16,.drop),(18,.drop),(19,.drop),(44,.drop),(45,.drop),(46,.drop),(47,.drop),(48,.drop),(49,.drop),(50,.drop),(51,.drop),(52,.drop),(53,.drop),(54,.drop),(55,.drop),(56,.drop),(57,.drop),(58,.drop),(59,.drop),(60,.drop),(61,.drop),(62,.drop),(63,.drop),(64,.drop),(65,.drop),(66,.drop),(67,.drop),(68,.drop),(69,.drop),(70,.drop),(71,.drop),(72,.drop),(73,.drop),(74,.drop),(75,.drop),(76,.drop),(77,.drop),(78,.drop),(79,.drop),(80,.drop),(81,.drop),(82,.drop),(83,.drop),(84,.drop),(85,.drop),(86,.drop),(87,.drop),(88,.drop),(89,.drop),(90,.drop),(91,.drop),(92,.drop),(93,.drop),(94,.drop),(95,.drop),(96,.drop),(97,.drop),(98,.drop),(99,.drop),(100,.drop),(101,.drop),(102,.drop),(103,.drop),(104,.drop),(105,.drop),(106,.drop)],[]⟩),
 (26,⟨[(3,(.one (.int .i64))),(4,.drop),(5,.drop),(6,.drop),(7,.drop),(8,.drop),(9,.drop),(10,.drop),(11,.drop),(12,.drop),(13,.drop),(14,.drop),(15,.drop),(16,.drop),(17,.drop),(18,.drop),(19,.drop),(20,.drop),(21,.drop),(22,.drop),(23,.drop),(24,.drop),(25,.drop),(26,.drop),(27,.drop),(28,.drop),(29,.drop),(30,.drop),(31,.drop),(32,.drop),(33,.drop),(34,.drop),(35,.drop),(36,.drop),(37,.drop),(38,.drop),(39,.drop),(40,.drop),(41,.drop),(42,.drop),(43,.drop),(44,.drop),(45,.drop),(46,.drop),(47,.drop),(48,.drop),(49,.drop),(50,.drop),(51,.drop),(52,.drop),(53,.drop),(54,.drop),(55,.drop),(56,.drop),(57,.drop),(58,.drop),(59,.drop),(60,.drop),(61,.drop),(62,.drop),(63,.drop),(64,.drop),(65,.drop),(66,.drop),(67,.drop),(68,.drop),(69,.drop),(70,.drop),(71,.drop),(72,.drop),(73,.drop),(74,.drop),(75,.drop),(76,.drop),(77,.drop),(78,.drop),(79,.drop),(80,.drop),(81,.drop),(82,.drop),(83,.drop),(84,.drop),(85,.drop),(86,.drop),(87,.drop),(88,.drop),(89,.drop),(90,.drop),(91,.drop),(92,.drop),(93,.drop),(94,.drop),(95,.drop),(96,.drop),(97,.drop),(98,.drop),(99,.drop),(100,.drop),(101,.drop),(102,.drop),(103,.drop),(104,.drop),(105,.drop),(106,.drop)],[]⟩)]
def lp7_1:Tree :=
 (.ite (.and (.cmp .lss (.var 18) (.len (.var 2))) (.cmp .lss (.var 18) (.lit (6))))
             (.elem (.var 2) (.var 18)
             (.kin 19 (.sl 1)
             (.call 33 [(.d (.agg [(.v 11 true),(.v 12 true)])),(.d (.one (.v 19 true)))] [] []
             (.unt 20 [(.int .i64),.ifc]
             (.ite (.var 16)
               (.ite (.nili 22)
                 (.elem (.var 1) (.var 3)
                 (.opn 23 [(.sl 1),(.sl 1)]
                 (.elem (.var 2) (.var 18)
                 (.kin 26 (.sl 1)
                 (.call 34 [(.d (.agg [(.v 24 false),(.v 25 false)])),(.d (.one (.i .i64 (.lit (0))))),(.d (.one (.v 26 true)))] [] []
                 (.kin 27 (.int .i64)
                 (.ite (.cmp .eql (.var 21) (.var 27))
                   (.out [(.i .i64 (.bin .add .i64 (.var 18) (.lit (1))))])
                   (.esc
                    (.esc
                     (.letv (.sc (.one (.b (.lit false))))
                     (.out [(.v 28 false)])))))))))))
                 (.esc
                  (.esc
                   (.letv (.sc (.one (.b (.lit false))))
                   (.out [(.v 23 false)])))))
               (.ite (.cmp .eql (.var 21) (.lit (0)))
                 (.call 23 [(.d (.one (.i .i64 (.lit (15)))))] [] []
                 (.opn 23 [(.int .i64),(.int .i64),(.int .i64),(.int .i64),(.sl 1)]
                 (.call 15 [(.d (.one (.v 22 true))),(.d (.agg [(.v 24 false),(.v 25 false),(.v 26 false),(.v 27 false),(.v 28 false)]))] [] []
                 (.kin 29 .bool
                 (.ite (.not (.var 29))
                   (.esc
                    (.esc
                     (.letv (.sc (.one (.b (.lit false))))
                     (.out [(.v 30 false)]))))
                   (.out [(.i .i64 (.bin .add .i64 (.var 18) (.lit (1))))]))))))
                 (.esc
                  (.esc
                   (.letv (.sc (.one (.b (.lit false))))
                   (.out [(.v 23 false)]))))))))))
             (.esc
              (.elem (.var 1) (.var 3)
              (.opn 19 [(.sl 1),(.sl 1)]
              (.call 29 [(.d (.agg [(.v 11 true),(.v 12 true)])),(.d (.agg [(.v 20 false),(.v 21 false)]))] [] []
              (.kin 22 .bool
              (.ite (.not (.var 22))
                (.esc
                 (.letv (.sc (.one (.b (.lit false))))
                 (.out [(.v 23 false)])))
                (.out [(.i .i64 (.bin .add .i64 (.var 3) (.lit (1))))]))))))))
def lp7_2:Tree :=
 (.ite (.and (.cmp .lss (.var 3) (.len (.var 1))) (.cmp .lss (.var 3) (.lit (6))))
     (.elem (.var 1) (.var 3)
     (.opn 4 [(.sl 1),(.sl 1)]
     (.ite (.cmp .gtr (.len (.var 5)) (.lit (1000)))
       (.out [(.i .i64 (.bin .add .i64 (.var 3) (.lit (1))))])
       (.elem (.var 1) (.var 3)
       (.opn 7 [(.sl 1),(.sl 1)]
       (.call 31 [(.d (.agg [(.v 8 false),(.v 9 false)]))] [] []
       (.opn 10 [(.sl 1),(.sl 1)]
       (.elem (.var 1) (.var 3)
       (.opn 13 [(.sl 1),(.sl 1)]
       (.call 32 [(.d (.agg [(.v 14 false),(.v 15 false)]))] [] []
       (.kin 16 .bool
       (.call 27 [(.d (.agg [(.v 11 true),(.v 12 true)]))] [] []
       (.kin 17 .bool
       (.ite (.not (.beq (.var 17) (.var 16)))
         (.esc
          (.letv (.sc (.one (.b (.lit false))))
          (.out [(.v 18 false)])))
         (.loop [(.i .i64 (.lit (0)))] lp7_1)))))))))))))))
     (.esc
      (.call 26 [] [] []
      (.kin 4 .bool
      (.letv (.sc (.one (.v 4 false)))
      (.out [(.v 5 false)]))))))
def tree7:Tree :=
 (.opn 0 [(.sl 2),(.sl 1)]
 (.loop [(.i .i64 (.lit (0)))] lp7_2))
def hs63:List (Nat×JS):=[(58,⟨[(5,(.one (.int .i64))),(11,.drop),(12,.drop),(13,.drop),(14,.drop),(15,.drop),(16,.drop),(17,.drop),(18,.drop),(19,.drop),(20,.drop),(21,.drop),(22,.drop),(23,.drop),(24,.drop),(25,.drop)],[]⟩)]
def lp63_1:Tree :=
 (.ite (.cmp .lss (.var 2) (.len (.var 0)))
       (.elem (.var 0) (.var 2)
       (.kin 3 (.int .i64)
       (.elem (.var 1) (.var 2)
       (.kin 4 (.int .i64)
       (.ite (.not (.cmp .eql (.var 3) (.var 4)))
         (.esc
          (.letv (.sc (.one (.b (.lit false))))
          (.out [(.v 5 false)])))
         (.out [(.i .i64 (.bin .add .i64 (.var 2) (.lit (1))))]))))))
       (.esc
        (.letv (.sc (.one (.b (.lit true))))
        (.out [(.v 3 false)]))))
def tree63:Tree :=
 (.kin 0 (.sl 1)
 (.kin 1 (.sl 1)
 (.ite (.not (.cmp .eql (.len (.var 0)) (.len (.var 1))))
   (.letv (.sc (.one (.b (.lit false))))
   (.out [(.v 2 false)]))
   (.loop [(.i .i64 (.lit (0)))] lp63_1))))
def hs64:List (Nat×JS):=[(58,⟨[(5,(.one (.int .i64))),(11,.drop),(12,.drop),(13,.drop),(14,.drop),(15,.drop),(16,.drop),(17,.drop),(18,.drop),(19,.drop),(20,.drop),(21,.drop),(22,.drop),(23,.drop),(24,.drop),(25,.drop),(26,.drop)],[]⟩)]
def lp64_1:Tree :=
 (.ite (.cmp .lss (.var 2) (.len (.var 0)))
       (.elem (.var 0) (.var 2)
       (.kin 3 (.sl 1)
       (.elem (.var 1) (.var 2)
       (.kin 4 (.sl 1)
       (.call 63 [(.d (.one (.v 3 true))),(.d (.one (.v 4 true)))] [] []
       (.kin 5 .bool
       (.ite (.not (.var 5))
         (.esc
          (.letv (.sc (.one (.b (.lit false))))
          (.out [(.v 6 false)])))
         (.out [(.i .i64 (.bin .add .i64 (.var 2) (.lit (1))))]))))))))
       (.esc
        (.letv (.sc (.one (.b (.lit true))))
        (.out [(.v 3 false)]))))
def tree64:Tree :=
 (.kin 0 (.sl 1)
 (.kin 1 (.sl 1)
 (.ite (.not (.cmp .eql (.len (.var 0)) (.len (.var 1))))
   (.letv (.sc (.one (.b (.lit false))))
   (.out [(.v 2 false)]))
   (.loop [(.i .i64 (.lit (0)))] lp64_1))))
def hs23:List (Nat×JS):=[]
def tree23:Tree :=
 (.kin 0 (.int .i64)
 (.letv (.sc (.agg [(.v 0 true),(.i .i64 (.lit (0))),(.i .i64 (.lit (0))),(.i .i64 (.lit (0))),(.k .snil)]))
 (.out [(.v 1 false)])))
theorem tree27_ok:yQ Tryz.prog hs27 27=some tree27:=by kernel_rfl
theorem tree29_ok:yQ Tryz.prog hs29 29=some tree29:=by kernel_rfl
theorem tree31_ok:yQ Tryz.prog hs31 31=some tree31:=by kernel_rfl
theorem tree32_ok:yQ Tryz.prog hs32 32=some tree32:=by kernel_rfl
theorem tree33_ok:yQ Tryz.prog hs33 33=some tree33:=by kernel_rfl
theorem tree34_ok:yQ Tryz.prog hs34 34=some tree34:=by kernel_rfl
theorem tree7_ok:yQ Tryz.prog hs7 7=some tree7:=by kernel_rfl
theorem tree63_ok:yQ Tryz.prog hs63 63=some tree63:=by kernel_rfl
theorem tree64_ok:yQ Tryz.prog hs64 64=some tree64:=by kernel_rfl
theorem tree23_ok:yQ Tryz.prog hs23 23=some tree23:=by kernel_rfl
end Go.Proofs.YthohlnmcjkjeiaaGreatDoor.A2
