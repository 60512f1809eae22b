/- Trees of bodies, as they are told of the program's code. Conditions: none but those that each theorem names. -/
import Derived.Test.YtlnijcffanjieaaGreatDoorProg
import Derived.KernelRfl
import Derived.Test.YtlnijcffanjieaaGreatDoorVmF
import Derived.Test.YtlnijcffanjieaaGreatDoorVmJ
namespace Go.Proofs.YtlnijcffanjieaaGreatDoor
set_option maxRecDepth 100000
open Go Go.Vm Go.Vm.Sx
def hs6:List (Nat×JS):=[(1018,⟨[(7,(.one (.int .i64))),(8,.drop),(9,.drop),(10,.drop),(11,.drop),(12,.drop),(13,.drop),(14,.drop),(15,.drop),(16,.drop),(17,.drop),(18,.drop),(24,.drop),(25,.drop),(26,.drop),(27,.drop),(30,.drop),(31,.drop),(32,.drop),(33,.drop),(43,.drop),(44,.drop),(45,.drop),(46,.drop),(47,.drop),(48,.drop),(55,.drop),(56,.drop),(57,.drop),(58,.drop),(59,.drop),(60,.drop),(61,.drop),(62,.drop),(63,.drop),(64,.drop),(65,.drop),(66,.drop),(67,.drop),(68,.drop),(69,.drop),(70,.drop),(71,.drop),(72,.drop),(73,.drop),(74,.drop),(75,.drop),(76,.drop),(77,.drop),(78,.drop),(79,.drop),(80,.drop),(81,.drop),(82,.drop),(83,.drop),(84,.drop),(85,.drop),(86,.drop),(87,.drop),(88,.drop),(89,.drop),(90,.drop),(91,.drop),(92,.drop),(93,.drop),(94,.drop),(95,.drop),(96,.drop),(97,.drop),(98,.drop),(99,.drop),(100,.drop),(101,.drop),(102,.drop),(103,.drop),(104,.drop),(105,.drop),(106,.drop),(107,.drop),(108,.drop),(109,.drop),(110,.drop),(111,.drop),(112,.drop),(113,.drop),(114,.drop),(115,.drop),(116,.drop),(117,.drop),(118,.drop),(119,.drop),(135,.drop),(136,.drop),(137,.drop),(138,.drop),(139,.drop),(140,.drop),(141,.drop),(142,.drop),(143,.drop),(144,.drop),(145,.drop),(146,.drop),(147,.drop),(148,.drop),(149,.drop),(150,.drop),(151,.drop),(152,.drop),(153,.drop),(154,.drop),(155,.drop),(156,.drop),(157,.drop),(158,.drop),(159,.drop),(160,.drop),(161,.drop),(162,.drop),(163,.drop),(164,.drop),(165,.drop),(166,.drop),(167,.drop),(168,.drop),(169,.drop),(170,.drop),(171,.drop),(172,.drop),(173,.drop),(174,.drop),(175,.drop),(176,.drop),(177,.drop),(178,.drop),(179,.drop),(180,.drop),(181,.drop),(182,.drop),(183,.drop)],[]⟩),
 (250,⟨[(4,(.one (.sl 1))),(6,(.one (.int .i64))),(24,.drop),(25,.drop),(26,.drop),(27,.drop),(30,.drop),(31,.drop),(32,.drop),(33,.drop),(40,.drop),(41,.drop),(42,.drop),(43,.drop),(44,.drop),(45,.drop),(46,.drop),(47,.drop),(48,.drop)],[]⟩)]
def lp6_1:Tree :=
 (.ite (.and (.cmp .lss (.var 8) (.len (.var 3))) (.cmp .lss (.var 8) (.lit (12))))
            (.elem (.var 3) (.var 8)
            (.kin 9 (.sl 1)
            (.call 13 [(.d (.one (.v 9 true)))] [] []
            (.kin 10 (.sl 1)
            (.call 24 [(.d (.one (.v 1 true))),(.d (.one (.v 5 true))),(.d (.one (.v 10 true)))] [] []
            (.unt 11 [(.int .i64),.ifc]
            (.call 24 [(.d (.one (.v 1 true))),(.d (.one (.sl 1 (.cat (.snoc .nil 7) (.var 5)) .no))),(.d (.one (.v 10 true)))] [] []
            (.unt 14 [(.int .i64),.ifc]
            (.call 23 [(.d (.one (.v 1 true))),(.d (.one (.v 5 true))),(.d (.one (.v 10 true)))] [] []
            (.unt 17 [(.int .i64),(.int .i64),.ifc]
            (.call 23 [(.d (.one (.v 1 true))),(.d (.one (.sl 1 (.cat (.snoc .nil 7) (.var 5)) .no))),(.d (.one (.v 10 true)))] [] []
            (.unt 21 [(.int .i64),(.int .i64),.ifc]
            (.ite (.or (.or (.or (.not (.nili 13)) (.not (.nili 16))) (.not (.nili 20))) (.not (.nili 24)))
              (.ite (.beq (.not (.nili 13)) (.not (.nili 16)))
                (.ite (.beq (.not (.nili 20)) (.not (.nili 24)))
                  (.call 12 [] [] []
                  (.kin 25 .bool
                  (.esc
                   (.letv (.sc (.one (.v 25 true)))
                   (.out [(.v 26 false)])))))
                  (.esc
                   (.letv (.sc (.one (.b (.lit false))))
                   (.out [(.v 25 false)]))))
                (.esc
                 (.letv (.sc (.one (.b (.lit false))))
                 (.out [(.v 25 false)]))))
              (.ite (.or (.or (.or (.or (.and (.cmp .geq (.var 12) (.lit (0))) (.not (.cmp .eql (.var 15) (.var 12)))) (.and (.and (.cmp .lss (.var 12) (.lit (0))) (.not (.cmp .eql (.var 15) (.lit (-1))))) (.not (.cmp .eql (.var 15) (.bin .sub .i64 (.len (.var 1)) (.lit (1))))))) (.cmp .lss (.var 22) (.var 18))) (.and (.and (.cmp .eql (.var 22) (.var 18)) (.cmp .geq (.var 19) (.lit (0)))) (.not (.cmp .eql (.var 23) (.var 19))))) (.and (.cmp .gtr (.var 22) (.var 18)) (.not (.cmp .eql (.var 23) (.bin .sub .i64 (.len (.var 1)) (.lit (1)))))))
                (.esc
                 (.letv (.sc (.one (.b (.lit false))))
                 (.out [(.v 25 false)])))
                (.out [(.i .i64 (.bin .add .i64 (.var 8) (.lit (1))))])))))))))))))))
            (.esc
             (.call 12 [] [] []
             (.kin 9 .bool
             (.letv (.sc (.one (.v 9 false)))
             (.out [(.v 10 false)]))))))
def lp6_2:Tree :=
 (.ite (.cmp .lss (.var 6) (.bin .sub .i64 (.len (.var 1)) (.lit (1))))
       (.letv (.sc (.one (.v 6 true)))
       (.need (.own 5 3)
       (.need (.room (.snoc (.var 5) 7) 8)
       (.out [(.sl 1 (.snoc (.var 5) 7) (.yes 3)),(.i .i64 (.bin .add .i64 (.var 6) (.lit (1))))]))))
       (.esc
        (.letv (.sc (.one (.i .i64 (.bin .sub .i64 (.len (.var 1)) (.lit (1))))))
        (.need (.room (.snoc .nil 7) 8)
        (.need (.room (.cat (.snoc .nil 7) (.var 5)) 8)
        (.loop [(.i .i64 (.lit (0)))] lp6_1))))))
def tree6:Tree :=
 (.opn 0 [(.sl 21),(.sl 1),(.sl 1)]
 (.call 22 [(.d (.one (.v 1 true)))] [] []
 (.kin 4 .bool
 (.ite (.or (.or (.not (.var 4)) (.cmp .eql (.len (.var 1)) (.lit (0)))) (.cmp .gtr (.len (.var 1)) (.lit (200))))
   (.call 12 [] [] []
   (.kin 5 .bool
   (.letv (.sc (.one (.v 5 false)))
   (.out [(.v 6 false)]))))
   (.loop [(.k .snil),(.i .i64 (.lit (0)))] lp6_2)))))
theorem tree6_ok:zbj Tryz.prog hs6 6=some tree6:=by kernel_rfl
end Go.Proofs.YtlnijcffanjieaaGreatDoor
