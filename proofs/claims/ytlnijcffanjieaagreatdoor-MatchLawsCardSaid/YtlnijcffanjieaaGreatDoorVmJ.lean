/- Trees of bodies, as they are told of the program's code. Conditions: none but those that each theorem names. -/
import Derived.Test.YtlnijcffanjieaaGreatDoorProg
import Derived.KernelRfl
import Derived.Test.YtlnijcffanjieaaGreatDoorVmF
namespace Go.Proofs.YtlnijcffanjieaaGreatDoor
set_option maxRecDepth 100000
open Go Go.Vm Go.Vm.Sx
def hs63:List (Nat×JS):=[]
def tree63:Tree :=
 (.opn 0 [(.int .i64),(.int .i64),(.int .u64),(.int .u64),(.int .u64),(.int .u64),.str,(.int .i64),(.int .i64),(.sl 10)]
 (.letv (.sc (.one (.b (.and (.and (.and (.cmp .eql (.var 2) (.lit (0))) (.scmp .eql (.var 7) (.lit []))) (.or (.cmp .eql (.var 1) (.lit (2))) (.and (.cmp .eql (.var 3) (.lit (0))) (.and (.cmp .eql (.var 4) (.lit (0))) (.and (.cmp .eql (.var 5) (.lit (0))) (.cmp .eql (.var 6) (.lit (0)))))))) (.or (.cmp .eql (.var 1) (.lit (7))) (.and (.cmp .eql (.var 8) (.lit (0))) (.cmp .eql (.var 9) (.lit (0)))))))))
 (.out [(.v 11 false)])))
def hs64:List (Nat×JS):=[]
def tree64:Tree :=
 (.opn 0 [(.int .i64),(.int .i64),(.int .u64),(.int .u64),(.int .u64),(.int .u64),.str,(.int .i64),(.int .i64),(.sl 10)]
 (.ite (.cmp .eql (.var 1) (.lit (1)))
   (.letv (.sc (.one (.b (.cmp .eql (.len (.var 10)) (.lit (0))))))
   (.out [(.v 11 false)]))
   (.ite (.cmp .eql (.var 1) (.lit (2)))
     (.letv (.sc (.one (.b (.cmp .eql (.len (.var 10)) (.lit (0))))))
     (.out [(.v 11 false)]))
     (.ite (.cmp .eql (.var 1) (.lit (5)))
       (.letv (.sc (.one (.b (.cmp .gtr (.len (.var 10)) (.lit (1))))))
       (.out [(.v 11 false)]))
       (.ite (.cmp .eql (.var 1) (.lit (6)))
         (.letv (.sc (.one (.b (.cmp .gtr (.len (.var 10)) (.lit (1))))))
         (.out [(.v 11 false)]))
         (.ite (.cmp .eql (.var 1) (.lit (7)))
           (.letv (.sc (.one (.b (.and (.cmp .eql (.len (.var 10)) (.lit (1))) (.or (.or (.and (.cmp .eql (.var 8) (.lit (0))) (.cmp .eql (.var 9) (.lit (-1)))) (.and (.cmp .eql (.var 8) (.lit (1))) (.cmp .eql (.var 9) (.lit (-1))))) (.and (.cmp .eql (.var 8) (.lit (0))) (.cmp .eql (.var 9) (.lit (1)))))))))
           (.out [(.v 11 false)]))
           (.letv (.sc (.one (.b (.lit false))))
           (.out [(.v 11 false)]))))))))
def hs41:List (Nat×JS):=[(122,⟨[(10,.drop),(21,.drop),(22,.drop),(25,.drop),(30,.drop),(45,(.one (.int .i64))),(46,.drop),(47,.drop),(48,.drop),(49,.drop),(50,.drop),(51,.drop),(52,.drop),(53,.drop),(54,.drop),(55,.drop),(56,.drop)],[(0,[(some (.int .i64))]),(1,[(some (.int .i64))])]⟩)]
def lp41_1:Tree :=
 (.ite (.cmp .lss (.var 18) (.len (.var 15)))
             (.elem (.var 15) (.var 18)
             (.opn 21 [(.int .i64),(.int .i64),(.int .u64),(.int .u64),(.int .u64),(.int .u64),.str,(.int .i64),(.int .i64),(.sl 10)]
             (.call 41 [(.d (.agg [(.v 22 true),(.v 23 true),(.v 24 true),(.v 25 true),(.v 26 true),(.v 27 true),(.v 28 true),(.v 29 true),(.v 30 true),(.v 31 true)])),(.d (.one (.i .i64 (.bin .add .i64 (.var 1) (.lit (1)))))),(.p 0 0),(.p 1 0)] [([(.v 19 false)],3),([(.v 20 false)],3)] [(.int .i64),(.int .i64)]
             (.kin 32 .bool
             (.ite (.not (.var 32))
               (.esc
                (.letv (.sc (.one (.b (.lit false))))
                (.out [(.v 35 false),(.v 33 false),(.v 34 false)])))
               (.out [(.i .i64 (.bin .add .i64 (.var 18) (.lit (1)))),(.v 33 false),(.v 34 false)]))))))
             (.esc
              (.letv (.sc (.one (.b (.lit true))))
              (.out [(.v 21 false),(.v 19 false),(.v 20 false)]))))
def tree41:Tree :=
 (.kin 4 (.int .i64)
 (.kin 5 (.int .i64)
 (.opn 0 [(.int .i64),(.int .i64),(.int .u64),(.int .u64),(.int .u64),(.int .u64),.str,(.int .i64),(.int .i64),(.sl 10)]
 (.kin 1 (.int .i64)
 (.ite (.not (.or (.cmp .gtr (.bin .add .i64 (.var 4) (.lit (1))) (.lit (65536))) (.cmp .gtr (.var 1) (.lit (4096)))))
   (.call 63 [(.d (.agg [(.v 6 true),(.v 7 true),(.v 8 true),(.v 9 true),(.v 10 true),(.v 11 true),(.v 12 true),(.v 13 true),(.v 14 true),(.v 15 true)]))] [] []
   (.kin 16 .bool
   (.ite (.var 16)
     (.call 64 [(.d (.agg [(.v 6 true),(.v 7 true),(.v 8 true),(.v 9 true),(.v 10 true),(.v 11 true),(.v 12 true),(.v 13 true),(.v 14 true),(.v 15 true)]))] [] []
     (.kin 17 .bool
     (.ite (.not (.var 17))
       (.letv (.sc (.one (.b (.lit false))))
       (.out [(.v 18 false),(.i .i64 (.bin .add .i64 (.var 4) (.lit (1)))),(.v 5 false)]))
       (.ite (.cmp .eql (.var 6) (.lit (2)))
         (.loop [(.i .i64 (.lit (0))),(.i .i64 (.bin .add .i64 (.var 4) (.lit (1)))),(.i .i64 (.bin .add .i64 (.var 5) (.lit (1))))] lp41_1)
         (.loop [(.i .i64 (.lit (0))),(.i .i64 (.bin .add .i64 (.var 4) (.lit (1)))),(.v 5 false)] lp41_1)))))
     (.letv (.sc (.one (.b (.lit false))))
     (.out [(.v 17 false),(.i .i64 (.bin .add .i64 (.var 4) (.lit (1)))),(.v 5 false)])))))
   (.letv (.sc (.one (.b (.lit false))))
   (.out [(.v 16 false),(.i .i64 (.bin .add .i64 (.var 4) (.lit (1)))),(.v 5 false)])))))))
def hs11:List (Nat×JS):=[]
def tree11:Tree :=
 (.opn 0 [(.int .i64),(.int .i64),(.int .u64),(.int .u64),(.int .u64),(.int .u64),.str,(.int .i64),(.int .i64),(.sl 10)]
 (.call 41 [(.d (.agg [(.v 1 true),(.v 2 true),(.v 3 true),(.v 4 true),(.v 5 true),(.v 6 true),(.v 7 true),(.v 8 true),(.v 9 true),(.v 10 true)])),(.d (.one (.i .i64 (.lit (1))))),(.p 0 0),(.p 1 0)] [([(.i .i64 (.lit (0)))],3),([(.i .i64 (.lit (0)))],3)] [(.int .i64),(.int .i64)]
 (.kin 11 .bool
 (.letv (.sc (.one (.v 11 false)))
 (.out [(.v 14 false)])))))
def hs10:List (Nat×JS):=[(122,⟨[(5,(.one (.int .i64))),(6,(.one (.int .i64))),(9,.drop),(10,.drop),(11,.drop),(12,.drop),(13,.drop),(14,.drop),(15,.drop),(16,.drop),(17,.drop),(18,.drop),(19,.drop),(20,.drop),(21,.drop),(22,.drop),(23,.drop),(24,.drop),(25,.drop),(26,.drop),(27,.drop),(28,.drop),(29,.drop)],[]⟩)]
def lp10_1:Tree :=
 (.ite (.and (.cmp .lss (.var 13) (.len (.var 11))) (.cmp .lss (.var 12) (.lit (1048576))))
       (.elem (.var 11) (.var 13)
       (.opn 14 [(.int .i64),(.int .i64),(.int .u64),(.int .u64),(.int .u64),(.int .u64),.str,(.int .i64),(.int .i64),(.sl 10)]
       (.call 10 [(.d (.agg [(.v 15 false),(.v 16 false),(.v 17 false),(.v 18 false),(.v 19 false),(.v 20 false),(.v 21 false),(.v 22 false),(.v 23 false),(.v 24 false)])),(.d (.one (.i .i64 (.bin .add .i64 (.var 1) (.lit (1))))))] [] []
       (.kin 25 (.int .i64)
       (.out [(.i .i64 (.bin .add .i64 (.var 12) (.var 25))),(.i .i64 (.bin .add .i64 (.var 13) (.lit (1))))])))))
       (.esc
        (.letv (.sc (.one (.v 12 true)))
        (.out [(.v 14 false)]))))
def tree10:Tree :=
 (.opn 0 [(.int .i64),(.int .i64),(.int .u64),(.int .u64),(.int .u64),(.int .u64),.str,(.int .i64),(.int .i64),(.sl 10)]
 (.kin 1 (.int .i64)
 (.ite (.cmp .gtr (.var 1) (.lit (5000)))
   (.letv (.sc (.one (.i .i64 (.lit (1048576)))))
   (.out [(.v 12 false)]))
   (.loop [(.i .i64 (.lit (1))),(.i .i64 (.lit (0)))] lp10_1))))
def hs17:List (Nat×JS):=[]
def tree17:Tree :=
 (.opn 0 [(.int .u64),(.int .u64),(.int .u64),(.int .u64)]
 (.kin 1 (.int .u8)
 (.ite (.cmp .eql (.bin .quo .u8 (.var 1) (.lit (64))) (.lit (0)))
   (.need (.cmp .geq (.bin .rem .u8 (.var 1) (.lit (64))) (.lit (0)))
   (.letv (.sc (.one (.b (.cmp .eql (.bin .and .u64 (.bin .shr .u64 (.var 2) (.bin .rem .u8 (.var 1) (.lit (64)))) (.lit (1))) (.lit (1))))))
   (.out [(.v 6 false)])))
   (.ite (.cmp .eql (.bin .quo .u8 (.var 1) (.lit (64))) (.lit (1)))
     (.need (.cmp .geq (.bin .rem .u8 (.var 1) (.lit (64))) (.lit (0)))
     (.letv (.sc (.one (.b (.cmp .eql (.bin .and .u64 (.bin .shr .u64 (.var 3) (.bin .rem .u8 (.var 1) (.lit (64)))) (.lit (1))) (.lit (1))))))
     (.out [(.v 6 false)])))
     (.ite (.cmp .eql (.bin .quo .u8 (.var 1) (.lit (64))) (.lit (2)))
       (.need (.cmp .geq (.bin .rem .u8 (.var 1) (.lit (64))) (.lit (0)))
       (.letv (.sc (.one (.b (.cmp .eql (.bin .and .u64 (.bin .shr .u64 (.var 4) (.bin .rem .u8 (.var 1) (.lit (64)))) (.lit (1))) (.lit (1))))))
       (.out [(.v 6 false)])))
       (.ite (.cmp .eql (.bin .quo .u8 (.var 1) (.lit (64))) (.lit (3)))
         (.need (.cmp .geq (.bin .rem .u8 (.var 1) (.lit (64))) (.lit (0)))
         (.letv (.sc (.one (.b (.cmp .eql (.bin .and .u64 (.bin .shr .u64 (.var 5) (.bin .rem .u8 (.var 1) (.lit (64)))) (.lit (1))) (.lit (1))))))
         (.out [(.v 6 false)])))
         (.need (.lit false)
         (.out []))))))))
def hs226:List (Nat×JS):=[(26,⟨[(5,.drop),(6,(.one (.int .i64))),(7,.drop),(8,.drop),(9,.drop),(10,.drop),(11,.drop),(12,.drop),(13,.drop),(14,.drop),(15,.drop),(16,.drop),(17,.drop)],[(0,[(some (.int .u64)),(some (.int .u64)),(some (.int .u64)),(some (.int .u64))])]⟩)]
def lp226_1:Tree :=
 (.ite (.cmp .lss (.var 10) (.lit (4)))
     (.ite (.cmp .eql (.var 10) (.lit (0)))
       (.out [(.i .i64 (.bin .add .i64 (.var 10) (.lit (1)))),(.i .u64 (.bin .or .u64 (.var 11) (.var 6))),(.v 12 false),(.v 13 false),(.v 14 false)])
       (.ite (.cmp .eql (.var 10) (.lit (1)))
         (.out [(.i .i64 (.bin .add .i64 (.var 10) (.lit (1)))),(.v 11 false),(.i .u64 (.bin .or .u64 (.var 12) (.var 7))),(.v 13 false),(.v 14 false)])
         (.ite (.cmp .eql (.var 10) (.lit (2)))
           (.out [(.i .i64 (.bin .add .i64 (.var 10) (.lit (1)))),(.v 11 false),(.v 12 false),(.i .u64 (.bin .or .u64 (.var 13) (.var 8))),(.v 14 false)])
           (.ite (.cmp .eql (.var 10) (.lit (3)))
             (.out [(.i .i64 (.bin .add .i64 (.var 10) (.lit (1)))),(.v 11 false),(.v 12 false),(.v 13 false),(.i .u64 (.bin .or .u64 (.var 14) (.var 9)))])
             (.need (.lit false)
             (.out []))))))
     (.esc
      (.letv (.sc (.agg [(.v 11 true),(.v 12 true),(.v 13 true),(.v 14 true)]))
      (.out [(.v 15 false)]))))
def tree226:Tree :=
 (.opn 0 [(.int .u64),(.int .u64),(.int .u64),(.int .u64)]
 (.opn 1 [(.int .u64),(.int .u64),(.int .u64),(.int .u64)]
 (.loop [(.i .i64 (.lit (0))),(.v 2 true),(.v 3 true),(.v 4 true),(.v 5 true)] lp226_1)))
def hs21:List (Nat×JS):=[(58,⟨[(5,(.one (.int .i64))),(11,.drop),(12,.drop),(13,.drop),(14,.drop),(15,.drop),(16,.drop),(17,.drop),(18,.drop),(19,.drop),(20,.drop),(21,.drop),(22,.drop),(23,.drop),(24,.drop),(25,.drop)],[]⟩)]
def lp21_1:Tree :=
 (.ite (.cmp .lss (.var 2) (.len (.var 0)))
       (.elem (.var 0) (.var 2)
       (.kin 3 (.int .i64)
       (.elem (.var 1) (.var 2)
       (.kin 4 (.int .i64)
       (.ite (.not (.cmp .eql (.var 3) (.var 4)))
         (.esc
          (.letv (.sc (.one (.b (.lit false))))
          (.out [(.v 5 false)])))
         (.out [(.i .i64 (.bin .add .i64 (.var 2) (.lit (1))))]))))))
       (.esc
        (.letv (.sc (.one (.b (.lit true))))
        (.out [(.v 3 false)]))))
def tree21:Tree :=
 (.kin 0 (.sl 1)
 (.kin 1 (.sl 1)
 (.ite (.not (.cmp .eql (.len (.var 0)) (.len (.var 1))))
   (.letv (.sc (.one (.b (.lit false))))
   (.out [(.v 2 false)]))
   (.loop [(.i .i64 (.lit (0)))] lp21_1))))
def hs13:List (Nat×JS):=[]
def tree13:Tree :=
 (.kin 0 (.sl 1)
 (.ite (.and (.cmp .gtr (.len (.var 0)) (.lit (40))) (.cmp .leq (.len (.var 0)) (.lit (65536))))
   (.need (.and (.cmp .leq (.lit (0)) (.lit (0))) (.and (.cmp .leq (.lit (0)) (.lit (40))) (.cmp .leq (.lit (40)) (.len (.var 0)))))
   (.letv (.slc 0 (.lit (0)) (.lit (40)))
   (.letv (.sc (.one (.v 1 false)))
   (.out [(.v 2 false)]))))
   (.letv (.sc (.one (.v 0 true)))
   (.out [(.v 1 false)]))))
def hs18:List (Nat×JS):=[]
def tree18:Tree :=
 (.kin 0 (.int .i64)
 (.kin 1 (.int .i64)
 (.opn 2 [(.int .i64),(.int .i64),(.int .u64),(.int .u64),(.int .u64),(.int .u64),.str,(.int .i64),(.int .i64),(.sl 10)]
 (.letv (.sc (.agg [(.v 3 true),(.v 4 true),(.v 5 true),(.v 6 true),(.v 7 true),(.v 8 true),(.v 9 true),(.v 10 true),(.v 11 true),(.v 12 true)]))
 (.letv (.sc (.agg [(.i .i64 (.lit (7))),(.i .i64 (.lit (0))),(.i .u64 (.lit (0))),(.i .u64 (.lit (0))),(.i .u64 (.lit (0))),(.i .u64 (.lit (0))),(.s (.lit [])),(.v 0 true),(.v 1 true),(.sl 10 (.snoc .nil 13) .no)]))
 (.out [(.v 14 false)]))))))
def hs19:List (Nat×JS):=[]
def tree19:Tree :=
 (.kin 0 (.sl 10)
 (.letv (.sc (.agg [(.i .i64 (.lit (5))),(.i .i64 (.lit (0))),(.i .u64 (.lit (0))),(.i .u64 (.lit (0))),(.i .u64 (.lit (0))),(.i .u64 (.lit (0))),(.s (.lit [])),(.i .i64 (.lit (0))),(.i .i64 (.lit (0))),(.v 0 true)]))
 (.out [(.v 1 false)])))
def hs20:List (Nat×JS):=[]
def tree20:Tree :=
 (.kin 0 (.sl 10)
 (.letv (.sc (.agg [(.i .i64 (.lit (6))),(.i .i64 (.lit (0))),(.i .u64 (.lit (0))),(.i .u64 (.lit (0))),(.i .u64 (.lit (0))),(.i .u64 (.lit (0))),(.s (.lit [])),(.i .i64 (.lit (0))),(.i .i64 (.lit (0))),(.v 0 true)]))
 (.out [(.v 1 false)])))
def hs4:List (Nat×JS):=[(260686,⟨[(9,(.one (.int .i64))),(10,.drop),(11,.drop),(12,.drop),(13,.drop),(14,.drop),(15,.drop),(16,.drop),(17,.drop),(184,.drop),(185,.drop),(187,.drop),(188,.drop),(198,.drop),(199,.drop),(200,.drop),(201,.drop),(202,.drop),(203,.drop),(204,.drop),(205,.drop),(206,.drop),(207,.drop),(208,.drop),(209,.drop),(210,.drop),(211,.drop),(212,.drop),(213,.drop),(214,.drop),(215,.drop),(216,.drop),(217,.drop),(218,.drop),(219,.drop),(220,.drop),(221,.drop),(222,.drop),(223,.drop),(224,.drop),(225,.drop),(226,.drop),(227,.drop),(228,.drop),(229,.drop),(230,.drop),(231,.drop),(232,.drop),(233,.drop),(234,.drop),(235,.drop),(236,.drop),(237,.drop),(238,.drop),(239,.drop),(240,.drop),(241,.drop),(242,.drop),(243,.drop),(244,.drop),(245,.drop),(246,.drop),(247,.drop),(248,.drop),(249,.drop),(250,.drop),(251,.drop),(252,.drop),(253,.drop),(254,.drop),(255,.drop),(256,.drop),(257,.drop),(258,.drop),(259,.drop),(260,.drop),(261,.drop),(262,.drop),(263,.drop),(264,.drop)],[]⟩),
 (1018,⟨[(7,(.one (.int .i64))),(8,.drop),(9,.drop),(10,.drop),(11,.drop),(12,.drop),(13,.drop),(14,.drop),(15,.drop),(16,.drop),(17,.drop),(178,.drop),(179,.drop),(180,.drop),(181,.drop),(182,.drop),(183,.drop),(184,.drop),(185,.drop),(186,.drop),(187,.drop),(188,.drop),(189,.drop),(190,.drop),(191,.drop),(192,.drop),(193,.drop),(194,.drop),(195,.drop),(196,.drop),(197,.drop),(198,.drop),(199,.drop),(200,.drop),(201,.drop),(202,.drop),(203,.drop),(204,.drop),(205,.drop),(206,.drop),(207,.drop),(208,.drop),(209,.drop),(210,.drop),(211,.drop),(212,.drop),(213,.drop),(214,.drop),(215,.drop),(216,.drop),(217,.drop),(218,.drop),(219,.drop),(220,.drop),(221,.drop),(222,.drop),(223,.drop),(224,.drop),(225,.drop),(226,.drop),(227,.drop),(228,.drop),(229,.drop),(230,.drop),(231,.drop),(232,.drop),(233,.drop),(234,.drop),(235,.drop),(236,.drop),(237,.drop),(238,.drop),(239,.drop),(240,.drop),(241,.drop),(242,.drop),(243,.drop),(244,.drop),(245,.drop),(246,.drop),(247,.drop),(248,.drop),(249,.drop),(250,.drop),(251,.drop),(252,.drop),(253,.drop),(254,.drop),(255,.drop),(256,.drop),(257,.drop),(258,.drop),(259,.drop),(260,.drop),(261,.drop),(262,.drop),(263,.drop),(264,.drop)],[]⟩)]
def lp4_1:Tree :=
 (.ite (.cmp .lss (.var 412) (.len (.snoc (.snoc (.snoc (.snoc (.snoc (.snoc (.snoc (.snoc (.snoc (.snoc .nil 210) 211) 212) 213) 214) 215) 216) 217) 218) 219)))
                   (.elem (.snoc (.snoc (.snoc (.snoc (.snoc (.snoc (.snoc (.snoc (.snoc (.snoc .nil 210) 211) 212) 213) 214) 215) 216) 217) 218) 219) (.var 412)
                   (.opn 413 [(.int .i64),(.int .i64),(.int .u64),(.int .u64),(.int .u64),(.int .u64),.str,(.int .i64),(.int .i64),(.sl 10)]
                   (.call 14 [(.d (.agg [(.v 414 false),(.v 415 false),(.v 416 false),(.v 417 false),(.v 418 false),(.v 419 false),(.v 420 false),(.v 421 false),(.v 422 false),(.v 423 false)])),(.d (.one (.v 411 true)))] [] []
                   (.unt 424 [(.sl 1),.ifc]
                   (.elem (.snoc (.snoc (.snoc (.snoc (.snoc (.snoc (.snoc (.snoc (.snoc (.snoc .nil 399) 400) 401) 402) 403) 404) 405) 406) 407) 408) (.var 412)
                   (.opn 427 [(.int .i64),(.int .i64),(.int .u64),(.int .u64),(.int .u64),(.int .u64),.str,(.int .i64),(.int .i64),(.sl 10)]
                   (.call 14 [(.d (.agg [(.v 428 false),(.v 429 false),(.v 430 false),(.v 431 false),(.v 432 false),(.v 433 false),(.v 434 false),(.v 435 false),(.v 436 false),(.v 437 false)])),(.d (.one (.v 411 true)))] [] []
                   (.unt 438 [(.sl 1),.ifc]
                   (.elem (.snoc (.snoc (.snoc (.snoc (.snoc (.snoc (.snoc (.snoc (.snoc (.snoc .nil 210) 211) 212) 213) 214) 215) 216) 217) 218) 219) (.var 412)
                   (.opn 441 [(.int .i64),(.int .i64),(.int .u64),(.int .u64),(.int .u64),(.int .u64),.str,(.int .i64),(.int .i64),(.sl 10)]
                   (.call 16 [(.d (.agg [(.v 442 false),(.v 443 false),(.v 444 false),(.v 445 false),(.v 446 false),(.v 447 false),(.v 448 false),(.v 449 false),(.v 450 false),(.v 451 false)])),(.d (.one (.v 411 true)))] [] []
                   (.unt 452 [.raw,.ifc]
                   (.opn 453 [(.int .u64),(.int .u64),(.int .u64),(.int .u64)]
                   (.elem (.snoc (.snoc (.snoc (.snoc (.snoc (.snoc (.snoc (.snoc (.snoc (.snoc .nil 399) 400) 401) 402) 403) 404) 405) 406) 407) 408) (.var 412)
                   (.opn 459 [(.int .i64),(.int .i64),(.int .u64),(.int .u64),(.int .u64),(.int .u64),.str,(.int .i64),(.int .i64),(.sl 10)]
                   (.call 16 [(.d (.agg [(.v 460 false),(.v 461 false),(.v 462 false),(.v 463 false),(.v 464 false),(.v 465 false),(.v 466 false),(.v 467 false),(.v 468 false),(.v 469 false)])),(.d (.one (.v 411 true)))] [] []
                   (.unt 470 [.raw,.ifc]
                   (.opn 471 [(.int .u64),(.int .u64),(.int .u64),(.int .u64)]
                   (.ite (.not (.or (.or (.or (.not (.nili 426)) (.not (.nili 440))) (.not (.nili 454))) (.not (.nili 472))))
                     (.call 21 [(.d (.one (.v 425 true))),(.d (.one (.v 439 true)))] [] []
                     (.kin 477 .bool
                     (.ite (.or (.not (.var 477)) (.not (.and (.cmp .eql (.var 455) (.var 473)) (.and (.cmp .eql (.var 456) (.var 474)) (.and (.cmp .eql (.var 457) (.var 475)) (.cmp .eql (.var 458) (.var 476)))))))
                       (.esc
                        (.esc
                         (.letv (.sc (.one (.b (.lit false))))
                         (.out [(.v 478 false)]))))
                       (.out [(.i .i64 (.bin .add .i64 (.var 412) (.lit (1))))]))))
                     (.esc
                      (.esc
                       (.letv (.sc (.one (.b (.lit false))))
                       (.out [(.v 477 false)])))))))))))))))))))))))
                   (.esc
                    (.out [(.i .i64 (.bin .add .i64 (.var 409) (.lit (1))))])))
def lp4_2:Tree :=
 (.ite (.and (.cmp .lss (.var 409) (.len (.var 31))) (.cmp .lss (.var 409) (.lit (3))))
             (.elem (.var 31) (.var 409)
             (.kin 410 (.sl 1)
             (.call 13 [(.d (.one (.v 410 true)))] [] []
             (.kin 411 (.sl 1)
             (.ite (.cmp .gtr (.len (.var 411)) (.lit (40)))
               (.out [(.i .i64 (.bin .add .i64 (.var 409) (.lit (1))))])
               (.loop [(.i .i64 (.lit (0)))] lp4_1))))))
             (.esc
              (.call 12 [] [] []
              (.kin 410 .bool
              (.letv (.sc (.one (.v 410 false)))
              (.out [(.v 411 false)]))))))
def K10:List CK:=[(.int .i64),(.int .i64),(.int .u64),(.int .u64),(.int .u64),(.int .u64),.str,(.int .i64),(.int .i64),(.sl 10)]
def CV (i:Nat) (b:Bool):List C:=[.v i b,.v (i+1) b,.v (i+2) b,.v (i+3) b,.v (i+4) b,.v (i+5) b,.v (i+6) b,.v (i+7) b,.v (i+8) b,.v (i+9) b]
def EC:List C:=[(.i .i64 (.lit (1))),(.i .i64 (.lit (0))),(.i .u64 (.lit (0))),(.i .u64 (.lit (0))),(.i .u64 (.lit (0))),(.i .u64 (.lit (0))),(.s (.lit [])),(.i .i64 (.lit (0))),(.i .i64 (.lit (0))),(.k .snil)]
def tree4c:Tree :=
 (.call 18 [(.d (.one (.i .i64 (.lit 0)))),(.d (.one (.i .i64 (.lit (-1))))),(.d (.agg (CV 1 true)))] [] []
 (.opn 38 K10
 (.letv (.sc (.agg (CV 1 true)))
 (.letv (.sc (.agg (CV 11 true)))
 (.call 19 [(.d (.one (.sl 10 (.snoc (.snoc .nil 49) 50) .no)))] [] []
 (.opn 51 K10
 (.letv (.sc (.agg (CV 52 false)))
 (.letv (.sc (.agg (CV 21 true)))
 (.call 19 [(.d (.one (.sl 10 (.snoc (.snoc .nil 62) 63) .no)))] [] []
 (.opn 64 K10
 (.letv (.sc (.agg (CV 1 true)))
 (.letv (.sc (.agg (CV 11 true)))
 (.call 20 [(.d (.one (.sl 10 (.snoc (.snoc .nil 75) 76) .no)))] [] []
 (.opn 77 K10
 (.letv (.sc (.agg (CV 78 false)))
 (.letv (.sc (.agg (CV 21 true)))
 (.call 20 [(.d (.one (.sl 10 (.snoc (.snoc .nil 88) 89) .no)))] [] []
 (.opn 90 K10
 (.letv (.sc (.agg (CV 1 true)))
 (.letv (.sc (.agg (CV 11 true)))
 (.call 20 [(.d (.one (.sl 10 (.snoc (.snoc .nil 101) 102) .no)))] [] []
 (.opn 103 K10
 (.letv (.sc (.agg (CV 11 true)))
 (.letv (.sc (.agg (CV 21 true)))
 (.call 20 [(.d (.one (.sl 10 (.snoc (.snoc .nil 114) 115) .no)))] [] []
 (.opn 116 K10
 (.letv (.sc (.agg (CV 1 true)))
 (.letv (.sc (.agg (CV 117 false)))
 (.call 19 [(.d (.one (.sl 10 (.snoc (.snoc .nil 127) 128) .no)))] [] []
 (.opn 129 K10
 (.call 18 [(.d (.one (.i .i64 (.lit 1)))),(.d (.one (.i .i64 (.lit (-1))))),(.d (.agg (CV 1 true)))] [] []
 (.opn 140 K10
 (.call 18 [(.d (.one (.i .i64 (.lit 0)))),(.d (.one (.i .i64 (.lit 1)))),(.d (.agg (CV 1 true)))] [] []
 (.opn 151 K10
 (.letv (.sc (.agg (CV 1 true)))
 (.letv (.sc (.agg EC))
 (.call 19 [(.d (.one (.sl 10 (.snoc (.snoc .nil 162) 163) .no)))] [] []
 (.opn 164 K10
 (.call 18 [(.d (.one (.i .i64 (.lit 0)))),(.d (.one (.i .i64 (.lit (-1))))),(.d (.agg (CV 39 true)))] [] []
 (.opn 175 K10
 (.letv (.sc (.agg (CV 1 true)))
 (.letv (.sc (.agg (CV 11 true)))
 (.call 20 [(.d (.one (.sl 10 (.snoc (.snoc .nil 186) 187) .no)))] [] []
 (.opn 188 K10
 (.call 18 [(.d (.one (.i .i64 (.lit 0)))),(.d (.one (.i .i64 (.lit (-1))))),(.d (.agg (CV 189 false)))] [] []
 (.opn 199 K10
 (.letv (.sc (.agg (CV 65 false)))
 (.letv (.sc (.agg (CV 91 false)))
 (.letv (.sc (.agg (CV 104 false)))
 (.letv (.sc (.agg (CV 130 false)))
 (.letv (.sc (.agg (CV 39 true)))
 (.letv (.sc (.agg (CV 141 false)))
 (.letv (.sc (.agg (CV 152 false)))
 (.letv (.sc (.agg (CV 165 false)))
 (.letv (.sc (.agg (CV 176 false)))
 (.letv (.sc (.agg (CV 200 false)))
 (.letv (.sc (.agg (CV 11 true)))
 (.letv (.sc (.agg (CV 21 true)))
 (.call 19 [(.d (.one (.sl 10 (.snoc (.snoc .nil 220) 221) .no)))] [] []
 (.opn 222 K10
 (.letv (.sc (.agg (CV 1 true)))
 (.letv (.sc (.agg (CV 223 false)))
 (.call 19 [(.d (.one (.sl 10 (.snoc (.snoc .nil 233) 234) .no)))] [] []
 (.opn 235 K10
 (.letv (.sc (.agg (CV 1 true)))
 (.letv (.sc (.agg (CV 11 true)))
 (.letv (.sc (.agg (CV 21 true)))
 (.call 20 [(.d (.one (.sl 10 (.snoc (.snoc (.snoc .nil 246) 247) 248) .no)))] [] []
 (.opn 249 K10
 (.letv (.sc (.agg (CV 11 true)))
 (.letv (.sc (.agg (CV 1 true)))
 (.call 20 [(.d (.one (.sl 10 (.snoc (.snoc .nil 260) 261) .no)))] [] []
 (.opn 262 K10
 (.letv (.sc (.agg (CV 1 true)))
 (.letv (.sc (.agg (CV 11 true)))
 (.call 19 [(.d (.one (.sl 10 (.snoc (.snoc .nil 273) 274) .no)))] [] []
 (.opn 275 K10
 (.letv (.sc (.agg (CV 1 true)))
 (.letv (.sc (.agg (CV 21 true)))
 (.call 19 [(.d (.one (.sl 10 (.snoc (.snoc .nil 286) 287) .no)))] [] []
 (.opn 288 K10
 (.letv (.sc (.agg (CV 276 false)))
 (.letv (.sc (.agg (CV 289 false)))
 (.call 20 [(.d (.one (.sl 10 (.snoc (.snoc .nil 299) 300) .no)))] [] []
 (.opn 301 K10
 (.letv (.sc (.agg (CV 1 true)))
 (.letv (.sc (.agg (CV 39 true)))
 (.call 19 [(.d (.one (.sl 10 (.snoc (.snoc .nil 312) 313) .no)))] [] []
 (.opn 314 K10
 (.letv (.sc (.agg EC))
 (.letv (.sc (.agg (CV 315 false)))
 (.call 20 [(.d (.one (.sl 10 (.snoc (.snoc .nil 325) 326) .no)))] [] []
 (.opn 327 K10
 (.letv (.sc (.agg (CV 1 true)))
 (.letv (.sc (.agg (CV 39 true)))
 (.call 19 [(.d (.one (.sl 10 (.snoc (.snoc .nil 338) 339) .no)))] [] []
 (.opn 340 K10
 (.letv (.sc (.agg (CV 1 true)))
 (.letv (.sc (.agg EC))
 (.call 20 [(.d (.one (.sl 10 (.snoc (.snoc .nil 351) 352) .no)))] [] []
 (.opn 353 K10
 (.call 18 [(.d (.one (.i .i64 (.lit 0)))),(.d (.one (.i .i64 (.lit (-1))))),(.d (.agg (CV 11 true)))] [] []
 (.opn 364 K10
 (.letv (.sc (.agg (CV 39 true)))
 (.letv (.sc (.agg (CV 365 false)))
 (.call 19 [(.d (.one (.sl 10 (.snoc (.snoc .nil 375) 376) .no)))] [] []
 (.opn 377 K10
 (.call 18 [(.d (.one (.i .i64 (.lit 0)))),(.d (.one (.i .i64 (.lit (-1))))),(.d (.agg (CV 378 false)))] [] []
 (.opn 388 K10
 (.letv (.sc (.agg (CV 236 false)))
 (.letv (.sc (.agg (CV 250 false)))
 (.letv (.sc (.agg (CV 263 false)))
 (.letv (.sc (.agg (CV 302 false)))
 (.letv (.sc (.agg (CV 328 false)))
 (.letv (.sc (.agg (CV 341 false)))
 (.letv (.sc (.agg (CV 354 false)))
 (.letv (.sc (.agg (CV 1 true)))
 (.letv (.sc (.agg (CV 39 true)))
 (.letv (.sc (.agg (CV 389 false)))
 (.loop [(.i .i64 (.lit 0))] lp4_2))))))))))))))))))))))))))))))))))))))))))))))))))))))))))))))))))))))))))))))))))))))))))))))))))))))))))))))))))))))))
def tree4:Tree :=
 (.opn 0 [(.int .i64),(.int .i64),(.int .u64),(.int .u64),(.int .u64),(.int .u64),.str,(.int .i64),(.int .i64),(.sl 10),(.int .i64),(.int .i64),(.int .u64),(.int .u64),(.int .u64),(.int .u64),.str,(.int .i64),(.int .i64),(.sl 10),(.int .i64),(.int .i64),(.int .u64),(.int .u64),(.int .u64),(.int .u64),.str,(.int .i64),(.int .i64),(.sl 10),(.sl 1)]
 (.call 10 [(.d (.agg (CV 1 true))),(.d (.one (.i .i64 (.lit 0))))] [] []
 (.kin 32 (.int .i64)
 (.call 10 [(.d (.agg (CV 11 true))),(.d (.one (.i .i64 (.lit 0))))] [] []
 (.kin 33 (.int .i64)
 (.call 10 [(.d (.agg (CV 21 true))),(.d (.one (.i .i64 (.lit 0))))] [] []
 (.kin 34 (.int .i64)
 (.ite (.not (.cmp .gtr (.bin .add .i64 (.bin .add .i64 (.var 32) (.var 33)) (.var 34)) (.lit 300)))
 (.call 11 [(.d (.agg (CV 1 true)))] [] []
 (.kin 35 .bool
 (.ite (.var 35)
 (.call 11 [(.d (.agg (CV 11 true)))] [] []
 (.kin 36 .bool
 (.ite (.var 36)
 (.call 11 [(.d (.agg (CV 21 true)))] [] []
 (.kin 37 .bool
 (.ite (.not (.var 37))
 (.call 12 [] [] []
 (.kin 38 .bool
 (.letv (.sc (.one (.v 38 false)))
 (.out [(.v 39 false)]))))
 tree4c)))
 (.call 12 [] [] []
 (.kin 37 .bool
 (.letv (.sc (.one (.v 37 false)))
 (.out [(.v 38 false)])))))))
 (.call 12 [] [] []
 (.kin 36 .bool
 (.letv (.sc (.one (.v 36 false)))
 (.out [(.v 37 false)])))))))
 (.call 12 [] [] []
 (.kin 35 .bool
 (.letv (.sc (.one (.v 35 false)))
 (.out [(.v 36 false)]))))))))))))
theorem tree63_ok:zaO Tryz.prog hs63 63=some tree63:=by kernel_rfl
theorem tree64_ok:zaO Tryz.prog hs64 64=some tree64:=by kernel_rfl
theorem tree41_ok:zaO Tryz.prog hs41 41=some tree41:=by kernel_rfl
theorem tree11_ok:zaO Tryz.prog hs11 11=some tree11:=by kernel_rfl
theorem tree10_ok:zaO Tryz.prog hs10 10=some tree10:=by kernel_rfl
theorem tree17_ok:zaO Tryz.prog hs17 17=some tree17:=by kernel_rfl
theorem tree226_ok:zaO Tryz.prog hs226 226=some tree226:=by kernel_rfl
theorem tree21_ok:zaO Tryz.prog hs21 21=some tree21:=by kernel_rfl
theorem tree13_ok:zaO Tryz.prog hs13 13=some tree13:=by kernel_rfl
theorem tree18_ok:zaO Tryz.prog hs18 18=some tree18:=by kernel_rfl
theorem tree19_ok:zaO Tryz.prog hs19 19=some tree19:=by kernel_rfl
theorem tree20_ok:zaO Tryz.prog hs20 20=some tree20:=by kernel_rfl
theorem tree4_ok:zaO Tryz.prog hs4 4=some tree4:=by kernel_rfl
end Go.Proofs.YtlnijcffanjieaaGreatDoor
