/- Trees of bodies, as they are told of the program's code. Conditions: none but those that each theorem names. -/
import Derived.Test.YtnlijejfagjbeaaGreatDoorProg
import Derived.KernelRfl
import Derived.Test.YtnlijejfagjbeaaGreatDoorVmD

namespace Go.Proofs.YtnlijejfagjbeaaGreatDoor
set_option maxRecDepth 100000
open Go Go.Vm Go.Vm.Sx

def hs4 : List (Nat × JS) := []
def tree4 : Tree :=
 (.opn 0 [(.sl 4), (.sl 1), (.sl 1), (.sl 1)]
 (.need (.room (.var 1) 32)
 (.letv (.app (.k .snil) 4 50 (.var 1))
 (.call 9 [(.d (.one (.v 2 true)))] [] []
 (.kin 6 (.sl 1)
 (.call 10 [(.d (.one (.v 3 true)))] [] []
 (.kin 7 (.sl 1)
 (.call 10 [(.d (.one (.v 4 true)))] [] []
 (.kin 8 (.sl 1)
 (.letv (.sc (.agg [(.v 5 true), (.v 6 true), (.v 7 true), (.v 8 true)]))
 (.out [(.v 9 false)])))))))))))
def hs7 : List (Nat × JS) := []
def tree7 : Tree :=
 (.opn 0 [(.sl 4), (.sl 1), (.sl 1), (.sl 1)]
 (.opn 1 [(.sl 4), (.sl 1), (.sl 1), (.sl 1)]
 (.call 14 [(.d (.one (.v 2 true))), (.d (.one (.v 6 true)))] [] []
 (.kin 10 .bool
 (.ite (.var 10)
   (.call 15 [(.d (.one (.v 3 true))), (.d (.one (.v 7 true)))] [] []
   (.kin 11 .bool
   (.ite (.var 11)
     (.call 16 [(.d (.one (.v 4 true))), (.d (.one (.v 8 true)))] [] []
     (.kin 12 .bool
     (.ite (.var 12)
       (.call 16 [(.d (.one (.v 5 true))), (.d (.one (.v 9 true)))] [] []
       (.kin 13 .bool
       (.letv (.sc (.one (.v 13 true)))
       (.out [(.v 14 false)]))))
       (.letv (.sc (.one (.b (.lit false))))
       (.out [(.v 13 false)])))))
     (.letv (.sc (.one (.b (.lit false))))
     (.out [(.v 12 false)])))))
   (.letv (.sc (.one (.b (.lit false))))
   (.out [(.v 11 false)])))))))
def hs9 : List (Nat × JS) := []
def tree9 : Tree :=
 (.kin 0 (.sl 1)
 (.need (.room (.var 0) 8)
 (.letv (.app (.k .snil) 1 3 (.var 0))
 (.letv (.sc (.one (.v 1 false)))
 (.out [(.v 2 false)])))))
def hs10 : List (Nat × JS) := [(58, ⟨[(3, (.one (.sl 1))), (4, (.one (.int .i64))), (5, .drop), (6, .drop), (7, .drop), (8, .drop), (9, .drop), (10, .drop), (11, .drop), (12, .drop), (13, .drop), (14, .drop), (15, .drop), (16, .drop), (17, .drop), (18, .drop)], []⟩)]
def lp10_1 : Tree :=
 (.ite (.cmp .lss (.var 2) (.len (.var 0)))
     (.elem (.var 0) (.var 2)
     (.kin 3 (.sl 1)
     (.call 9 [(.d (.one (.v 3 true)))] [] []
     (.kin 4 (.sl 1)
     (.letv (.sc (.one (.v 4 true)))
     (.need (.own 1 24)
     (.need (.room (.snoc (.var 1) 5) 24)
     (.out [(.sl 1 (.snoc (.var 1) 5) (.yes 24)), (.i .i64 (.bin .add .i64 (.var 2) (.lit (1))))]))))))))
     (.esc
      (.letv (.sc (.one (.v 1 true)))
      (.out [(.v 3 false)]))))
def tree10 : Tree :=
 (.kin 0 (.sl 1)
 (.loop [(.k .snil), (.i .i64 (.lit (0)))] lp10_1))
def hs14 : List (Nat × JS) := [(58, ⟨[(5, (.one (.int .i64))), (11, .drop), (12, .drop), (13, .drop), (14, .drop), (15, .drop), (16, .drop), (17, .drop), (18, .drop), (19, .drop), (20, .drop), (21, .drop), (22, .drop), (23, .drop), (24, .drop), (25, .drop)], []⟩)]
def lp14_1 : Tree :=
 (.ite (.cmp .lss (.var 2) (.len (.var 0)))
       (.elem (.var 0) (.var 2)
       (.opn 3 [(.int .u64), (.int .u64), (.int .u64), (.int .u64)]
       (.elem (.var 1) (.var 2)
       (.opn 8 [(.int .u64), (.int .u64), (.int .u64), (.int .u64)]
       (.ite (.not (.and (.cmp .eql (.var 4) (.var 9)) (.and (.cmp .eql (.var 5) (.var 10)) (.and (.cmp .eql (.var 6) (.var 11)) (.cmp .eql (.var 7) (.var 12))))))
         (.esc
          (.letv (.sc (.one (.b (.lit false))))
          (.out [(.v 13 false)])))
         (.out [(.i .i64 (.bin .add .i64 (.var 2) (.lit (1))))]))))))
       (.esc
        (.letv (.sc (.one (.b (.lit true))))
        (.out [(.v 3 false)]))))
def tree14 : Tree :=
 (.kin 0 (.sl 4)
 (.kin 1 (.sl 4)
 (.ite (.not (.cmp .eql (.len (.var 0)) (.len (.var 1))))
   (.letv (.sc (.one (.b (.lit false))))
   (.out [(.v 2 false)]))
   (.loop [(.i .i64 (.lit (0)))] lp14_1))))
def hs15 : List (Nat × JS) := [(58, ⟨[(5, (.one (.int .i64))), (11, .drop), (12, .drop), (13, .drop), (14, .drop), (15, .drop), (16, .drop), (17, .drop), (18, .drop), (19, .drop), (20, .drop), (21, .drop), (22, .drop), (23, .drop), (24, .drop), (25, .drop)], []⟩)]
def lp15_1 : Tree :=
 (.ite (.cmp .lss (.var 2) (.len (.var 0)))
       (.elem (.var 0) (.var 2)
       (.kin 3 (.int .i64)
       (.elem (.var 1) (.var 2)
       (.kin 4 (.int .i64)
       (.ite (.not (.cmp .eql (.var 3) (.var 4)))
         (.esc
          (.letv (.sc (.one (.b (.lit false))))
          (.out [(.v 5 false)])))
         (.out [(.i .i64 (.bin .add .i64 (.var 2) (.lit (1))))]))))))
       (.esc
        (.letv (.sc (.one (.b (.lit true))))
        (.out [(.v 3 false)]))))
def tree15 : Tree :=
 (.kin 0 (.sl 1)
 (.kin 1 (.sl 1)
 (.ite (.not (.cmp .eql (.len (.var 0)) (.len (.var 1))))
   (.letv (.sc (.one (.b (.lit false))))
   (.out [(.v 2 false)]))
   (.loop [(.i .i64 (.lit (0)))] lp15_1))))
def hs16 : List (Nat × JS) := [(58, ⟨[(5, (.one (.int .i64))), (11, .drop), (12, .drop), (13, .drop), (14, .drop), (15, .drop), (16, .drop), (17, .drop), (18, .drop), (19, .drop), (20, .drop), (21, .drop), (22, .drop), (23, .drop), (24, .drop), (25, .drop), (26, .drop)], []⟩)]
def lp16_1 : Tree :=
 (.ite (.cmp .lss (.var 2) (.len (.var 0)))
       (.elem (.var 0) (.var 2)
       (.kin 3 (.sl 1)
       (.elem (.var 1) (.var 2)
       (.kin 4 (.sl 1)
       (.call 15 [(.d (.one (.v 3 true))), (.d (.one (.v 4 true)))] [] []
       (.kin 5 .bool
       (.ite (.not (.var 5))
         (.esc
          (.letv (.sc (.one (.b (.lit false))))
          (.out [(.v 6 false)])))
         (.out [(.i .i64 (.bin .add .i64 (.var 2) (.lit (1))))]))))))))
       (.esc
        (.letv (.sc (.one (.b (.lit true))))
        (.out [(.v 3 false)]))))
def tree16 : Tree :=
 (.kin 0 (.sl 1)
 (.kin 1 (.sl 1)
 (.ite (.not (.cmp .eql (.len (.var 0)) (.len (.var 1))))
   (.letv (.sc (.one (.b (.lit false))))
   (.out [(.v 2 false)]))
   (.loop [(.i .i64 (.lit (0)))] lp16_1))))
def hs19 : List (Nat × JS) := []
def tree19 : Tree :=
 (.kin 0 (.int .i64)
 (.kin 1 (.int .i64)
 (.call 28 [(.d (.one (.v 0 true)))] [] []
 (.kin 2 .bool
 (.ite (.var 2)
   (.call 28 [(.d (.one (.v 1 true)))] [] []
   (.kin 3 .bool
   (.letv (.sc (.one (.b (.or (.not (.var 3)) (.cmp .lss (.var 0) (.var 1))))))
   (.out [(.v 4 false)]))))
   (.letv (.sc (.one (.b (.cmp .lss (.var 0) (.var 1)))))
   (.out [(.v 3 false)])))))))
def hs28 : List (Nat × JS) := []
def tree28 : Tree :=
 (.kin 0 (.int .i64)
 (.letv (.sc (.one (.b (.not (.cmp .eql (.var 0) (.var 0))))))
 (.out [(.v 1 false)])))
def hs11 : List (Nat × JS) := [(26, ⟨[(3, (.one (.int .i64))), (7, .drop), (8, .drop), (9, .drop), (10, .drop), (11, .drop), (12, .drop), (13, .drop), (14, .drop), (15, .drop), (16, .drop), (17, .drop), (18, .drop), (19, .drop), (20, .drop)], []⟩)]
def lp11_1 : Tree :=
 (.ite (.cmp .gtr (.var 1) (.lit (0)))
     (.elem (.var 0) (.var 1)
     (.kin 2 (.int .i64)
     (.elem (.var 0) (.bin .sub .i64 (.var 1) (.lit (1)))
     (.kin 3 (.int .i64)
     (.call 19 [(.d (.one (.v 2 true))), (.d (.one (.v 3 true)))] [] []
     (.kin 4 .bool
     (.ite (.var 4)
       (.esc
        (.letv (.sc (.one (.b (.lit false))))
        (.out [(.v 5 false)])))
       (.out [(.i .i64 (.bin .sub .i64 (.var 1) (.lit (1))))]))))))))
     (.esc
      (.letv (.sc (.one (.b (.lit true))))
      (.out [(.v 2 false)]))))
def tree11 : Tree :=
 (.kin 0 (.sl 1)
 (.loop [(.i .i64 (.bin .sub .i64 (.len (.var 0)) (.lit (1))))] lp11_1))
def hs13 : List (Nat × JS) := [(26, ⟨[(7, (.one (.int .i64))), (8, .drop), (9, .drop), (10, .drop), (11, .drop), (12, .drop), (13, .drop), (14, .drop), (15, .drop), (16, .drop), (17, .drop), (18, .drop), (19, .drop), (20, .drop), (21, .drop), (22, .drop), (23, .drop), (24, .drop), (25, .drop), (26, .drop), (27, .drop), (28, .drop), (29, .drop), (30, .drop), (31, .drop), (32, .drop), (33, .drop), (34, .drop), (35, .drop), (36, .drop), (37, .drop), (38, .drop), (39, .drop), (40, .drop), (41, .drop), (42, .drop), (43, .drop), (44, .drop), (45, .drop), (46, .drop), (47, .drop), (48, .drop), (49, .drop), (50, .drop), (51, .drop), (52, .drop), (53, .drop), (54, .drop), (55, .drop), (56, .drop), (57, .drop), (58, .drop), (59, .drop), (60, .drop), (61, .drop), (62, .drop), (63, .drop), (64, .drop), (65, .drop), (66, .drop), (67, .drop), (68, .drop), (69, .drop), (70, .drop), (71, .drop), (72, .drop), (73, .drop), (74, .drop), (75, .drop), (76, .drop)], []⟩)]
def lp13_1 : Tree :=
 (.ite (.cmp .lss (.var 7) (.len (.var 1)))
     (.elem (.var 1) (.var 7)
     (.kin 8 (.int .i64)
     (.ite (.not (.cmp .lss (.var 8) (.lit (0))))
       (.ite (.cmp .gtr (.var 7) (.lit (0)))
         (.elem (.var 1) (.var 7)
         (.kin 9 (.int .i64)
         (.elem (.var 1) (.bin .sub .i64 (.var 7) (.lit (1)))
         (.kin 10 (.int .i64)
         (.ite (.cmp .leq (.var 9) (.var 10))
           (.esc
            (.letv (.sc (.one (.b (.lit false))))
            (.out [(.v 11 false)])))
           (.elem (.var 1) (.var 7)
           (.kin 11 (.int .i64)
           (.ite (.cmp .geq (.var 11) (.len (.var 3)))
             (.elem (.var 1) (.var 7)
             (.kin 12 (.int .i64)
             (.ite (.cmp .eql (.bin .sub .i64 (.var 12) (.len (.var 3))) (.var 2))
               (.elem (.var 1) (.var 7)
               (.kin 13 (.int .i64)
               (.ite (.cmp .lss (.var 13) (.len (.var 3)))
                 (.elem (.var 1) (.var 7)
                 (.kin 14 (.int .i64)
                 (.elem (.var 4) (.var 14)
                 (.kin 15 (.int .i64)
                 (.ite (.not (.cmp .eql (.var 15) (.var 2)))
                   (.esc
                    (.letv (.sc (.one (.b (.lit false))))
                    (.out [(.v 16 false)])))
                   (.out [(.i .i64 (.bin .add .i64 (.var 7) (.lit (1))))]))))))
                 (.out [(.i .i64 (.bin .add .i64 (.var 7) (.lit (1))))]))))
               (.esc
                (.letv (.sc (.one (.b (.lit false))))
                (.out [(.v 13 false)]))))))
             (.elem (.var 1) (.var 7)
             (.kin 12 (.int .i64)
             (.ite (.cmp .lss (.var 12) (.len (.var 3)))
               (.elem (.var 1) (.var 7)
               (.kin 13 (.int .i64)
               (.elem (.var 4) (.var 13)
               (.kin 14 (.int .i64)
               (.ite (.not (.cmp .eql (.var 14) (.var 2)))
                 (.esc
                  (.letv (.sc (.one (.b (.lit false))))
                  (.out [(.v 15 false)])))
                 (.out [(.i .i64 (.bin .add .i64 (.var 7) (.lit (1))))]))))))
               (.out [(.i .i64 (.bin .add .i64 (.var 7) (.lit (1))))]))))))))))))
         (.elem (.var 1) (.var 7)
         (.kin 9 (.int .i64)
         (.ite (.cmp .geq (.var 9) (.len (.var 3)))
           (.elem (.var 1) (.var 7)
           (.kin 10 (.int .i64)
           (.ite (.cmp .eql (.bin .sub .i64 (.var 10) (.len (.var 3))) (.var 2))
             (.elem (.var 1) (.var 7)
             (.kin 11 (.int .i64)
             (.ite (.cmp .lss (.var 11) (.len (.var 3)))
               (.elem (.var 1) (.var 7)
               (.kin 12 (.int .i64)
               (.elem (.var 4) (.var 12)
               (.kin 13 (.int .i64)
               (.ite (.not (.cmp .eql (.var 13) (.var 2)))
                 (.esc
                  (.letv (.sc (.one (.b (.lit false))))
                  (.out [(.v 14 false)])))
                 (.out [(.i .i64 (.bin .add .i64 (.var 7) (.lit (1))))]))))))
               (.out [(.i .i64 (.bin .add .i64 (.var 7) (.lit (1))))]))))
             (.esc
              (.letv (.sc (.one (.b (.lit false))))
              (.out [(.v 11 false)]))))))
           (.elem (.var 1) (.var 7)
           (.kin 10 (.int .i64)
           (.ite (.cmp .lss (.var 10) (.len (.var 3)))
             (.elem (.var 1) (.var 7)
             (.kin 11 (.int .i64)
             (.elem (.var 4) (.var 11)
             (.kin 12 (.int .i64)
             (.ite (.not (.cmp .eql (.var 12) (.var 2)))
               (.esc
                (.letv (.sc (.one (.b (.lit false))))
                (.out [(.v 13 false)])))
               (.out [(.i .i64 (.bin .add .i64 (.var 7) (.lit (1))))]))))))
             (.out [(.i .i64 (.bin .add .i64 (.var 7) (.lit (1))))]))))))))
       (.esc
        (.letv (.sc (.one (.b (.lit false))))
        (.out [(.v 9 false)]))))))
     (.esc
      (.letv (.sc (.one (.b (.lit true))))
      (.out [(.v 8 false)]))))
def tree13 : Tree :=
 (.opn 0 [(.sl 4), (.sl 1), (.sl 1), (.sl 1)]
 (.kin 1 (.sl 1)
 (.kin 2 (.int .i64)
 (.loop [(.i .i64 (.lit (0)))] lp13_1))))
def hs6 : List (Nat × JS) := [(506, ⟨[(6, (.one (.int .i64))), (13, .drop), (14, .drop), (15, .drop), (16, .drop), (19, .drop), (20, .drop), (21, .drop), (22, .drop), (23, .drop), (26, .drop), (27, .drop), (28, .drop), (29, .drop), (30, .drop), (35, .drop), (36, .drop), (37, .drop), (38, .drop), (39, .drop), (40, .drop), (41, .drop), (42, .drop), (43, .drop), (44, .drop), (45, .drop), (46, .drop), (47, .drop), (48, .drop), (49, .drop), (50, .drop), (51, .drop), (52, .drop), (53, .drop), (54, .drop), (55, .drop), (56, .drop), (57, .drop), (58, .drop), (59, .drop), (60, .drop), (61, .drop), (62, .drop), (63, .drop), (64, .drop), (65, .drop), (66, .drop), (67, .drop), (68, .drop), (69, .drop), (70, .drop), (71, .drop), (75, .drop), (76, .drop), (77, .drop), (78, .drop), (79, .drop), (80, .drop), (81, .drop), (82, .drop), (83, .drop), (84, .drop), (85, .drop), (86, .drop), (87, .drop), (88, .drop), (89, .drop), (90, .drop), (91, .drop), (92, .drop), (93, .drop), (94, .drop), (95, .drop), (96, .drop), (97, .drop), (98, .drop), (99, .drop), (100, .drop), (101, .drop), (102, .drop), (103, .drop), (104, .drop), (105, .drop)], []⟩),
  (250, ⟨[(5, (.one (.int .i64))), (13, .drop), (14, .drop), (15, .drop), (16, .drop), (19, .drop), (20, .drop), (21, .drop), (22, .drop), (23, .drop), (26, .drop), (27, .drop), (28, .drop), (29, .drop), (30, .drop), (35, .drop), (36, .drop), (37, .drop), (38, .drop), (39, .drop), (40, .drop), (41, .drop), (42, .drop), (43, .drop), (44, .drop), (45, .drop), (46, .drop), (47, .drop), (48, .drop), (49, .drop), (50, .drop), (51, .drop), (52, .drop), (53, .drop), (54, .drop), (55, .drop), (56, .drop), (57, .drop), (58, .drop), (59, .drop), (60, .drop), (61, .drop), (62, .drop), (63, .drop), (64, .drop), (65, .drop), (66, .drop), (67, .drop), (68, .drop), (69, .drop), (70, .drop), (71, .drop), (72, .drop), (73, .drop), (74, .drop), (75, .drop), (76, .drop), (77, .drop), (78, .drop), (79, .drop), (80, .drop), (81, .drop), (82, .drop), (83, .drop), (84, .drop), (85, .drop), (86, .drop), (87, .drop), (88, .drop), (89, .drop)], []⟩),
  (122, ⟨[(4, (.one (.int .i64))), (13, .drop), (14, .drop), (15, .drop), (16, .drop), (19, .drop), (20, .drop), (21, .drop), (22, .drop), (23, .drop), (26, .drop), (27, .drop), (28, .drop), (29, .drop), (30, .drop), (32, .drop), (33, .drop), (34, .drop), (35, .drop), (36, .drop), (37, .drop), (38, .drop), (39, .drop), (40, .drop), (41, .drop), (42, .drop), (43, .drop), (44, .drop), (45, .drop), (46, .drop), (47, .drop), (48, .drop), (49, .drop), (50, .drop), (51, .drop), (52, .drop), (53, .drop), (54, .drop), (55, .drop), (56, .drop), (57, .drop), (58, .drop), (59, .drop), (60, .drop), (61, .drop), (62, .drop), (63, .drop), (64, .drop), (65, .drop), (66, .drop), (67, .drop), (68, .drop), (69, .drop), (70, .drop), (71, .drop)], []⟩)]
def lp6_1 : Tree :=
 (.ite (.cmp .lss (.var 7) (.len (.var 3)))
                 (.elem (.var 3) (.var 7)
                 (.kin 8 (.sl 1)
                 (.call 13 [(.d (.agg [(.v 1 true), (.v 2 true), (.v 3 true), (.v 4 true)])), (.d (.one (.v 8 true))), (.d (.one (.v 7 true)))] [] []
                 (.kin 9 .bool
                 (.ite (.not (.var 9))
                   (.esc
                    (.letv (.sc (.one (.b (.lit false))))
                    (.out [(.v 10 false)])))
                   (.out [(.i .i64 (.bin .add .i64 (.var 7) (.lit (1))))]))))))
                 (.esc
                  (.letv (.sc (.one (.b (.lit true))))
                  (.out [(.v 8 false)]))))
def lp6_2 : Tree :=
 (.ite (.cmp .lss (.var 6) (.len (.var 1)))
            (.elem (.var 4) (.var 6)
            (.kin 7 (.sl 1)
            (.elem (.var 2) (.var 6)
            (.kin 8 (.int .i64)
            (.call 13 [(.d (.agg [(.v 1 true), (.v 2 true), (.v 3 true), (.v 4 true)])), (.d (.one (.v 7 true))), (.d (.one (.v 8 true)))] [] []
            (.kin 9 .bool
            (.ite (.not (.var 9))
              (.esc
               (.letv (.sc (.one (.b (.lit false))))
               (.out [(.v 10 false)])))
              (.out [(.i .i64 (.bin .add .i64 (.var 6) (.lit (1))))]))))))))
            (.esc
             (.loop [(.i .i64 (.lit (0)))] lp6_1)))
def lp6_3 : Tree :=
 (.ite (.cmp .lss (.var 5) (.len (.var 1)))
       (.elem (.var 2) (.var 5)
       (.kin 6 (.int .i64)
       (.ite (.not (.cmp .lss (.var 6) (.lit (0))))
         (.elem (.var 2) (.var 5)
         (.kin 7 (.int .i64)
         (.ite (.not (.cmp .geq (.var 7) (.len (.var 3))))
           (.ite (.cmp .gtr (.var 5) (.lit (0)))
             (.elem (.var 2) (.var 5)
             (.kin 8 (.int .i64)
             (.elem (.var 2) (.bin .sub .i64 (.var 5) (.lit (1)))
             (.kin 9 (.int .i64)
             (.ite (.cmp .lss (.var 8) (.var 9))
               (.esc
                (.letv (.sc (.one (.b (.lit false))))
                (.out [(.v 10 false)])))
               (.out [(.i .i64 (.bin .add .i64 (.var 5) (.lit (1))))]))))))
             (.out [(.i .i64 (.bin .add .i64 (.var 5) (.lit (1))))]))
           (.esc
            (.letv (.sc (.one (.b (.lit false))))
            (.out [(.v 8 false)]))))))
         (.esc
          (.letv (.sc (.one (.b (.lit false))))
          (.out [(.v 7 false)]))))))
       (.esc
        (.loop [(.i .i64 (.lit (0)))] lp6_2)))
def tree6 : Tree :=
 (.opn 0 [(.sl 4), (.sl 1), (.sl 1), (.sl 1)]
 (.ite (.or (.or (.or (.cmp .gtr (.len (.var 1)) (.lit (1000))) (.cmp .gtr (.len (.var 3)) (.lit (200)))) (.not (.cmp .eql (.len (.var 2)) (.len (.var 1))))) (.not (.cmp .eql (.len (.var 4)) (.len (.var 1)))))
   (.letv (.sc (.one (.b (.lit false))))
   (.out [(.v 5 false)]))
   (.loop [(.i .i64 (.lit (0)))] lp6_3)))
def caps12 : List TypeId := [3, 27]
def hs12 : List (Nat × JS) := [(26, ⟨[(7, .drop), (8, .drop), (11, (.one (.int .i64))), (12, .drop), (13, .drop), (14, .drop), (15, .drop), (16, .drop), (17, .drop), (18, .drop), (19, .drop), (20, .drop), (21, .drop), (22, .drop), (23, .drop), (24, .drop), (25, .drop), (26, .drop), (27, .drop), (28, .drop), (29, .drop), (30, .drop), (31, .drop), (32, .drop), (33, .drop), (34, .drop), (35, .drop), (36, .drop), (37, .drop), (38, .drop), (39, .drop), (40, .drop), (41, .drop), (42, .drop), (43, .drop), (44, .drop), (45, .drop), (46, .drop), (47, .drop), (48, .drop), (49, .drop), (50, .drop), (51, .drop), (52, .drop)], []⟩)]
def lp12_1 : Tree :=
 (.ite (.cmp .lss (.var 9) (.len (.var 0)))
     (.elem (.var 0) (.var 9)
     (.kin 10 (.int .i64)
     (.ite (.cmp .gtr (.var 9) (.lit (0)))
       (.elem (.var 0) (.bin .sub .i64 (.var 9) (.lit (1)))
       (.kin 11 (.int .i64)
       (.ite (.and (.and (.not (.or (.cmp .geq (.var 11) (.var 10)) (.cmp .lss (.var 10) (.lit (0))))) (.not (.cmp .eql (.var 10) (.bin .add .i64 (.var 4) (.var 1))))) (.not (.cmp .geq (.var 10) (.var 4))))
         (.elem (.var 6) (.var 10)
         (.kin 12 (.int .i64)
         (.ite (.not (.cmp .eql (.var 12) (.var 1)))
           (.esc
            (.letv (.sc (.one (.b (.lit false))))
            (.out [(.v 13 false), (.v 4 false), (.v 5 false), (.v 6 false), (.v 7 false), (.v 8 false)])))
           (.out [(.i .i64 (.bin .add .i64 (.var 9) (.lit (1))))]))))
         (.ite (.or (.or (.cmp .geq (.var 11) (.var 10)) (.cmp .lss (.var 10) (.lit (0)))) (.not (.cmp .eql (.var 10) (.bin .add .i64 (.var 4) (.var 1)))))
           (.esc
            (.letv (.sc (.one (.b (.lit false))))
            (.out [(.v 12 false), (.v 4 false), (.v 5 false), (.v 6 false), (.v 7 false), (.v 8 false)])))
           (.out [(.i .i64 (.bin .add .i64 (.var 9) (.lit (1))))])))))
       (.ite (.and (.and (.not (.cmp .lss (.var 10) (.lit (0)))) (.not (.cmp .eql (.var 10) (.bin .add .i64 (.var 4) (.var 1))))) (.not (.cmp .geq (.var 10) (.var 4))))
         (.elem (.var 6) (.var 10)
         (.kin 11 (.int .i64)
         (.ite (.not (.cmp .eql (.var 11) (.var 1)))
           (.esc
            (.letv (.sc (.one (.b (.lit false))))
            (.out [(.v 12 false), (.v 4 false), (.v 5 false), (.v 6 false), (.v 7 false), (.v 8 false)])))
           (.out [(.i .i64 (.bin .add .i64 (.var 9) (.lit (1))))]))))
         (.ite (.or (.cmp .lss (.var 10) (.lit (0))) (.not (.cmp .eql (.var 10) (.bin .add .i64 (.var 4) (.var 1)))))
           (.esc
            (.letv (.sc (.one (.b (.lit false))))
            (.out [(.v 11 false), (.v 4 false), (.v 5 false), (.v 6 false), (.v 7 false), (.v 8 false)])))
           (.out [(.i .i64 (.bin .add .i64 (.var 9) (.lit (1))))]))))))
     (.esc
      (.letv (.sc (.one (.b (.lit true))))
      (.out [(.v 10 false), (.v 4 false), (.v 5 false), (.v 6 false), (.v 7 false), (.v 8 false)]))))
def tree12 : Tree :=
 (.kin 4 (.int .i64)
 (.kin 5 (.sl 4)
 (.kin 6 (.sl 1)
 (.kin 7 (.sl 1)
 (.kin 8 (.sl 1)
 (.kin 0 (.sl 1)
 (.kin 1 (.int .i64)
 (.loop [(.i .i64 (.lit (0)))] lp12_1))))))))
def hs5 : List (Nat × JS) := [(1018, ⟨[(6, .drop), (7, .drop), (8, .drop), (9, .drop), (19, .drop), (20, .drop), (23, .drop), (24, .drop), (25, .drop), (26, .drop), (27, .drop), (30, .drop), (31, .drop), (32, .drop), (33, .drop), (34, .drop), (37, .drop), (38, .drop), (45, .drop), (46, .drop), (51, .drop), (52, .drop), (53, .drop), (54, .drop), (67, .drop), (68, .drop), (69, .drop), (70, .drop), (71, .drop), (72, .drop), (73, .drop), (74, .drop), (75, .drop), (79, (.one (.int .i64))), (80, .drop), (81, .drop), (82, .drop), (83, .drop), (84, .drop), (85, .drop), (86, .drop), (87, .drop), (88, .drop), (89, .drop), (90, .drop), (91, .drop), (92, .drop), (93, .drop)], [(1, [(some (.int .i64))]), (0, [(some (.sl 4)), (some (.sl 1)), (some (.sl 1)), (some (.sl 1))])]⟩),
  (506, ⟨[(6, .drop), (7, .drop), (19, .drop), (20, .drop), (23, .drop), (24, .drop), (25, .drop), (26, .drop), (27, .drop), (30, .drop), (31, .drop), (32, .drop), (33, .drop), (34, .drop), (37, .drop), (38, .drop), (45, .drop), (46, .drop), (51, .drop), (52, .drop), (53, .drop), (54, .drop), (65, (.one (.int .i64))), (66, .drop), (67, .drop), (68, .drop), (69, .drop), (70, .drop), (71, .drop), (72, .drop), (73, .drop), (74, .drop), (75, .drop)], [(1, [(some (.int .i64))]), (0, [(some (.sl 4)), (some (.sl 1)), (some (.sl 1)), (some (.sl 1))])]⟩)]
def lp5_1 : Tree :=
 (.ite (.cmp .lss (.var 12) (.len (.var 11)))
                (.elem (.var 11) (.var 12)
                (.kin 18 (.sl 1)
                (.elem (.var 15) (.var 12)
                (.kin 19 (.int .i64)
                (.call 12 [(.d (.one (.v 18 true))), (.d (.one (.v 19 true))), (.p 0 0), (.p 1 0)] [([(.v 13 false)], 3), ([(.v 14 false), (.v 15 false), (.v 16 false), (.v 17 false)], 27)] [(.int .i64), (.sl 4), (.sl 1), (.sl 1), (.sl 1)]
                (.kin 20 .bool
                (.ite (.not (.var 20))
                  (.esc
                   (.letv (.sc (.one (.b (.lit false))))
                   (.out [(.v 26 false)])))
                  (.out [(.i .i64 (.bin .add .i64 (.var 12) (.lit (1)))), (.v 21 false), (.v 22 false), (.v 23 false), (.v 24 false), (.v 25 false)]))))))))
                (.esc
                 (.letv (.sc (.one (.b (.lit true))))
                 (.out [(.v 18 false)]))))
def lp5_2 : Tree :=
 (.ite (.cmp .lss (.var 6) (.len (.var 3)))
           (.elem (.var 3) (.var 6)
           (.kin 12 (.sl 1)
           (.call 12 [(.d (.one (.v 12 true))), (.d (.one (.v 6 true))), (.p 0 0), (.p 1 0)] [([(.v 7 false)], 3), ([(.v 8 false), (.v 9 false), (.v 10 false), (.v 11 false)], 27)] [(.int .i64), (.sl 4), (.sl 1), (.sl 1), (.sl 1)]
           (.kin 13 .bool
           (.ite (.not (.var 13))
             (.esc
              (.letv (.sc (.one (.b (.lit false))))
              (.out [(.v 19 false)])))
             (.out [(.i .i64 (.bin .add .i64 (.var 6) (.lit (1)))), (.v 14 false), (.v 15 false), (.v 16 false), (.v 17 false), (.v 18 false)]))))))
           (.esc
            (.loop [(.i .i64 (.lit (0))), (.v 7 false), (.v 8 false), (.v 9 false), (.v 10 false), (.v 11 false)] lp5_1)))
def lp5_3 : Tree :=
 (.ite (.cmp .lss (.var 14) (.len (.var 13)))
                    (.elem (.var 13) (.var 14)
                    (.kin 20 (.sl 1)
                    (.elem (.var 17) (.var 14)
                    (.kin 21 (.int .i64)
                    (.call 12 [(.d (.one (.v 20 true))), (.d (.one (.v 21 true))), (.p 0 0), (.p 1 0)] [([(.v 15 false)], 3), ([(.v 16 false), (.v 17 false), (.v 18 false), (.v 19 false)], 27)] [(.int .i64), (.sl 4), (.sl 1), (.sl 1), (.sl 1)]
                    (.kin 22 .bool
                    (.ite (.not (.var 22))
                      (.esc
                       (.letv (.sc (.one (.b (.lit false))))
                       (.out [(.v 28 false)])))
                      (.out [(.i .i64 (.bin .add .i64 (.var 14) (.lit (1)))), (.v 23 false), (.v 24 false), (.v 25 false), (.v 26 false), (.v 27 false)]))))))))
                    (.esc
                     (.letv (.sc (.one (.b (.lit true))))
                     (.out [(.v 20 false)]))))
def lp5_4 : Tree :=
 (.ite (.cmp .lss (.var 8) (.len (.var 3)))
               (.elem (.var 3) (.var 8)
               (.kin 14 (.sl 1)
               (.call 12 [(.d (.one (.v 14 true))), (.d (.one (.v 8 true))), (.p 0 0), (.p 1 0)] [([(.v 9 false)], 3), ([(.v 10 false), (.v 11 false), (.v 12 false), (.v 13 false)], 27)] [(.int .i64), (.sl 4), (.sl 1), (.sl 1), (.sl 1)]
               (.kin 15 .bool
               (.ite (.not (.var 15))
                 (.esc
                  (.letv (.sc (.one (.b (.lit false))))
                  (.out [(.v 21 false)])))
                 (.out [(.i .i64 (.bin .add .i64 (.var 8) (.lit (1)))), (.v 16 false), (.v 17 false), (.v 18 false), (.v 19 false), (.v 20 false)]))))))
               (.esc
                (.loop [(.i .i64 (.lit (0))), (.v 9 false), (.v 10 false), (.v 11 false), (.v 12 false), (.v 13 false)] lp5_3)))
def tree5 : Tree :=
 (.opn 0 [(.sl 4), (.sl 1), (.sl 1), (.sl 1)]
 (.ite (.not (.or (.or (.or (.cmp .gtr (.len (.var 1)) (.lit (1000))) (.cmp .gtr (.len (.var 3)) (.lit (200)))) (.not (.cmp .eql (.len (.var 2)) (.len (.var 1))))) (.not (.cmp .eql (.len (.var 4)) (.len (.var 1))))))
   (.call 11 [(.d (.one (.v 2 true)))] [] []
   (.kin 5 .bool
   (.ite (.not (.var 5))
     (.letv (.sc (.one (.b (.lit false))))
     (.out [(.v 6 false)]))
     (.ite (.cmp .gtr (.len (.var 1)) (.lit (0)))
       (.elem (.var 2) (.lit (0))
       (.kin 6 (.int .i64)
       (.ite (.not (.cmp .lss (.var 6) (.lit (0))))
         (.elem (.var 2) (.bin .sub .i64 (.len (.var 1)) (.lit (1)))
         (.kin 7 (.int .i64)
         (.ite (.cmp .geq (.var 7) (.len (.var 3)))
           (.letv (.sc (.one (.b (.lit false))))
           (.out [(.v 8 false)]))
           (.loop [(.i .i64 (.lit (0))), (.i .i64 (.len (.var 1))), (.v 1 true), (.v 2 true), (.v 3 true), (.v 4 true)] lp5_4))))
         (.letv (.sc (.one (.b (.lit false))))
         (.out [(.v 7 false)])))))
       (.loop [(.i .i64 (.lit (0))), (.i .i64 (.len (.var 1))), (.v 1 true), (.v 2 true), (.v 3 true), (.v 4 true)] lp5_2)))))
   (.letv (.sc (.one (.b (.lit false))))
   (.out [(.v 5 false)]))))
def hs3 : List (Nat × JS) := [(26, ⟨[(3, (.one (.int .i64))), (4, .drop), (5, .drop), (6, .drop), (7, .drop), (8, .drop), (9, .drop), (10, .drop), (11, .drop), (12, .drop), (13, .drop), (14, .drop), (15, .drop), (16, .drop), (17, .drop), (18, .drop), (19, .drop), (20, .drop), (21, .drop), (22, .drop), (23, .drop), (24, .drop), (25, .drop), (26, .drop), (27, .drop), (28, .drop), (29, .drop), (30, .drop), (31, .drop), (32, .drop), (33, .drop), (34, .drop), (35, .drop), (36, .drop), (37, .drop), (38, .drop), (39, .drop), (40, .drop), (41, .drop), (42, .drop), (43, .drop), (44, .drop), (45, .drop), (46, .drop), (47, .drop), (48, .drop), (49, .drop), (50, .drop), (51, .drop), (52, .drop)], []⟩)]
def lp3_1 : Tree :=
 (.ite (.and (.cmp .lss (.var 1) (.len (.var 0))) (.cmp .lss (.var 1) (.lit (24))))
     (.elem (.var 0) (.var 1)
     (.opn 2 [(.sl 4), (.sl 1), (.sl 1), (.sl 1)]
     (.ite (.not (.cmp .gtr (.len (.var 6)) (.lit (3000))))
       (.elem (.var 0) (.var 1)
       (.opn 7 [(.sl 4), (.sl 1), (.sl 1), (.sl 1)]
       (.ite (.cmp .gtr (.len (.var 10)) (.lit (3000)))
         (.out [(.i .i64 (.bin .add .i64 (.var 1) (.lit (1))))])
         (.elem (.var 0) (.var 1)
         (.opn 12 [(.sl 4), (.sl 1), (.sl 1), (.sl 1)]
         (.call 4 [(.d (.agg [(.v 13 false), (.v 14 false), (.v 15 false), (.v 16 false)]))] [] []
         (.opn 17 [(.sl 4), (.sl 1), (.sl 1), (.sl 1)]
         (.call 5 [(.d (.agg [(.v 18 true), (.v 19 true), (.v 20 true), (.v 21 true)]))] [] []
         (.kin 22 .bool
         (.elem (.var 0) (.var 1)
         (.opn 23 [(.sl 4), (.sl 1), (.sl 1), (.sl 1)]
         (.call 6 [(.d (.agg [(.v 24 false), (.v 25 false), (.v 26 false), (.v 27 false)]))] [] []
         (.kin 28 .bool
         (.ite (.beq (.var 22) (.var 28))
           (.elem (.var 0) (.var 1)
           (.opn 29 [(.sl 4), (.sl 1), (.sl 1), (.sl 1)]
           (.call 7 [(.d (.agg [(.v 18 true), (.v 19 true), (.v 20 true), (.v 21 true)])), (.d (.agg [(.v 30 false), (.v 31 false), (.v 32 false), (.v 33 false)]))] [] []
           (.kin 34 .bool
           (.ite (.not (.var 34))
             (.esc
              (.letv (.sc (.one (.b (.lit false))))
              (.out [(.v 35 false)])))
             (.out [(.i .i64 (.bin .add .i64 (.var 1) (.lit (1))))]))))))
           (.esc
            (.letv (.sc (.one (.b (.lit false))))
            (.out [(.v 29 false)])))))))))))))))))
       (.out [(.i .i64 (.bin .add .i64 (.var 1) (.lit (1))))]))))
     (.esc
      (.call 8 [] [] []
      (.kin 2 .bool
      (.letv (.sc (.one (.v 2 false)))
      (.out [(.v 3 false)]))))))
def tree3 : Tree :=
 (.kin 0 (.sl 4)
 (.loop [(.i .i64 (.lit (0)))] lp3_1))
theorem tree4_ok : xFun Tryz.prog hs4 4 = some tree4 := by kernel_rfl
theorem tree7_ok : xFun Tryz.prog hs7 7 = some tree7 := by kernel_rfl
theorem tree9_ok : xFun Tryz.prog hs9 9 = some tree9 := by kernel_rfl
theorem tree10_ok : xFun Tryz.prog hs10 10 = some tree10 := by kernel_rfl
theorem tree14_ok : xFun Tryz.prog hs14 14 = some tree14 := by kernel_rfl
theorem tree15_ok : xFun Tryz.prog hs15 15 = some tree15 := by kernel_rfl
theorem tree16_ok : xFun Tryz.prog hs16 16 = some tree16 := by kernel_rfl
theorem tree19_ok : xFun Tryz.prog hs19 19 = some tree19 := by kernel_rfl
theorem tree28_ok : xFun Tryz.prog hs28 28 = some tree28 := by kernel_rfl
theorem tree11_ok : xFun Tryz.prog hs11 11 = some tree11 := by kernel_rfl
theorem tree13_ok : xFun Tryz.prog hs13 13 = some tree13 := by kernel_rfl
theorem tree6_ok : xFun Tryz.prog hs6 6 = some tree6 := by kernel_rfl
theorem tree12_ok : xFunC Tryz.prog hs12 12 [3, 27] = some tree12 := by kernel_rfl
theorem tree5_ok : xFun Tryz.prog hs5 5 = some tree5 := by kernel_rfl
theorem tree3_ok : xFun Tryz.prog hs3 3 = some tree3 := by kernel_rfl

end Go.Proofs.YtnlijejfagjbeaaGreatDoor
