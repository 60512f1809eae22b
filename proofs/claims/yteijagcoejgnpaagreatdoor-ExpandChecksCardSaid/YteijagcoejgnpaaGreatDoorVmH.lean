/- Trees of bodies, as they are told of the program's code. Conditions: none but those that each theorem names. -/
import Derived.Test.YteijagcoejgnpaaGreatDoorVmD
import Derived.Test.YteijagcoejgnpaaGreatDoorVmG

namespace Go.Proofs.YteijagcoejgnpaaGreatDoor
set_option maxRecDepth 100000
open Go Go.Vm Go.Vm.Sx

def hs63 : List (Nat × JS) := []
def tree63 : Tree :=
 (.opn 0 [(.int .i64), (.int .i64), (.int .u64), (.int .u64), (.int .u64), (.int .u64), .str, (.int .i64), (.int .i64), (.sl 10)]
 (.letv (.sc (.one (.b (.and (.and (.and (.cmp .eql (.var 2) (.lit (0))) (.scmp .eql (.var 7) (.lit []))) (.or (.cmp .eql (.var 1) (.lit (2))) (.and (.cmp .eql (.var 3) (.lit (0))) (.and (.cmp .eql (.var 4) (.lit (0))) (.and (.cmp .eql (.var 5) (.lit (0))) (.cmp .eql (.var 6) (.lit (0)))))))) (.or (.cmp .eql (.var 1) (.lit (7))) (.and (.cmp .eql (.var 8) (.lit (0))) (.cmp .eql (.var 9) (.lit (0)))))))))
 (.out [(.v 11 false)])))
def hs64 : List (Nat × JS) := []
def tree64 : Tree :=
 (.opn 0 [(.int .i64), (.int .i64), (.int .u64), (.int .u64), (.int .u64), (.int .u64), .str, (.int .i64), (.int .i64), (.sl 10)]
 (.ite (.cmp .eql (.var 1) (.lit (1)))
   (.letv (.sc (.one (.b (.cmp .eql (.len (.var 10)) (.lit (0))))))
   (.out [(.v 11 false)]))
   (.ite (.cmp .eql (.var 1) (.lit (2)))
     (.letv (.sc (.one (.b (.cmp .eql (.len (.var 10)) (.lit (0))))))
     (.out [(.v 11 false)]))
     (.ite (.cmp .eql (.var 1) (.lit (5)))
       (.letv (.sc (.one (.b (.cmp .gtr (.len (.var 10)) (.lit (1))))))
       (.out [(.v 11 false)]))
       (.ite (.cmp .eql (.var 1) (.lit (6)))
         (.letv (.sc (.one (.b (.cmp .gtr (.len (.var 10)) (.lit (1))))))
         (.out [(.v 11 false)]))
         (.ite (.cmp .eql (.var 1) (.lit (7)))
           (.letv (.sc (.one (.b (.and (.cmp .eql (.len (.var 10)) (.lit (1))) (.or (.or (.and (.cmp .eql (.var 8) (.lit (0))) (.cmp .eql (.var 9) (.lit (-1)))) (.and (.cmp .eql (.var 8) (.lit (1))) (.cmp .eql (.var 9) (.lit (-1))))) (.and (.cmp .eql (.var 8) (.lit (0))) (.cmp .eql (.var 9) (.lit (1)))))))))
           (.out [(.v 11 false)]))
           (.letv (.sc (.one (.b (.lit false))))
           (.out [(.v 11 false)]))))))))
def hs42 : List (Nat × JS) := [(122, ⟨[(3, (.one (.int .i64))), (4, (.one (.int .i64))), (8, .drop), (9, .drop), (10, .drop), (11, .drop), (12, .drop), (13, .drop), (14, .drop), (15, .drop), (16, .drop), (17, .drop), (18, .drop), (19, .drop), (20, .drop), (21, .drop), (22, .drop)], []⟩)]
def lp42_1 : Tree :=
 (.ite (.cmp .lss (.var 12) (.len (.var 10)))
       (.elem (.var 10) (.var 12)
       (.opn 13 [(.int .i64), (.int .i64), (.int .u64), (.int .u64), (.int .u64), (.int .u64), .str, (.int .i64), (.int .i64), (.sl 10)]
       (.call 42 [(.d (.agg [(.v 14 false), (.v 15 false), (.v 16 false), (.v 17 false), (.v 18 false), (.v 19 false), (.v 20 false), (.v 21 false), (.v 22 false), (.v 23 false)]))] [] []
       (.kin 24 (.int .i64)
       (.out [(.i .i64 (.bin .add .i64 (.var 11) (.var 24))), (.i .i64 (.bin .add .i64 (.var 12) (.lit (1))))])))))
       (.esc
        (.letv (.sc (.one (.v 11 true)))
        (.out [(.v 13 false)]))))
def tree42 : Tree :=
 (.opn 0 [(.int .i64), (.int .i64), (.int .u64), (.int .u64), (.int .u64), (.int .u64), .str, (.int .i64), (.int .i64), (.sl 10)]
 (.ite (.cmp .eql (.var 1) (.lit (2)))
   (.loop [(.i .i64 (.lit (1))), (.i .i64 (.lit (0)))] lp42_1)
   (.loop [(.i .i64 (.lit (0))), (.i .i64 (.lit (0)))] lp42_1)))
def hs13 : List (Nat × JS) := []
def tree13 : Tree :=
 (.opn 0 [(.int .i64), (.int .i64), (.int .u64), (.int .u64), (.int .u64), (.int .u64), .str, (.int .i64), (.int .i64), (.sl 10)]
 (.call 41 [(.d (.agg [(.v 1 true), (.v 2 true), (.v 3 true), (.v 4 true), (.v 5 true), (.v 6 true), (.v 7 true), (.v 8 true), (.v 9 true), (.v 10 true)])), (.d (.one (.i .i64 (.lit (4096)))))] [] []
 (.kin 11 (.int .i64)
 (.letv (.sc (.one (.b (.cmp .leq (.var 11) (.lit (65536))))))
 (.out [(.v 12 false)])))))
def hs15 : List (Nat × JS) := []
def tree15 : Tree :=
 (.opn 0 [(.int .i64), (.int .i64), (.int .u64), (.int .u64), (.int .u64), (.int .u64), .str, (.int .i64), (.int .i64), (.sl 10)]
 (.call 13 [(.d (.agg [(.v 1 true), (.v 2 true), (.v 3 true), (.v 4 true), (.v 5 true), (.v 6 true), (.v 7 true), (.v 8 true), (.v 9 true), (.v 10 true)]))] [] []
 (.kin 11 .bool
 (.ite (.not (.var 11))
   (.letv (.sc (.one (.i .i64 (.lit (0)))))
   (.out [(.v 12 false)]))
   (.call 42 [(.d (.agg [(.v 1 true), (.v 2 true), (.v 3 true), (.v 4 true), (.v 5 true), (.v 6 true), (.v 7 true), (.v 8 true), (.v 9 true), (.v 10 true)]))] [] []
   (.kin 12 (.int .i64)
   (.ite (.cmp .gtr (.var 12) (.lit (1000)))
     (.letv (.sc (.one (.i .i64 (.lit (1001)))))
     (.out [(.v 13 false)]))
     (.letv (.sc (.one (.v 12 true)))
     (.out [(.v 13 false)])))))))))
def hs11 : List (Nat × JS) := []
def tree11 : Tree :=
 (.opn 0 [(.int .i64), (.int .i64), (.int .u64), (.int .u64), (.int .u64), (.int .u64), .str, (.int .i64), (.int .i64), (.sl 10)]
 (.call 40 [(.d (.agg [(.v 1 true), (.v 2 true), (.v 3 true), (.v 4 true), (.v 5 true), (.v 6 true), (.v 7 true), (.v 8 true), (.v 9 true), (.v 10 true)])), (.d (.one (.i .i64 (.lit (1))))), (.p 0 0), (.p 1 0)] [([(.i .i64 (.lit (0)))], 3), ([(.i .i64 (.lit (0)))], 3)] [(.int .i64), (.int .i64)]
 (.kin 11 .bool
 (.letv (.sc (.one (.v 11 false)))
 (.out [(.v 14 false)])))))
def hs14 : List (Nat × JS) := []
def tree14 : Tree :=
 (.opn 0 [(.int .i64), (.int .i64), (.int .u64), (.int .u64), (.int .u64), (.int .u64), .str, (.int .i64), (.int .i64), (.sl 10)]
 (.call 40 [(.d (.agg [(.v 1 true), (.v 2 true), (.v 3 true), (.v 4 true), (.v 5 true), (.v 6 true), (.v 7 true), (.v 8 true), (.v 9 true), (.v 10 true)])), (.d (.one (.i .i64 (.lit (1))))), (.p 0 0), (.p 1 0)] [([(.i .i64 (.lit (0)))], 3), ([(.i .i64 (.lit (0)))], 3)] [(.int .i64), (.int .i64)]
 (.kin 11 .bool
 (.ite (.not (.var 11))
   (.letv (.sc (.one (.i .i64 (.lit (0)))))
   (.out [(.v 14 false)]))
   (.letv (.sc (.one (.i .i64 (.ite (.cmp .lss (.lit (1001)) (.var 13)) (.lit (1001)) (.var 13)))))
   (.out [(.v 14 false)]))))))
def hs40 : List (Nat × JS) := [(122, ⟨[(10, .drop), (21, .drop), (22, .drop), (25, .drop), (30, .drop), (45, (.one (.int .i64))), (46, .drop), (47, .drop), (48, .drop), (49, .drop), (50, .drop), (51, .drop), (52, .drop), (53, .drop), (54, .drop), (55, .drop), (56, .drop)], [(0, [(some (.int .i64))]), (1, [(some (.int .i64))])]⟩)]
def lp40_1 : Tree :=
 (.ite (.cmp .lss (.var 18) (.len (.var 15)))
             (.elem (.var 15) (.var 18)
             (.opn 21 [(.int .i64), (.int .i64), (.int .u64), (.int .u64), (.int .u64), (.int .u64), .str, (.int .i64), (.int .i64), (.sl 10)]
             (.call 40 [(.d (.agg [(.v 22 true), (.v 23 true), (.v 24 true), (.v 25 true), (.v 26 true), (.v 27 true), (.v 28 true), (.v 29 true), (.v 30 true), (.v 31 true)])), (.d (.one (.i .i64 (.bin .add .i64 (.var 1) (.lit (1)))))), (.p 0 0), (.p 1 0)] [([(.v 19 false)], 3), ([(.v 20 false)], 3)] [(.int .i64), (.int .i64)]
             (.kin 32 .bool
             (.ite (.not (.var 32))
               (.esc
                (.letv (.sc (.one (.b (.lit false))))
                (.out [(.v 35 false), (.v 33 false), (.v 34 false)])))
               (.out [(.i .i64 (.bin .add .i64 (.var 18) (.lit (1)))), (.v 33 false), (.v 34 false)]))))))
             (.esc
              (.letv (.sc (.one (.b (.lit true))))
              (.out [(.v 21 false), (.v 19 false), (.v 20 false)]))))
def tree40 : Tree :=
 (.kin 4 (.int .i64)
 (.kin 5 (.int .i64)
 (.opn 0 [(.int .i64), (.int .i64), (.int .u64), (.int .u64), (.int .u64), (.int .u64), .str, (.int .i64), (.int .i64), (.sl 10)]
 (.kin 1 (.int .i64)
 (.ite (.not (.or (.cmp .gtr (.bin .add .i64 (.var 4) (.lit (1))) (.lit (65536))) (.cmp .gtr (.var 1) (.lit (4096)))))
   (.call 63 [(.d (.agg [(.v 6 true), (.v 7 true), (.v 8 true), (.v 9 true), (.v 10 true), (.v 11 true), (.v 12 true), (.v 13 true), (.v 14 true), (.v 15 true)]))] [] []
   (.kin 16 .bool
   (.ite (.var 16)
     (.call 64 [(.d (.agg [(.v 6 true), (.v 7 true), (.v 8 true), (.v 9 true), (.v 10 true), (.v 11 true), (.v 12 true), (.v 13 true), (.v 14 true), (.v 15 true)]))] [] []
     (.kin 17 .bool
     (.ite (.not (.var 17))
       (.letv (.sc (.one (.b (.lit false))))
       (.out [(.v 18 false), (.i .i64 (.bin .add .i64 (.var 4) (.lit (1)))), (.v 5 false)]))
       (.ite (.cmp .eql (.var 6) (.lit (2)))
         (.loop [(.i .i64 (.lit (0))), (.i .i64 (.bin .add .i64 (.var 4) (.lit (1)))), (.i .i64 (.bin .add .i64 (.var 5) (.lit (1))))] lp40_1)
         (.loop [(.i .i64 (.lit (0))), (.i .i64 (.bin .add .i64 (.var 4) (.lit (1)))), (.v 5 false)] lp40_1)))))
     (.letv (.sc (.one (.b (.lit false))))
     (.out [(.v 17 false), (.i .i64 (.bin .add .i64 (.var 4) (.lit (1)))), (.v 5 false)])))))
   (.letv (.sc (.one (.b (.lit false))))
   (.out [(.v 16 false), (.i .i64 (.bin .add .i64 (.var 4) (.lit (1)))), (.v 5 false)])))))))
def hs10 : List (Nat × JS) := [(122, ⟨[(5, (.one (.int .i64))), (6, (.one (.int .i64))), (14, .drop), (15, .drop), (16, .drop), (17, .drop), (18, .drop), (19, .drop), (20, .drop), (21, .drop), (22, .drop), (23, .drop), (24, .drop), (25, .drop), (26, .drop), (27, .drop), (28, .drop), (29, .drop), (30, .drop), (31, .drop), (32, .drop), (33, .drop), (34, .drop)], []⟩)]
def lp10_1 : Tree :=
 (.ite (.and (.cmp .lss (.var 13) (.len (.var 11))) (.cmp .lss (.var 12) (.lit (1048576))))
       (.elem (.var 11) (.var 13)
       (.opn 14 [(.int .i64), (.int .i64), (.int .u64), (.int .u64), (.int .u64), (.int .u64), .str, (.int .i64), (.int .i64), (.sl 10)]
       (.call 10 [(.d (.agg [(.v 15 false), (.v 16 false), (.v 17 false), (.v 18 false), (.v 19 false), (.v 20 false), (.v 21 false), (.v 22 false), (.v 23 false), (.v 24 false)])), (.d (.one (.i .i64 (.bin .add .i64 (.var 1) (.lit (1))))))] [] []
       (.kin 25 (.int .i64)
       (.out [(.i .i64 (.bin .add .i64 (.var 12) (.var 25))), (.i .i64 (.bin .add .i64 (.var 13) (.lit (1))))])))))
       (.esc
        (.letv (.sc (.one (.v 12 true)))
        (.out [(.v 14 false)]))))
def tree10 : Tree :=
 (.opn 0 [(.int .i64), (.int .i64), (.int .u64), (.int .u64), (.int .u64), (.int .u64), .str, (.int .i64), (.int .i64), (.sl 10)]
 (.kin 1 (.int .i64)
 (.ite (.cmp .gtr (.var 1) (.lit (5000)))
   (.letv (.sc (.one (.i .i64 (.lit (1048576)))))
   (.out [(.v 12 false)]))
   (.loop [(.i .i64 (.bin .add .i64 (.lit (1)) (.bin .quo .i64 (.slen (.var 8)) (.lit (20))))), (.i .i64 (.lit (0)))] lp10_1))))
def hs12 : List (Nat × JS) := [(122, ⟨[(4, (.one (.int .i64))), (7, .drop), (8, .drop), (9, .drop), (10, .drop), (11, .drop), (12, .drop), (13, .drop), (14, .drop), (15, .drop), (16, .drop), (17, .drop), (18, .drop), (19, .drop), (20, .drop), (21, .drop), (22, .drop), (23, .drop), (24, .drop)], [(2, [none, none, none, none, none, none, none, none, none, (some (.sl 10))])]⟩)]
def lp12_1 : Tree :=
 (.ite (.cmp .lss (.var 11) (.len (.var 10)))
     (.need (.rights 12)
     (.elem (.var 10) (.var 11)
     (.opn 13 [(.int .i64), (.int .i64), (.int .u64), (.int .u64), (.int .u64), (.int .u64), .str, (.int .i64), (.int .i64), (.sl 10)]
     (.call 12 [(.d (.agg [(.v 14 false), (.v 15 false), (.v 16 false), (.v 17 false), (.v 18 false), (.v 19 false), (.v 20 false), (.v 21 false), (.v 22 false), (.v 23 false)]))] [] []
     (.opn 24 [(.int .i64), (.int .i64), (.int .u64), (.int .u64), (.int .u64), (.int .u64), .str, (.int .i64), (.int .i64), (.sl 10)]
     (.letv (.sc (.agg [(.v 25 false), (.v 26 false), (.v 27 false), (.v 28 false), (.v 29 false), (.v 30 false), (.v 31 false), (.v 32 false), (.v 33 false), (.v 34 false)]))
     (.need (.own 12 28)
     (.need (.room (.snoc (.var 12) 35) 104)
     (.out [(.i .i64 (.bin .add .i64 (.var 11) (.lit (1)))), (.sl 10 (.snoc (.var 12) 35) (.yes 28))])))))))))
     (.esc
      (.letv (.sc (.agg [(.v 1 true), (.v 2 true), (.v 3 true), (.v 4 true), (.v 5 true), (.v 6 true), (.v 7 true), (.v 8 true), (.v 9 true), (.v 12 true)]))
      (.out [(.v 13 false)]))))
def tree12 : Tree :=
 (.opn 0 [(.int .i64), (.int .i64), (.int .u64), (.int .u64), (.int .u64), (.int .u64), .str, (.int .i64), (.int .i64), (.sl 10)]
 (.loop [(.i .i64 (.lit (0))), (.k .snil)] lp12_1))
def hs3 : List (Nat × JS) := [(26, ⟨[(3, (.one (.int .i64))), (4, .drop), (5, .drop), (6, .drop), (7, .drop), (8, .drop), (9, .drop), (10, .drop), (11, .drop), (12, .drop), (13, .drop), (14, .drop), (15, .drop), (16, .drop), (17, .drop), (18, .drop), (19, .drop), (20, .drop), (21, .drop), (22, .drop), (23, .drop), (24, .drop), (25, .drop), (26, .drop), (27, .drop), (28, .drop), (29, .drop), (30, .drop), (31, .drop), (32, .drop), (33, .drop), (34, .drop), (35, .drop), (36, .drop), (37, .drop), (38, .drop), (39, .drop), (40, .drop), (41, .drop), (42, .drop), (43, .drop), (44, .drop), (45, .drop)], []⟩)]
def lp3_1 : Tree :=
 (.ite (.and (.cmp .lss (.var 1) (.len (.var 0))) (.cmp .lss (.var 1) (.lit (32))))
     (.elem (.var 0) (.var 1)
     (.opn 2 [(.int .i64), (.int .i64), (.int .u64), (.int .u64), (.int .u64), (.int .u64), .str, (.int .i64), (.int .i64), (.sl 10)]
     (.call 10 [(.d (.agg [(.v 3 false), (.v 4 false), (.v 5 false), (.v 6 false), (.v 7 false), (.v 8 false), (.v 9 false), (.v 10 false), (.v 11 false), (.v 12 false)])), (.d (.one (.i .i64 (.lit (0)))))] [] []
     (.kin 13 (.int .i64)
     (.ite (.cmp .gtr (.var 13) (.lit (20000)))
       (.out [(.i .i64 (.bin .add .i64 (.var 1) (.lit (1))))])
       (.elem (.var 0) (.var 1)
       (.opn 14 [(.int .i64), (.int .i64), (.int .u64), (.int .u64), (.int .u64), (.int .u64), .str, (.int .i64), (.int .i64), (.sl 10)]
       (.call 12 [(.d (.agg [(.v 15 false), (.v 16 false), (.v 17 false), (.v 18 false), (.v 19 false), (.v 20 false), (.v 21 false), (.v 22 false), (.v 23 false), (.v 24 false)]))] [] []
       (.opn 25 [(.int .i64), (.int .i64), (.int .u64), (.int .u64), (.int .u64), (.int .u64), .str, (.int .i64), (.int .i64), (.sl 10)]
       (.call 11 [(.d (.agg [(.v 26 false), (.v 27 false), (.v 28 false), (.v 29 false), (.v 30 false), (.v 31 false), (.v 32 false), (.v 33 false), (.v 34 false), (.v 35 false)]))] [] []
       (.kin 36 .bool
       (.elem (.var 0) (.var 1)
       (.opn 37 [(.int .i64), (.int .i64), (.int .u64), (.int .u64), (.int .u64), (.int .u64), .str, (.int .i64), (.int .i64), (.sl 10)]
       (.call 13 [(.d (.agg [(.v 38 false), (.v 39 false), (.v 40 false), (.v 41 false), (.v 42 false), (.v 43 false), (.v 44 false), (.v 45 false), (.v 46 false), (.v 47 false)]))] [] []
       (.kin 48 .bool
       (.ite (.beq (.var 36) (.var 48))
         (.elem (.var 0) (.var 1)
         (.opn 49 [(.int .i64), (.int .i64), (.int .u64), (.int .u64), (.int .u64), (.int .u64), .str, (.int .i64), (.int .i64), (.sl 10)]
         (.call 12 [(.d (.agg [(.v 50 false), (.v 51 false), (.v 52 false), (.v 53 false), (.v 54 false), (.v 55 false), (.v 56 false), (.v 57 false), (.v 58 false), (.v 59 false)]))] [] []
         (.opn 60 [(.int .i64), (.int .i64), (.int .u64), (.int .u64), (.int .u64), (.int .u64), .str, (.int .i64), (.int .i64), (.sl 10)]
         (.call 14 [(.d (.agg [(.v 61 false), (.v 62 false), (.v 63 false), (.v 64 false), (.v 65 false), (.v 66 false), (.v 67 false), (.v 68 false), (.v 69 false), (.v 70 false)]))] [] []
         (.kin 71 (.int .i64)
         (.elem (.var 0) (.var 1)
         (.opn 72 [(.int .i64), (.int .i64), (.int .u64), (.int .u64), (.int .u64), (.int .u64), .str, (.int .i64), (.int .i64), (.sl 10)]
         (.call 15 [(.d (.agg [(.v 73 false), (.v 74 false), (.v 75 false), (.v 76 false), (.v 77 false), (.v 78 false), (.v 79 false), (.v 80 false), (.v 81 false), (.v 82 false)]))] [] []
         (.kin 83 (.int .i64)
         (.ite (.not (.cmp .eql (.var 71) (.var 83)))
           (.esc
            (.letv (.sc (.one (.b (.lit false))))
            (.out [(.v 84 false)])))
           (.out [(.i .i64 (.bin .add .i64 (.var 1) (.lit (1))))]))))))))))))
         (.esc
          (.letv (.sc (.one (.b (.lit false))))
          (.out [(.v 49 false)])))))))))))))))))))
     (.esc
      (.call 16 [] [] []
      (.kin 2 .bool
      (.letv (.sc (.one (.v 2 false)))
      (.out [(.v 3 false)]))))))
def tree3 : Tree :=
 (.kin 0 (.sl 10)
 (.loop [(.i .i64 (.lit (0)))] lp3_1))
def hs41 : List (Nat × JS) := [(250, ⟨[(6, (.one (.int .i64))), (7, (.one (.int .i64))), (11, .drop), (12, .drop), (13, .drop), (16, .drop), (17, .drop), (18, .drop), (21, .drop), (22, .drop), (23, .drop), (24, .drop), (25, .drop), (26, .drop), (27, .drop), (28, .drop), (29, .drop), (41, .drop), (42, .drop), (43, .drop), (46, .drop), (47, .drop), (48, .drop), (58, .drop), (59, .drop), (60, .drop), (63, .drop), (64, .drop), (65, .drop), (73, .drop), (74, .drop), (75, .drop), (76, .drop), (77, .drop), (78, .drop), (79, .drop), (80, .drop), (83, .drop), (84, .drop), (85, .drop), (86, .drop), (87, .drop), (88, .drop), (89, .drop), (90, .drop), (97, .drop), (98, .drop), (100, .drop), (101, .drop), (102, .drop), (103, .drop), (104, .drop), (105, .drop), (106, .drop), (107, .drop), (108, .drop), (109, .drop), (110, .drop), (111, .drop), (112, .drop), (113, .drop), (114, .drop), (115, .drop), (116, .drop), (117, .drop), (118, .drop), (119, .drop), (120, .drop)], []⟩)]
def lp41_1 : Tree :=
 (.ite (.and (.cmp .lss (.var 13) (.len (.var 11))) (.cmp .leq (.var 12) (.lit (65536))))
                   (.elem (.var 11) (.var 13)
                   (.opn 14 [(.int .i64), (.int .i64), (.int .u64), (.int .u64), (.int .u64), (.int .u64), .str, (.int .i64), (.int .i64), (.sl 10)]
                   (.call 41 [(.d (.agg [(.v 15 false), (.v 16 false), (.v 17 false), (.v 18 false), (.v 19 false), (.v 20 false), (.v 21 false), (.v 22 false), (.v 23 false), (.v 24 false)])), (.d (.one (.i .i64 (.bin .sub .i64 (.var 1) (.lit (1))))))] [] []
                   (.kin 25 (.int .i64)
                   (.out [(.i .i64 (.bin .add .i64 (.var 12) (.var 25))), (.i .i64 (.bin .add .i64 (.var 13) (.lit (1))))])))))
                   (.esc
                    (.letv (.sc (.one (.v 12 true)))
                    (.out [(.v 14 false)]))))
def tree41 : Tree :=
 (.opn 0 [(.int .i64), (.int .i64), (.int .u64), (.int .u64), (.int .u64), (.int .u64), .str, (.int .i64), (.int .i64), (.sl 10)]
 (.kin 1 (.int .i64)
 (.ite (.or (.or (.or (.cmp .lss (.var 1) (.lit (1))) (.not (.cmp .eql (.var 3) (.lit (0))))) (.not (.scmp .eql (.var 8) (.lit [])))) (.and (.not (.cmp .eql (.var 2) (.lit (2)))) (.not (.and (.cmp .eql (.var 4) (.lit (0))) (.and (.cmp .eql (.var 5) (.lit (0))) (.and (.cmp .eql (.var 6) (.lit (0))) (.cmp .eql (.var 7) (.lit (0)))))))))
   (.letv (.sc (.one (.i .i64 (.lit (65537)))))
   (.out [(.v 12 false)]))
   (.ite (.cmp .eql (.var 2) (.lit (1)))
     (.ite (.or (.or (.cmp .gtr (.len (.var 11)) (.lit (0))) (.not (.cmp .eql (.var 9) (.lit (0))))) (.not (.cmp .eql (.var 10) (.lit (0)))))
       (.letv (.sc (.one (.i .i64 (.lit (65537)))))
       (.out [(.v 12 false)]))
       (.loop [(.i .i64 (.lit (1))), (.i .i64 (.lit (0)))] lp41_1))
     (.ite (.cmp .eql (.var 2) (.lit (2)))
       (.ite (.or (.or (.cmp .gtr (.len (.var 11)) (.lit (0))) (.not (.cmp .eql (.var 9) (.lit (0))))) (.not (.cmp .eql (.var 10) (.lit (0)))))
         (.letv (.sc (.one (.i .i64 (.lit (65537)))))
         (.out [(.v 12 false)]))
         (.loop [(.i .i64 (.lit (1))), (.i .i64 (.lit (0)))] lp41_1))
       (.ite (.cmp .eql (.var 2) (.lit (5)))
         (.ite (.or (.or (.cmp .lss (.len (.var 11)) (.lit (2))) (.not (.cmp .eql (.var 9) (.lit (0))))) (.not (.cmp .eql (.var 10) (.lit (0)))))
           (.letv (.sc (.one (.i .i64 (.lit (65537)))))
           (.out [(.v 12 false)]))
           (.loop [(.i .i64 (.lit (1))), (.i .i64 (.lit (0)))] lp41_1))
         (.ite (.cmp .eql (.var 2) (.lit (6)))
           (.ite (.or (.or (.cmp .lss (.len (.var 11)) (.lit (2))) (.not (.cmp .eql (.var 9) (.lit (0))))) (.not (.cmp .eql (.var 10) (.lit (0)))))
             (.letv (.sc (.one (.i .i64 (.lit (65537)))))
             (.out [(.v 12 false)]))
             (.loop [(.i .i64 (.lit (1))), (.i .i64 (.lit (0)))] lp41_1))
           (.ite (.cmp .eql (.var 2) (.lit (7)))
             (.ite (.or (.not (.cmp .eql (.len (.var 11)) (.lit (1)))) (.not (.or (.and (.cmp .eql (.var 9) (.lit (0))) (.or (.cmp .eql (.var 10) (.lit (-1))) (.cmp .eql (.var 10) (.lit (1))))) (.and (.cmp .eql (.var 9) (.lit (1))) (.cmp .eql (.var 10) (.lit (-1)))))))
               (.letv (.sc (.one (.i .i64 (.lit (65537)))))
               (.out [(.v 12 false)]))
               (.loop [(.i .i64 (.lit (1))), (.i .i64 (.lit (0)))] lp41_1))
             (.letv (.sc (.one (.i .i64 (.lit (65537)))))
             (.out [(.v 12 false)]))))))))))
theorem tree63_ok : xFun Tryz.prog hs63 63 = some tree63 := by kernel_rfl
theorem tree64_ok : xFun Tryz.prog hs64 64 = some tree64 := by kernel_rfl
theorem tree42_ok : xFun Tryz.prog hs42 42 = some tree42 := by kernel_rfl
theorem tree13_ok : xFun Tryz.prog hs13 13 = some tree13 := by kernel_rfl
theorem tree15_ok : xFun Tryz.prog hs15 15 = some tree15 := by kernel_rfl
theorem tree11_ok : xFun Tryz.prog hs11 11 = some tree11 := by kernel_rfl
theorem tree14_ok : xFun Tryz.prog hs14 14 = some tree14 := by kernel_rfl
theorem tree40_ok : xFun Tryz.prog hs40 40 = some tree40 := by kernel_rfl
theorem tree10_ok : xFun Tryz.prog hs10 10 = some tree10 := by kernel_rfl
theorem tree12_ok : xFun Tryz.prog hs12 12 = some tree12 := by kernel_rfl
theorem tree3_ok : xFun Tryz.prog hs3 3 = some tree3 := by kernel_rfl
theorem tree41_ok : xFun Tryz.prog hs41 41 = some tree41 := by kernel_rfl

end Go.Proofs.YteijagcoejgnpaaGreatDoor
