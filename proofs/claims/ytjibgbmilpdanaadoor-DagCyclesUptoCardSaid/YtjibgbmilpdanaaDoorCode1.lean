/-
  The code of the functions of a package, without numbers of functions.
-/
import Derived.Test.YtjibgbmilpdanaaDoorAe2

set_option linter.unusedSimpArgs false
set_option linter.unusedVariables false
set_option linter.unnecessarySimpa false

set_option maxRecDepth 100000
namespace Go.AE

def x_dag_Check (f_dag_limited f_dag_related f_dag_Upward f_tree_Check f_slices_ContainsFunc_Commit_Commit f_dag_Check_1 : Nat) : XC :=
  (.seq (.reg [⟨(.mv (.c (.int .i64 (0)))), (some 1), none, 0⟩] 0) (.seq (.block 0 (.seq (.reg [⟨(.mv (.v 0)), none, none, 0⟩, ⟨(.call f_dag_limited [(.l 0)]), none, none, 0⟩, ⟨(.un .not (.l 1)), none, none, 0⟩, ⟨(.mv (.l 2)), (some 4), none, 0⟩] 0) (.cond (.v 4) (.seq (.reg [⟨(.mv (.c (.int .i64 (1)))), (some 1), none, 0⟩] 0) .ret) (.seq (.reg [⟨(.mv (.v 0)), none, none, 0⟩, ⟨(.call f_dag_related [(.l 0)]), none, none, 0⟩, ⟨(.un .not (.l 1)), none, none, 0⟩, ⟨(.mv (.l 2)), (some 5), none, 0⟩] 0) (.cond (.v 5) (.seq (.reg [⟨(.mv (.c (.int .i64 (230)))), (some 1), none, 0⟩] 0) .ret) (.seq (.reg [⟨(.mv (.v 0)), none, none, 0⟩, ⟨(.call f_dag_Upward [(.l 0)]), none, none, 0⟩, ⟨(.len 1 (.l 1)), none, none, 0⟩, ⟨(.mv (.v 0)), none, none, 0⟩, ⟨(.len 1 (.l 3)), none, none, 0⟩, ⟨(.bin .lss (.l 2) (.l 4)), none, none, 0⟩, ⟨(.mv (.l 5)), (some 6), none, 0⟩] 0) (.cond (.v 6) (.seq (.reg [⟨(.mv (.c (.int .i64 (231)))), (some 1), none, 0⟩] 0) .ret) (.seq (.reg [⟨(.mv (.v 0)), none, none, 0⟩, ⟨(.rcall 0 f_slices_ContainsFunc_Commit_Commit [(.l 0), (.f f_dag_Check_1)]), none, none, 0⟩, ⟨(.mv (.l 1)), (some 7), none, 0⟩] 0) (.cond (.v 7) (.seq (.reg [⟨(.mv (.c (.int .i64 (3)))), (some 1), none, 0⟩] 0) .ret) .skip))))))))) (.seq (.seq (.reg [⟨(.mv (.v 0)), (some 8), none, 0⟩, ⟨(.len 1 (.v 8)), (some 9), none, 0⟩, ⟨(.mv (.c (.int .i64 (0)))), (some 10), none, 0⟩] 0) (.block 1 (.loop (.seq (.reg [⟨(.bin .lss (.v 10) (.v 9)), (some 11), none, 0⟩] 0) (.seq (.cond (.v 11) .skip (.exit 1)) (.seq (.block 2 (.seq (.reg [⟨(.iaddr 3 (.v 8) (.v 10)), none, none, 0⟩, ⟨(.load true 3 (.l 0)), none, none, 0⟩, ⟨(.alloc 3 (.agg [.nilsl, (.int .i64 (0)), .nilsl])), (some 2), none, 0⟩, ⟨(.store 3 (.v 2) (.l 1)), none, none, 1⟩] 1) (.seq (.reg [⟨(.faddr 2 (.v 2)), none, none, 0⟩, ⟨(.load false 1 (.l 0)), none, none, 0⟩, ⟨(.call f_tree_Check [(.l 1)]), none, none, 0⟩, ⟨(.mv (.l 2)), (some 3), none, 0⟩] 0) (.seq (.reg [⟨(.mv (.v 3)), none, none, 0⟩, ⟨(.bin .neq (.l 0) (.c (.int .i64 (0)))), (some 12), none, 0⟩] 0) (.cond (.v 12) (.seq (.reg [⟨(.mv (.v 3)), none, none, 0⟩, ⟨(.mv (.l 0)), (some 1), none, 0⟩] 0) .ret) .skip))))) (.reg [⟨(.bin .add (.v 10) (.c (.int .i64 (1)))), none, none, 0⟩, ⟨(.mv (.l 0)), (some 10), none, 0⟩] 0))))))) (.seq (.reg [⟨(.mv (.c (.int .i64 (0)))), (some 1), none, 0⟩] 0) .ret))))

def x_dag_Check_1 : XC :=
  (.seq (.reg [⟨(.box 3 (.v 0)), (some 1), none, 0⟩, ⟨(.mv (.c (.bool false))), (some 2), none, 1⟩] 1) (.seq (.reg [⟨(.faddr 1 (.v 1)), none, none, 0⟩, ⟨(.load false 1 (.l 0)), none, none, 0⟩, ⟨(.bin .lss (.l 1) (.c (.int .i64 (0)))), none, none, 0⟩, ⟨(.mv (.l 2)), none, none, 0⟩, ⟨(.faddr 1 (.v 1)), none, (some (3, false)), 0⟩, ⟨(.load false 1 (.l 4)), none, (some (3, false)), 0⟩, ⟨(.bin .gtr (.l 5) (.c (.int .i64 (2147483647)))), none, (some (3, false)), 0⟩, ⟨(.pick (.l 3) (.c (.bool true)) (.l 6)), none, none, 0⟩, ⟨(.mv (.l 7)), (some 2), none, 0⟩] 0) .ret))

def x_dag_Children (f_dag_Check f_dag_Is f_dag_where f_dag_Children_1 : Nat) : XC :=
  (.seq (.reg [⟨(.box 1 (.v 0)), (some 2), none, 0⟩, ⟨(.box 1 (.v 1)), (some 3), none, 1⟩, ⟨(.mv (.c .nilsl)), (some 4), none, 2⟩, ⟨(.mv (.c (.int .i64 (0)))), (some 5), none, 2⟩] 2) (.seq (.seq (.reg [⟨(.load false 1 (.v 2)), none, none, 0⟩, ⟨(.call f_dag_Check [(.l 0)]), none, none, 0⟩, ⟨(.mv (.l 1)), (some 6), none, 0⟩] 0) (.seq (.reg [⟨(.mv (.v 6)), none, none, 0⟩, ⟨(.bin .neq (.l 0) (.c (.int .i64 (0)))), (some 7), none, 0⟩] 0) (.cond (.v 7) (.seq (.reg [⟨(.mv (.v 6)), none, none, 0⟩, ⟨(.mv (.c .nilsl)), (some 4), none, 0⟩, ⟨(.mv (.l 0)), (some 5), none, 0⟩] 0) .ret) .skip))) (.seq (.seq (.reg [⟨(.load false 1 (.v 2)), none, none, 0⟩, ⟨(.load false 1 (.v 3)), none, none, 0⟩, ⟨(.call f_dag_Is [(.l 0), (.l 1)]), none, none, 0⟩, ⟨(.un .not (.l 2)), (some 8), none, 0⟩] 0) (.cond (.v 8) (.seq (.reg [⟨(.mv (.c .nilsl)), (some 4), none, 0⟩, ⟨(.mv (.c (.int .i64 (5)))), (some 5), none, 0⟩] 0) .ret) .skip)) (.seq (.reg [⟨(.load false 1 (.v 2)), none, none, 0⟩, ⟨(.mkfn (.func f_dag_Children_1) [] [(.v 2), (.v 3)]), none, none, 0⟩, ⟨(.rcall 0 f_dag_where [(.l 0), (.l 1)]), none, none, 0⟩, ⟨(.mv (.l 2)), (some 4), none, 0⟩, ⟨(.mv (.c (.int .i64 (0)))), (some 5), none, 0⟩] 0) .ret))))

def x_dag_Children_1 (f_slices_Contains_int_int : Nat) : XC :=
  (.seq (.reg [⟨(.mv (.c (.bool false))), (some 3), none, 0⟩] 0) (.seq (.regD [⟨(.load false 1 (.v 1)), none, none, 0⟩, ⟨(.mv (.v 0)), none, none, 0⟩, ⟨(.iaddr 3 (.l 0) (.l 1)), none, none, 0⟩, ⟨(.faddr 0 (.l 2)), none, none, 0⟩, ⟨(.load false 1 (.l 3)), none, none, 0⟩, ⟨(.load false 1 (.v 2)), none, none, 0⟩, ⟨(.call f_slices_Contains_int_int [(.l 4), (.l 5)]), none, none, 0⟩, ⟨(.mv (.l 6)), (some 3), none, 0⟩] 0 []) .ret))

def x_dag_Is : XC :=
  (.seq (.reg [⟨(.mv (.c (.bool false))), (some 2), none, 0⟩] 0) (.seq (.reg [⟨(.mv (.v 1)), none, none, 0⟩, ⟨(.bin .geq (.l 0) (.c (.int .i64 (0)))), none, none, 0⟩, ⟨(.mv (.l 1)), none, none, 0⟩, ⟨(.mv (.v 1)), none, (some (2, true)), 0⟩, ⟨(.mv (.v 0)), none, (some (2, true)), 0⟩, ⟨(.len 1 (.l 4)), none, (some (2, true)), 0⟩, ⟨(.bin .lss (.l 3) (.l 5)), none, (some (2, true)), 0⟩, ⟨(.pick (.l 2) (.l 6) (.c (.bool false))), none, none, 0⟩, ⟨(.mv (.l 7)), (some 2), none, 0⟩] 0) .ret))

def x_dag_Upward : XC :=
  (.seq (.reg [⟨(.mv (.c .nilsl)), (some 1), none, 0⟩] 0) (.seq (.reg [⟨(.mv (.v 0)), none, none, 0⟩, ⟨(.len 1 (.l 0)), none, none, 0⟩, ⟨(.mkslice 1 8 (.int .i64 (0)) (.l 1)), none, none, 0⟩, ⟨(.mv (.l 2)), (some 2), none, 1⟩] 1) (.seq (.seq (.reg [⟨(.mv (.v 0)), (some 10), none, 0⟩, ⟨(.len 1 (.v 10)), (some 11), none, 0⟩, ⟨(.mv (.c (.int .i64 (0)))), (some 12), none, 0⟩] 0) (.block 0 (.loop (.seq (.reg [⟨(.bin .lss (.v 12) (.v 11)), (some 13), none, 0⟩] 0) (.seq (.cond (.v 13) .skip (.exit 0)) (.seq (.block 1 (.seq (.reg [⟨(.iaddr 3 (.v 10) (.v 12)), none, none, 0⟩, ⟨(.load true 3 (.l 0)), none, none, 0⟩, ⟨(.alloc 3 (.agg [.nilsl, (.int .i64 (0)), .nilsl])), (some 3), none, 0⟩, ⟨(.store 3 (.v 3) (.l 1)), none, none, 1⟩] 1) (.seq (.reg [⟨(.faddr 0 (.v 3)), none, none, 0⟩, ⟨(.load false 1 (.l 0)), (some 14), none, 0⟩, ⟨(.len 1 (.v 14)), (some 15), none, 0⟩, ⟨(.mv (.c (.int .i64 (0)))), (some 16), none, 0⟩] 0) (.block 2 (.loop (.seq (.reg [⟨(.bin .lss (.v 16) (.v 15)), (some 17), none, 0⟩] 0) (.seq (.cond (.v 17) .skip (.exit 2)) (.seq (.block 3 (.seq (.reg [⟨(.iaddr 1 (.v 14) (.v 16)), none, none, 0⟩, ⟨(.load false 1 (.l 0)), none, none, 0⟩, ⟨(.mv (.l 1)), (some 4), none, 0⟩] 0) (.reg [⟨(.mv (.v 2)), none, none, 0⟩, ⟨(.mv (.v 4)), none, none, 0⟩, ⟨(.iaddr 1 (.l 0) (.l 1)), none, none, 0⟩, ⟨(.load false 1 (.l 2)), none, none, 0⟩, ⟨(.bin .add (.l 3) (.c (.int .i64 (1)))), none, none, 0⟩, ⟨(.iaddr 1 (.l 0) (.l 1)), none, none, 0⟩, ⟨(.store 1 (.l 5) (.l 4)), none, none, 0⟩] 0))) (.reg [⟨(.bin .add (.v 16) (.c (.int .i64 (1)))), none, none, 0⟩, ⟨(.mv (.l 0)), (some 16), none, 0⟩] 0))))))))) (.reg [⟨(.bin .add (.v 12) (.c (.int .i64 (1)))), none, none, 0⟩, ⟨(.mv (.l 0)), (some 12), none, 0⟩] 0))))))) (.seq (.reg [⟨(.grow 1), (some 5), none, 0⟩] 1) (.seq (.seq (.reg [⟨(.mv (.v 2)), (some 18), none, 0⟩, ⟨(.len 1 (.v 18)), (some 19), none, 0⟩, ⟨(.mv (.c (.int .i64 (0)))), (some 20), none, 0⟩] 0) (.block 4 (.loop (.seq (.reg [⟨(.bin .lss (.v 20) (.v 19)), (some 21), none, 0⟩] 0) (.seq (.cond (.v 21) .skip (.exit 4)) (.seq (.block 5 (.seq (.reg [⟨(.mv (.v 20)), none, none, 0⟩, ⟨(.iaddr 1 (.v 18) (.v 20)), none, none, 0⟩, ⟨(.load false 1 (.l 1)), none, none, 0⟩, ⟨(.mv (.l 0)), (some 6), none, 0⟩, ⟨(.mv (.l 2)), (some 7), none, 0⟩] 0) (.seq (.reg [⟨(.mv (.v 7)), none, none, 0⟩, ⟨(.bin .eql (.l 0) (.c (.int .i64 (0)))), (some 22), none, 0⟩] 0) (.cond (.v 22) (.reg [⟨(.mv (.v 5)), none, none, 0⟩, ⟨(.mv (.v 6)), none, none, 0⟩, ⟨(.sbuild 1 [(.l 1)]), none, none, 0⟩, ⟨(.append 1 8 (.l 0) (.l 2)), none, none, 0⟩, ⟨(.mv (.l 3)), (some 5), none, 1⟩] 1) .skip)))) (.reg [⟨(.bin .add (.v 20) (.c (.int .i64 (1)))), none, none, 0⟩, ⟨(.mv (.l 0)), (some 20), none, 0⟩] 0))))))) (.seq (.seq (.reg [⟨(.mv (.c (.int .i64 (0)))), (some 8), none, 0⟩] 0) (.block 6 (.loop (.seq (.seq (.reg [⟨(.mv (.v 8)), none, none, 0⟩, ⟨(.mv (.v 5)), none, none, 0⟩, ⟨(.len 1 (.l 1)), none, none, 0⟩, ⟨(.bin .lss (.l 0) (.l 2)), (some 23), none, 0⟩] 0) (.cond (.v 23) .skip (.exit 6))) (.seq (.block 7 (.seq (.reg [⟨(.mv (.v 0)), none, none, 0⟩, ⟨(.mv (.v 5)), none, none, 0⟩, ⟨(.mv (.v 8)), none, none, 0⟩, ⟨(.iaddr 1 (.l 1) (.l 2)), none, none, 0⟩, ⟨(.load false 1 (.l 3)), none, none, 0⟩, ⟨(.iaddr 3 (.l 0) (.l 4)), none, none, 0⟩, ⟨(.faddr 0 (.l 5)), none, none, 0⟩, ⟨(.load false 1 (.l 6)), (some 24), none, 0⟩, ⟨(.len 1 (.v 24)), (some 25), none, 0⟩, ⟨(.mv (.c (.int .i64 (0)))), (some 26), none, 0⟩] 0) (.block 8 (.loop (.seq (.reg [⟨(.bin .lss (.v 26) (.v 25)), (some 27), none, 0⟩] 0) (.seq (.cond (.v 27) .skip (.exit 8)) (.seq (.block 9 (.seq (.reg [⟨(.iaddr 1 (.v 24) (.v 26)), none, none, 0⟩, ⟨(.load false 1 (.l 0)), none, none, 0⟩, ⟨(.mv (.l 1)), (some 9), none, 0⟩] 0) (.seq (.reg [⟨(.mv (.v 2)), none, none, 0⟩, ⟨(.mv (.v 9)), none, none, 0⟩, ⟨(.iaddr 1 (.l 0) (.l 1)), none, none, 0⟩, ⟨(.load false 1 (.l 2)), none, none, 0⟩, ⟨(.bin .sub (.l 3) (.c (.int .i64 (1)))), none, none, 0⟩, ⟨(.iaddr 1 (.l 0) (.l 1)), none, none, 0⟩, ⟨(.store 1 (.l 5) (.l 4)), none, none, 0⟩] 0) (.seq (.reg [⟨(.mv (.v 2)), none, none, 0⟩, ⟨(.mv (.v 9)), none, none, 0⟩, ⟨(.iaddr 1 (.l 0) (.l 1)), none, none, 0⟩, ⟨(.load false 1 (.l 2)), none, none, 0⟩, ⟨(.bin .eql (.l 3) (.c (.int .i64 (0)))), (some 28), none, 0⟩] 0) (.cond (.v 28) (.reg [⟨(.mv (.v 5)), none, none, 0⟩, ⟨(.mv (.v 9)), none, none, 0⟩, ⟨(.sbuild 1 [(.l 1)]), none, none, 0⟩, ⟨(.append 1 8 (.l 0) (.l 2)), none, none, 0⟩, ⟨(.mv (.l 3)), (some 5), none, 1⟩] 1) .skip))))) (.reg [⟨(.bin .add (.v 26) (.c (.int .i64 (1)))), none, none, 0⟩, ⟨(.mv (.l 0)), (some 26), none, 0⟩] 0)))))))) (.reg [⟨(.mv (.v 8)), none, none, 0⟩, ⟨(.bin .add (.l 0) (.c (.int .i64 (1)))), none, none, 0⟩, ⟨(.mv (.l 1)), (some 8), none, 0⟩] 0)))))) (.seq (.reg [⟨(.mv (.v 5)), none, none, 0⟩, ⟨(.mv (.l 0)), (some 1), none, 0⟩] 0) .ret)))))))

def x_dag_limited (f_slices_ContainsFunc_Commit_Commit f_dag_limited_1 : Nat) : XC :=
  (.seq (.reg [⟨(.mv (.c (.bool false))), (some 1), none, 0⟩] 0) (.seq (.reg [⟨(.mv (.v 0)), none, none, 0⟩, ⟨(.len 1 (.l 0)), none, none, 0⟩, ⟨(.bin .leq (.l 1) (.c (.int .i64 (300)))), none, none, 0⟩, ⟨(.mv (.l 2)), none, none, 0⟩, ⟨(.mv (.v 0)), none, (some (3, true)), 0⟩, ⟨(.rcall 0 f_slices_ContainsFunc_Commit_Commit [(.l 4), (.f f_dag_limited_1)]), none, (some (3, true)), 0⟩, ⟨(.un .not (.l 5)), none, (some (3, true)), 0⟩, ⟨(.pick (.l 3) (.l 6) (.c (.bool false))), none, none, 0⟩, ⟨(.mv (.l 7)), (some 1), none, 0⟩] 0) .ret))

def x_dag_limited_1 : XC :=
  (.seq (.reg [⟨(.box 3 (.v 0)), (some 1), none, 0⟩, ⟨(.mv (.c (.bool false))), (some 2), none, 1⟩] 1) (.seq (.reg [⟨(.faddr 0 (.v 1)), none, none, 0⟩, ⟨(.load false 1 (.l 0)), none, none, 0⟩, ⟨(.len 1 (.l 1)), none, none, 0⟩, ⟨(.bin .gtr (.l 2) (.c (.int .i64 (32)))), none, none, 0⟩, ⟨(.mv (.l 3)), (some 2), none, 0⟩] 0) .ret))

def x_dag_related (f_slices_Contains_int_int : Nat) : XC :=
  (.seq (.reg [⟨(.mv (.c (.bool false))), (some 1), none, 0⟩] 0) (.seq (.seq (.reg [⟨(.mv (.v 0)), (some 5), none, 0⟩, ⟨(.len 1 (.v 5)), (some 6), none, 0⟩, ⟨(.mv (.c (.int .i64 (0)))), (some 7), none, 0⟩] 0) (.block 0 (.loop (.seq (.reg [⟨(.bin .lss (.v 7) (.v 6)), (some 8), none, 0⟩] 0) (.seq (.cond (.v 8) .skip (.exit 0)) (.seq (.block 1 (.seq (.reg [⟨(.iaddr 3 (.v 5) (.v 7)), none, none, 0⟩, ⟨(.load true 3 (.l 0)), none, none, 0⟩, ⟨(.alloc 3 (.agg [.nilsl, (.int .i64 (0)), .nilsl])), (some 2), none, 0⟩, ⟨(.store 3 (.v 2) (.l 1)), none, none, 1⟩] 1) (.seq (.reg [⟨(.faddr 0 (.v 2)), none, none, 0⟩, ⟨(.load false 1 (.l 0)), (some 9), none, 0⟩, ⟨(.len 1 (.v 9)), (some 10), none, 0⟩, ⟨(.mv (.c (.int .i64 (0)))), (some 11), none, 0⟩] 0) (.block 2 (.loop (.seq (.reg [⟨(.bin .lss (.v 11) (.v 10)), (some 12), none, 0⟩] 0) (.seq (.cond (.v 12) .skip (.exit 2)) (.seq (.block 3 (.seq (.reg [⟨(.mv (.v 11)), none, none, 0⟩, ⟨(.iaddr 1 (.v 9) (.v 11)), none, none, 0⟩, ⟨(.load false 1 (.l 1)), none, none, 0⟩, ⟨(.mv (.l 0)), (some 3), none, 0⟩, ⟨(.mv (.l 2)), (some 4), none, 0⟩] 0) (.seq (.reg [⟨(.mv (.v 4)), none, none, 0⟩, ⟨(.bin .lss (.l 0) (.c (.int .i64 (0)))), none, none, 0⟩, ⟨(.mv (.l 1)), none, none, 0⟩, ⟨(.mv (.v 4)), none, (some (2, false)), 0⟩, ⟨(.mv (.v 0)), none, (some (2, false)), 0⟩, ⟨(.len 1 (.l 4)), none, (some (2, false)), 0⟩, ⟨(.bin .geq (.l 3) (.l 5)), none, (some (2, false)), 0⟩, ⟨(.pick (.l 2) (.c (.bool true)) (.l 6)), none, none, 0⟩, ⟨(.mv (.l 7)), none, none, 0⟩, ⟨(.faddr 0 (.v 2)), none, (some (8, false)), 0⟩, ⟨(.load false 1 (.l 9)), none, (some (8, false)), 0⟩, ⟨(.mv (.v 3)), none, (some (8, false)), 0⟩, ⟨(.slice false 1 (.l 10) none (some (.l 11)) none), none, (some (8, false)), 0⟩, ⟨(.mv (.v 4)), none, (some (8, false)), 0⟩, ⟨(.call f_slices_Contains_int_int [(.l 12), (.l 13)]), none, (some (8, false)), 0⟩, ⟨(.pick (.l 8) (.c (.bool true)) (.l 14)), (some 13), none, 0⟩] 0) (.cond (.v 13) (.seq (.reg [⟨(.mv (.c (.bool false))), (some 1), none, 0⟩] 0) .ret) .skip)))) (.reg [⟨(.bin .add (.v 11) (.c (.int .i64 (1)))), none, none, 0⟩, ⟨(.mv (.l 0)), (some 11), none, 0⟩] 0))))))))) (.reg [⟨(.bin .add (.v 7) (.c (.int .i64 (1)))), none, none, 0⟩, ⟨(.mv (.l 0)), (some 7), none, 0⟩] 0))))))) (.seq (.reg [⟨(.mv (.c (.bool true))), (some 1), none, 0⟩] 0) .ret)))

def x_dag_where : XC :=
  (.seq (.reg [⟨(.mv (.c .nilsl)), (some 2), none, 0⟩] 0) (.seq (.reg [⟨(.grow 1), (some 3), none, 0⟩] 1) (.seq (.seq (.reg [⟨(.mv (.v 0)), none, none, 0⟩, ⟨(.len 1 (.l 0)), (some 5), none, 0⟩, ⟨(.mv (.c (.int .i64 (0)))), (some 6), none, 0⟩] 0) (.seq (.block 0 (.loop (.seq (.reg [⟨(.bin .lss (.v 6) (.v 5)), (some 7), none, 0⟩] 0) (.seq (.cond (.v 7) .skip (.exit 0)) (.seq (.block 1 (.seq (.reg [⟨(.mv (.v 6)), none, none, 0⟩, ⟨(.mv (.l 0)), (some 4), none, 0⟩] 0) (.seq (.reg [⟨(.mv (.v 1)), none, none, 0⟩, ⟨(.mv (.v 4)), none, none, 0⟩, ⟨(.callv (.l 0) [(.l 1)]), (some 8), none, 0⟩] 0) (.cond (.v 8) (.reg [⟨(.mv (.v 3)), none, none, 0⟩, ⟨(.mv (.v 4)), none, none, 0⟩, ⟨(.sbuild 1 [(.l 1)]), none, none, 0⟩, ⟨(.append 1 8 (.l 0) (.l 2)), none, none, 0⟩, ⟨(.mv (.l 3)), (some 3), none, 1⟩] 1) .skip)))) (.reg [⟨(.bin .add (.v 6) (.c (.int .i64 (1)))), none, none, 0⟩, ⟨(.mv (.l 0)), (some 6), none, 0⟩] 0)))))) .hint)) (.seq (.reg [⟨(.mv (.v 3)), none, none, 0⟩, ⟨(.mv (.l 0)), (some 2), none, 0⟩] 0) .ret))))

end Go.AE

set_option maxRecDepth 100000
namespace Go.AE

def x_gen_At : XC :=
  (.seq (.reg [⟨(.mv (.c (.int .i64 (0)))), (some 2), none, 0⟩] 0) (.seq (.reg [⟨(.mv (.v 1)), none, none, 0⟩, ⟨(.bin .add (.l 0) (.c (.int .i64 (1)))), none, none, 0⟩, ⟨(.conv .u64 (.l 1)), none, none, 0⟩, ⟨(.bin .mul (.l 2) (.c (.int .u64 (11400714819323198485)))), none, none, 0⟩, ⟨(.mv (.l 3)), (some 3), none, 0⟩] 0) (.seq (.seq (.reg [⟨(.mv (.v 0)), none, none, 0⟩, ⟨(.len 1 (.l 0)), none, none, 0⟩, ⟨(.bin .gtr (.l 1) (.c (.int .i64 (0)))), (some 4), none, 0⟩] 0) (.cond (.v 4) (.reg [⟨(.mv (.v 3)), none, none, 0⟩, ⟨(.mv (.v 0)), none, none, 0⟩, ⟨(.mv (.v 1)), none, none, 0⟩, ⟨(.mv (.v 0)), none, none, 0⟩, ⟨(.len 1 (.l 3)), none, none, 0⟩, ⟨(.bin .rem (.l 2) (.l 4)), none, none, 0⟩, ⟨(.iaddr 1 (.l 1) (.l 5)), none, none, 0⟩, ⟨(.load false 1 (.l 6)), none, none, 0⟩, ⟨(.conv .u64 (.l 7)), none, none, 0⟩, ⟨(.bin .xor (.l 0) (.l 8)), none, none, 0⟩, ⟨(.mv (.l 9)), (some 3), none, 0⟩] 0) .skip)) (.seq (.reg [⟨(.mv (.v 3)), none, none, 0⟩, ⟨(.mv (.v 3)), none, none, 0⟩, ⟨(.bin .shr (.l 1) (.c (.int .u64 (31)))), none, none, 0⟩, ⟨(.bin .xor (.l 0) (.l 2)), none, none, 0⟩, ⟨(.bin .mul (.l 3) (.c (.int .u64 (13787848793156543929)))), none, none, 0⟩, ⟨(.mv (.l 4)), (some 3), none, 0⟩] 0) (.seq (.reg [⟨(.mv (.v 3)), none, none, 0⟩, ⟨(.mv (.v 3)), none, none, 0⟩, ⟨(.bin .shr (.l 1) (.c (.int .u64 (29)))), none, none, 0⟩, ⟨(.bin .xor (.l 0) (.l 2)), none, none, 0⟩, ⟨(.bin .shr (.l 3) (.c (.int .u64 (1)))), none, none, 0⟩, ⟨(.conv .i64 (.l 4)), none, none, 0⟩, ⟨(.mv (.l 5)), (some 2), none, 0⟩] 0) .ret)))))

def x_gen_Ints : XC :=
  (.seq (.reg [⟨(.mv (.c (.bool false))), (some 2), none, 0⟩] 0) (.seq (.seq (.reg [⟨(.mv (.v 0)), none, none, 0⟩, ⟨(.len 1 (.l 0)), none, none, 0⟩, ⟨(.mv (.v 1)), none, none, 0⟩, ⟨(.len 1 (.l 2)), none, none, 0⟩, ⟨(.bin .neq (.l 1) (.l 3)), (some 4), none, 0⟩] 0) (.cond (.v 4) (.seq (.reg [⟨(.mv (.c (.bool false))), (some 2), none, 0⟩] 0) .ret) .skip)) (.seq (.seq (.reg [⟨(.mv (.c (.int .i64 (0)))), (some 3), none, 0⟩] 0) (.block 0 (.loop (.seq (.seq (.reg [⟨(.mv (.v 3)), none, none, 0⟩, ⟨(.mv (.v 0)), none, none, 0⟩, ⟨(.len 1 (.l 1)), none, none, 0⟩, ⟨(.bin .lss (.l 0) (.l 2)), (some 5), none, 0⟩] 0) (.cond (.v 5) .skip (.exit 0))) (.seq (.block 1 (.seq (.regD [⟨(.mv (.v 0)), none, none, 0⟩, ⟨(.mv (.v 3)), none, none, 0⟩, ⟨(.iaddr 1 (.l 0) (.l 1)), none, none, 0⟩, ⟨(.load false 1 (.l 2)), none, none, 0⟩, ⟨(.mv (.v 1)), none, none, 0⟩, ⟨(.mv (.v 3)), none, none, 0⟩, ⟨(.iaddr 1 (.l 4) (.l 5)), none, none, 0⟩, ⟨(.load false 1 (.l 6)), none, none, 0⟩, ⟨(.bin .neq (.l 3) (.l 7)), (some 6), none, 0⟩] 0 []) (.cond (.v 6) (.seq (.reg [⟨(.mv (.c (.bool false))), (some 2), none, 0⟩] 0) .ret) .skip))) (.reg [⟨(.mv (.v 3)), none, none, 0⟩, ⟨(.bin .add (.l 0) (.c (.int .i64 (1)))), none, none, 0⟩, ⟨(.mv (.l 1)), (some 3), none, 0⟩] 0)))))) (.seq (.reg [⟨(.mv (.c (.bool true))), (some 2), none, 0⟩] 0) .ret))))

def x_gen_Mod : XC :=
  (.seq (.reg [⟨(.mv (.c (.int .i64 (0)))), (some 2), none, 0⟩] 0) (.seq (.reg [⟨(.mv (.v 0)), none, none, 0⟩, ⟨(.conv .u64 (.l 0)), none, none, 0⟩, ⟨(.mv (.v 1)), none, none, 0⟩, ⟨(.conv .u64 (.l 2)), none, none, 0⟩, ⟨(.bin .rem (.l 1) (.l 3)), none, none, 0⟩, ⟨(.conv .i64 (.l 4)), none, none, 0⟩, ⟨(.mv (.l 5)), (some 2), none, 0⟩] 0) .ret))

end Go.AE

set_option maxRecDepth 100000
namespace Go.AE

def x_law23_DagCycles (f_gen_Mod f_gen_At f_dag_Check f_law23_awake : Nat) : XC :=
  (.seq (.reg [⟨(.mv (.c (.bool false))), (some 4), none, 0⟩] 0) (.seq (.reg [⟨(.mv (.v 1)), none, none, 0⟩, ⟨(.call f_gen_Mod [(.l 0), (.c (.int .i64 (8)))]), none, none, 0⟩, ⟨(.bin .add (.c (.int .i64 (2))) (.l 1)), none, none, 0⟩, ⟨(.mv (.l 2)), (some 1), none, 0⟩] 0) (.seq (.reg [⟨(.mv (.c .nilsl)), (some 5), none, 0⟩] 0) (.seq (.seq (.reg [⟨(.mv (.c (.int .i64 (0)))), (some 6), none, 0⟩] 0) (.block 0 (.loop (.seq (.seq (.reg [⟨(.mv (.v 6)), none, none, 0⟩, ⟨(.mv (.v 1)), none, none, 0⟩, ⟨(.bin .lss (.l 0) (.l 1)), (some 10), none, 0⟩] 0) (.cond (.v 10) .skip (.exit 0))) (.seq (.block 1 (.seq (.reg [⟨(.build [.nilsl, (.int .i64 (0)), .nilsl] []), none, none, 0⟩, ⟨(.alloc 3 (.agg [.nilsl, (.int .i64 (0)), .nilsl])), (some 7), none, 0⟩, ⟨(.store 3 (.v 7) (.l 0)), none, none, 1⟩] 1) (.seq (.seq (.reg [⟨(.mv (.v 6)), none, none, 0⟩, ⟨(.bin .gtr (.l 0) (.c (.int .i64 (0)))), (some 11), none, 0⟩] 0) (.cond (.v 11) (.reg [⟨(.mv (.v 0)), none, none, 0⟩, ⟨(.mv (.v 6)), none, none, 0⟩, ⟨(.call f_gen_At [(.l 0), (.l 1)]), none, none, 0⟩, ⟨(.mv (.v 6)), none, none, 0⟩, ⟨(.call f_gen_Mod [(.l 2), (.l 3)]), none, none, 0⟩, ⟨(.sbuild 1 [(.l 4)]), none, none, 0⟩, ⟨(.faddr 0 (.v 7)), none, none, 0⟩, ⟨(.store 1 (.l 6) (.l 5)), none, none, 0⟩] 0) .skip)) (.reg [⟨(.mv (.v 5)), none, none, 0⟩, ⟨(.load true 3 (.v 7)), none, none, 0⟩, ⟨(.sbuild 3 [(.l 1)]), none, none, 0⟩, ⟨(.append 3 56 (.l 0) (.l 2)), none, none, 0⟩, ⟨(.mv (.l 3)), (some 5), none, 1⟩] 1)))) (.reg [⟨(.mv (.v 6)), none, none, 0⟩, ⟨(.bin .add (.l 0) (.c (.int .i64 (1)))), none, none, 0⟩, ⟨(.mv (.l 1)), (some 6), none, 0⟩] 0)))))) (.seq (.seq (.reg [⟨(.mv (.v 5)), none, none, 0⟩, ⟨(.call f_dag_Check [(.l 0)]), none, none, 0⟩, ⟨(.bin .neq (.l 1) (.c (.int .i64 (0)))), (some 12), none, 0⟩] 0) (.cond (.v 12) (.seq (.reg [⟨(.mv (.c (.bool false))), (some 4), none, 0⟩] 0) .ret) .skip)) (.seq (.reg [⟨(.mv (.v 2)), none, none, 0⟩, ⟨(.mv (.v 1)), none, none, 0⟩, ⟨(.call f_gen_Mod [(.l 0), (.l 1)]), none, none, 0⟩, ⟨(.mv (.l 2)), (some 2), none, 0⟩] 0) (.seq (.reg [⟨(.mv (.v 2)), none, none, 0⟩, ⟨(.mv (.l 0)), (some 8), none, 0⟩] 0) (.seq (.block 2 (.loop (.seq (.seq (.reg [⟨(.mv (.v 8)), none, none, 0⟩, ⟨(.bin .gtr (.l 0) (.c (.int .i64 (0)))), none, none, 0⟩, ⟨(.mv (.l 1)), none, none, 0⟩, ⟨(.mv (.v 3)), none, (some (2, true)), 0⟩, ⟨(.len 1 (.l 3)), none, (some (2, true)), 0⟩, ⟨(.bin .gtr (.l 4) (.c (.int .i64 (0)))), none, (some (2, true)), 0⟩, ⟨(.pick (.l 2) (.l 5) (.c (.bool false))), (some 13), none, 0⟩] 0) (.cond (.v 13) .skip (.exit 2))) (.block 3 (.seq (.reg [⟨(.mv (.v 5)), none, none, 0⟩, ⟨(.mv (.v 8)), none, none, 0⟩, ⟨(.iaddr 3 (.l 0) (.l 1)), none, none, 0⟩, ⟨(.faddr 0 (.l 2)), none, none, 0⟩, ⟨(.load false 1 (.l 3)), none, none, 0⟩, ⟨(.iaddr 1 (.l 4) (.c (.int .i64 (0)))), none, none, 0⟩, ⟨(.load false 1 (.l 5)), none, none, 0⟩, ⟨(.mv (.l 6)), (some 8), none, 0⟩] 0) (.reg [⟨(.mv (.v 3)), none, none, 0⟩, ⟨(.slice false 1 (.l 0) (some (.c (.int .i64 (1)))) none none), none, none, 0⟩, ⟨(.mv (.l 1)), (some 3), none, 0⟩] 0)))))) (.seq (.reg [⟨(.mv (.v 5)), none, none, 0⟩, ⟨(.mv (.v 8)), none, none, 0⟩, ⟨(.grow 1), none, none, 0⟩, ⟨(.mv (.v 5)), none, none, 1⟩, ⟨(.mv (.v 8)), none, none, 1⟩, ⟨(.iaddr 3 (.l 3) (.l 4)), none, none, 1⟩, ⟨(.faddr 0 (.l 5)), none, none, 1⟩, ⟨(.load false 1 (.l 6)), none, none, 1⟩, ⟨(.append 1 8 (.l 2) (.l 7)), none, none, 1⟩, ⟨(.mv (.v 2)), none, none, 2⟩, ⟨(.sbuild 1 [(.l 9)]), none, none, 2⟩, ⟨(.append 1 8 (.l 8) (.l 10)), none, none, 2⟩, ⟨(.iaddr 3 (.l 0) (.l 1)), none, none, 3⟩, ⟨(.faddr 0 (.l 12)), none, none, 3⟩, ⟨(.store 1 (.l 13) (.l 11)), none, none, 3⟩] 3) (.seq (.reg [⟨(.mv (.v 5)), none, none, 0⟩, ⟨(.call f_dag_Check [(.l 0)]), none, none, 0⟩, ⟨(.mv (.l 1)), (some 9), none, 0⟩] 0) (.seq (.seq (.reg [⟨(.mv (.v 5)), none, none, 0⟩, ⟨(.mv (.v 8)), none, none, 0⟩, ⟨(.iaddr 3 (.l 0) (.l 1)), none, none, 0⟩, ⟨(.faddr 0 (.l 2)), none, none, 0⟩, ⟨(.load false 1 (.l 3)), none, none, 0⟩, ⟨(.len 1 (.l 4)), none, none, 0⟩, ⟨(.bin .eql (.l 5) (.c (.int .i64 (2)))), none, none, 0⟩, ⟨(.mv (.l 6)), none, none, 0⟩, ⟨(.mv (.v 5)), none, (some (7, true)), 0⟩, ⟨(.mv (.v 8)), none, (some (7, true)), 0⟩, ⟨(.iaddr 3 (.l 8) (.l 9)), none, (some (7, true)), 0⟩, ⟨(.faddr 0 (.l 10)), none, (some (7, true)), 0⟩, ⟨(.load false 1 (.l 11)), none, (some (7, true)), 0⟩, ⟨(.iaddr 1 (.l 12) (.c (.int .i64 (0)))), none, (some (7, true)), 0⟩, ⟨(.load false 1 (.l 13)), none, (some (7, true)), 0⟩, ⟨(.mv (.v 2)), none, (some (7, true)), 0⟩, ⟨(.bin .eql (.l 14) (.l 15)), none, (some (7, true)), 0⟩, ⟨(.pick (.l 7) (.l 16) (.c (.bool false))), (some 14), none, 0⟩] 0) (.cond (.v 14) (.seq (.reg [⟨(.mv (.v 9)), none, none, 0⟩, ⟨(.bin .eql (.l 0) (.c (.int .i64 (230)))), none, none, 0⟩, ⟨(.mv (.l 1)), none, none, 0⟩, ⟨(.call f_law23_awake []), none, (some (2, true)), 0⟩, ⟨(.pick (.l 2) (.l 3) (.c (.bool false))), none, none, 0⟩, ⟨(.mv (.l 4)), (some 4), none, 0⟩] 0) .ret) .skip)) (.seq (.reg [⟨(.mv (.v 9)), none, none, 0⟩, ⟨(.bin .eql (.l 0) (.c (.int .i64 (231)))), none, none, 0⟩, ⟨(.mv (.l 1)), none, none, 0⟩, ⟨(.call f_law23_awake []), none, (some (2, true)), 0⟩, ⟨(.pick (.l 2) (.l 3) (.c (.bool false))), none, none, 0⟩, ⟨(.mv (.l 4)), (some 4), none, 0⟩] 0) .ret))))))))))))

def x_law23_awake (f_dag_Children f_dag_Check f_gen_Ints : Nat) : XC :=
  (.seq (.reg [⟨(.mv (.c (.bool false))), (some 0), none, 0⟩] 0) (.seq (.reg [⟨(.sbuild 1 [(.c (.int .i64 (1)))]), none, none, 0⟩, ⟨(.build [.nilsl, (.int .i64 (0)), .nilsl] [(0, (1, (.l 0)))]), none, none, 0⟩, ⟨(.sbuild 1 [(.c (.int .i64 (0)))]), none, none, 0⟩, ⟨(.build [.nilsl, (.int .i64 (0)), .nilsl] [(0, (1, (.l 2)))]), none, none, 0⟩, ⟨(.sbuild 3 [(.l 1), (.l 3)]), none, none, 0⟩, ⟨(.mv (.l 4)), (some 1), none, 0⟩] 0) (.seq (.reg [⟨(.build [.nilsl, (.int .i64 (0)), .nilsl] []), none, none, 0⟩, ⟨(.sbuild 1 [(.c (.int .i64 (0)))]), none, none, 0⟩, ⟨(.build [.nilsl, (.int .i64 (0)), .nilsl] [(0, (1, (.l 1)))]), none, none, 0⟩, ⟨(.sbuild 3 [(.l 0), (.l 2)]), none, none, 0⟩, ⟨(.mv (.l 3)), (some 2), none, 0⟩] 0) (.seq (.reg [⟨(.mv (.v 2)), none, none, 0⟩, ⟨(.call f_dag_Children [(.l 0), (.c (.int .i64 (0)))]), none, none, 0⟩, ⟨(.mv (.l 1)), none, none, 0⟩, ⟨(.extract (.l 2) 0), none, none, 0⟩, ⟨(.extract (.l 2) 1), none, none, 0⟩, ⟨(.mv (.l 3)), (some 3), none, 0⟩, ⟨(.mv (.l 4)), (some 4), none, 0⟩] 0) (.seq (.reg [⟨(.mv (.v 1)), none, none, 0⟩, ⟨(.call f_dag_Check [(.l 0)]), none, none, 0⟩, ⟨(.bin .eql (.l 1) (.c (.int .i64 (231)))), none, none, 0⟩, ⟨(.mv (.l 2)), none, none, 0⟩, ⟨(.sbuild 1 [(.c (.int .i64 (0)))]), none, (some (3, true)), 0⟩, ⟨(.build [.nilsl, (.int .i64 (0)), .nilsl] [(0, (1, (.l 4)))]), none, (some (3, true)), 0⟩, ⟨(.sbuild 3 [(.l 5)]), none, (some (3, true)), 0⟩, ⟨(.call f_dag_Check [(.l 6)]), none, (some (3, true)), 0⟩, ⟨(.bin .eql (.l 7) (.c (.int .i64 (231)))), none, (some (3, true)), 0⟩, ⟨(.pick (.l 3) (.l 8) (.c (.bool false))), none, none, 0⟩, ⟨(.mv (.l 9)), none, none, 0⟩, ⟨(.mv (.v 2)), none, (some (10, true)), 0⟩, ⟨(.call f_dag_Check [(.l 11)]), none, (some (10, true)), 0⟩, ⟨(.bin .eql (.l 12) (.c (.int .i64 (0)))), none, (some (10, true)), 0⟩, ⟨(.pick (.l 10) (.l 13) (.c (.bool false))), none, none, 0⟩, ⟨(.mv (.l 14)), none, none, 0⟩, ⟨(.mv (.v 4)), none, (some (15, true)), 0⟩, ⟨(.bin .eql (.l 16) (.c (.int .i64 (0)))), none, (some (15, true)), 0⟩, ⟨(.pick (.l 15) (.l 17) (.c (.bool false))), none, none, 0⟩, ⟨(.mv (.l 18)), none, none, 0⟩, ⟨(.mv (.v 3)), none, (some (19, true)), 0⟩, ⟨(.sbuild 1 [(.c (.int .i64 (1)))]), none, (some (19, true)), 0⟩, ⟨(.call f_gen_Ints [(.l 20), (.l 21)]), none, (some (19, true)), 0⟩, ⟨(.pick (.l 19) (.l 22) (.c (.bool false))), none, none, 0⟩, ⟨(.mv (.l 23)), (some 0), none, 0⟩] 0) .ret)))))

end Go.AE

set_option maxRecDepth 100000
namespace Go.AE

def x_slices_ContainsFunc_Commit_Commit (f_slices_IndexFunc_Commit_Commit : Nat) : XC :=
  (.seq (.reg [⟨(.mv (.c (.bool false))), (some 2), none, 0⟩] 0) (.seq (.reg [⟨(.mv (.v 0)), none, none, 0⟩, ⟨(.mv (.v 1)), none, none, 0⟩, ⟨(.rcall 0 f_slices_IndexFunc_Commit_Commit [(.l 0), (.l 1)]), none, none, 0⟩, ⟨(.bin .geq (.l 2) (.c (.int .i64 (0)))), none, none, 0⟩, ⟨(.mv (.l 3)), (some 2), none, 0⟩] 0) .ret))

def x_slices_ContainsFunc_File_File (f_slices_IndexFunc_File_File : Nat) : XC :=
  (.seq (.reg [⟨(.mv (.c (.bool false))), (some 2), none, 0⟩] 0) (.seq (.reg [⟨(.mv (.v 0)), none, none, 0⟩, ⟨(.mv (.v 1)), none, none, 0⟩, ⟨(.rcall 0 f_slices_IndexFunc_File_File [(.l 0), (.l 1)]), none, none, 0⟩, ⟨(.bin .geq (.l 2) (.c (.int .i64 (0)))), none, none, 0⟩, ⟨(.mv (.l 3)), (some 2), none, 0⟩] 0) .ret))

def x_slices_Contains_int_int (f_slices_Index_int_int : Nat) : XC :=
  (.seq (.reg [⟨(.mv (.c (.bool false))), (some 2), none, 0⟩] 0) (.seq (.reg [⟨(.mv (.v 0)), none, none, 0⟩, ⟨(.mv (.v 1)), none, none, 0⟩, ⟨(.call f_slices_Index_int_int [(.l 0), (.l 1)]), none, none, 0⟩, ⟨(.bin .geq (.l 2) (.c (.int .i64 (0)))), none, none, 0⟩, ⟨(.mv (.l 3)), (some 2), none, 0⟩] 0) .ret))

def x_slices_IndexFunc_Commit_Commit : XC :=
  (.seq (.reg [⟨(.mv (.c (.int .i64 (0)))), (some 2), none, 0⟩] 0) (.seq (.seq (.reg [⟨(.mv (.v 0)), none, none, 0⟩, ⟨(.len 1 (.l 0)), (some 4), none, 0⟩, ⟨(.mv (.c (.int .i64 (0)))), (some 5), none, 0⟩] 0) (.block 0 (.loop (.seq (.reg [⟨(.bin .lss (.v 5) (.v 4)), (some 6), none, 0⟩] 0) (.seq (.cond (.v 6) .skip (.exit 0)) (.seq (.block 1 (.seq (.reg [⟨(.mv (.v 5)), none, none, 0⟩, ⟨(.mv (.l 0)), (some 3), none, 0⟩] 0) (.seq (.reg [⟨(.mv (.v 1)), none, none, 0⟩, ⟨(.mv (.v 0)), none, none, 0⟩, ⟨(.mv (.v 3)), none, none, 0⟩, ⟨(.iaddr 3 (.l 1) (.l 2)), none, none, 0⟩, ⟨(.load true 3 (.l 3)), none, none, 0⟩, ⟨(.callv (.l 0) [(.l 4)]), (some 7), none, 0⟩] 0) (.cond (.v 7) (.seq (.reg [⟨(.mv (.v 3)), none, none, 0⟩, ⟨(.mv (.l 0)), (some 2), none, 0⟩] 0) .ret) .skip)))) (.reg [⟨(.bin .add (.v 5) (.c (.int .i64 (1)))), none, none, 0⟩, ⟨(.mv (.l 0)), (some 5), none, 0⟩] 0))))))) (.seq (.reg [⟨(.mv (.c (.int .i64 (-1)))), (some 2), none, 0⟩] 0) .ret)))

def x_slices_IndexFunc_File_File : XC :=
  (.seq (.reg [⟨(.mv (.c (.int .i64 (0)))), (some 2), none, 0⟩] 0) (.seq (.seq (.reg [⟨(.mv (.v 0)), none, none, 0⟩, ⟨(.len 1 (.l 0)), (some 4), none, 0⟩, ⟨(.mv (.c (.int .i64 (0)))), (some 5), none, 0⟩] 0) (.block 0 (.loop (.seq (.reg [⟨(.bin .lss (.v 5) (.v 4)), (some 6), none, 0⟩] 0) (.seq (.cond (.v 6) .skip (.exit 0)) (.seq (.block 1 (.seq (.reg [⟨(.mv (.v 5)), none, none, 0⟩, ⟨(.mv (.l 0)), (some 3), none, 0⟩] 0) (.seq (.reg [⟨(.mv (.v 1)), none, none, 0⟩, ⟨(.mv (.v 0)), none, none, 0⟩, ⟨(.mv (.v 3)), none, none, 0⟩, ⟨(.iaddr 2 (.l 1) (.l 2)), none, none, 0⟩, ⟨(.load true 2 (.l 3)), none, none, 0⟩, ⟨(.callv (.l 0) [(.l 4)]), (some 7), none, 0⟩] 0) (.cond (.v 7) (.seq (.reg [⟨(.mv (.v 3)), none, none, 0⟩, ⟨(.mv (.l 0)), (some 2), none, 0⟩] 0) .ret) .skip)))) (.reg [⟨(.bin .add (.v 5) (.c (.int .i64 (1)))), none, none, 0⟩, ⟨(.mv (.l 0)), (some 5), none, 0⟩] 0))))))) (.seq (.reg [⟨(.mv (.c (.int .i64 (-1)))), (some 2), none, 0⟩] 0) .ret)))

def x_slices_Index_int_int : XC :=
  (.seq (.reg [⟨(.mv (.c (.int .i64 (0)))), (some 2), none, 0⟩] 0) (.seq (.seq (.reg [⟨(.mv (.v 0)), none, none, 0⟩, ⟨(.len 1 (.l 0)), (some 4), none, 0⟩, ⟨(.mv (.c (.int .i64 (0)))), (some 5), none, 0⟩] 0) (.block 0 (.loop (.seq (.reg [⟨(.bin .lss (.v 5) (.v 4)), (some 6), none, 0⟩] 0) (.seq (.cond (.v 6) .skip (.exit 0)) (.seq (.block 1 (.seq (.reg [⟨(.mv (.v 5)), none, none, 0⟩, ⟨(.mv (.l 0)), (some 3), none, 0⟩] 0) (.seq (.reg [⟨(.mv (.v 1)), none, none, 0⟩, ⟨(.mv (.v 0)), none, none, 0⟩, ⟨(.mv (.v 3)), none, none, 0⟩, ⟨(.iaddr 1 (.l 1) (.l 2)), none, none, 0⟩, ⟨(.load false 1 (.l 3)), none, none, 0⟩, ⟨(.bin .eql (.l 0) (.l 4)), (some 7), none, 0⟩] 0) (.cond (.v 7) (.seq (.reg [⟨(.mv (.v 3)), none, none, 0⟩, ⟨(.mv (.l 0)), (some 2), none, 0⟩] 0) .ret) .skip)))) (.reg [⟨(.bin .add (.v 5) (.c (.int .i64 (1)))), none, none, 0⟩, ⟨(.mv (.l 0)), (some 5), none, 0⟩] 0))))))) (.seq (.reg [⟨(.mv (.c (.int .i64 (-1)))), (some 2), none, 0⟩] 0) .ret)))

end Go.AE

set_option maxRecDepth 100000
namespace Go.AE

end Go.AE

set_option maxRecDepth 100000
namespace Go.AE

def x_tree_Check (f_tree_ordered f_slices_ContainsFunc_File_File f_tree_Check_1 f_tree_Check_2 : Nat) : XC :=
  (.seq (.reg [⟨(.mv (.c (.int .i64 (0)))), (some 1), none, 0⟩] 0) (.seq (.block 0 (.seq (.reg [⟨(.mv (.v 0)), none, none, 0⟩, ⟨(.len 1 (.l 0)), none, none, 0⟩, ⟨(.bin .gtr (.l 1) (.c (.int .i64 (200)))), none, none, 0⟩, ⟨(.mv (.l 2)), (some 2), none, 0⟩] 0) (.cond (.v 2) (.seq (.reg [⟨(.mv (.c (.int .i64 (1)))), (some 1), none, 0⟩] 0) .ret) (.seq (.reg [⟨(.mv (.v 0)), none, none, 0⟩, ⟨(.rcall 0 f_slices_ContainsFunc_File_File [(.l 0), (.f f_tree_Check_1)]), none, none, 0⟩, ⟨(.mv (.l 1)), (some 3), none, 0⟩] 0) (.cond (.v 3) (.seq (.reg [⟨(.mv (.c (.int .i64 (210)))), (some 1), none, 0⟩] 0) .ret) (.seq (.reg [⟨(.mv (.v 0)), none, none, 0⟩, ⟨(.call f_tree_ordered [(.l 0)]), none, none, 0⟩, ⟨(.un .not (.l 1)), none, none, 0⟩, ⟨(.mv (.l 2)), (some 4), none, 0⟩] 0) (.cond (.v 4) (.seq (.reg [⟨(.mv (.c (.int .i64 (211)))), (some 1), none, 0⟩] 0) .ret) (.seq (.reg [⟨(.mv (.v 0)), none, none, 0⟩, ⟨(.rcall 0 f_slices_ContainsFunc_File_File [(.l 0), (.f f_tree_Check_2)]), none, none, 0⟩, ⟨(.mv (.l 1)), (some 5), none, 0⟩] 0) (.cond (.v 5) (.seq (.reg [⟨(.mv (.c (.int .i64 (1)))), (some 1), none, 0⟩] 0) .ret) .skip))))))))) (.seq (.reg [⟨(.mv (.c (.int .i64 (0)))), (some 1), none, 0⟩] 0) .ret)))

def x_tree_blobs : XC :=
  (.seq (.reg [⟨(.mv (.c .nilmp)), (some 1), none, 0⟩] 0) (.seq (.reg [⟨.mkmap, none, none, 0⟩, ⟨(.mv (.l 0)), (some 2), none, 1⟩] 1) (.seq (.seq (.reg [⟨(.mv (.v 0)), (some 4), none, 0⟩, ⟨(.len 1 (.v 4)), (some 5), none, 0⟩, ⟨(.mv (.c (.int .i64 (0)))), (some 6), none, 0⟩] 0) (.block 0 (.loop (.seq (.reg [⟨(.bin .lss (.v 6) (.v 5)), (some 7), none, 0⟩] 0) (.seq (.cond (.v 7) .skip (.exit 0)) (.seq (.block 1 (.seq (.reg [⟨(.iaddr 2 (.v 4) (.v 6)), none, none, 0⟩, ⟨(.load true 2 (.l 0)), none, none, 0⟩, ⟨(.alloc 2 (.agg [(.str []), (.str [])])), (some 3), none, 0⟩, ⟨(.store 2 (.v 3) (.l 1)), none, none, 1⟩] 1) (.reg [⟨(.mv (.v 2)), none, none, 0⟩, ⟨(.faddr 0 (.v 3)), none, none, 0⟩, ⟨(.load false 1 (.l 1)), none, none, 0⟩, ⟨(.faddr 1 (.v 3)), none, none, 0⟩, ⟨(.load false 1 (.l 3)), none, none, 0⟩, ⟨(.mapup 1 (.l 0) (.l 2) (.l 4)), none, none, 0⟩] 0))) (.reg [⟨(.bin .add (.v 6) (.c (.int .i64 (1)))), none, none, 0⟩, ⟨(.mv (.l 0)), (some 6), none, 0⟩] 0))))))) (.seq (.reg [⟨(.mv (.v 2)), none, none, 0⟩, ⟨(.mv (.l 0)), (some 1), none, 0⟩] 0) .ret))))

def x_tree_ordered (f_tree_blobs f_tree_nested : Nat) : XC :=
  (.seq (.reg [⟨(.mv (.c (.bool false))), (some 1), none, 0⟩] 0) (.seq (.reg [⟨(.mv (.v 0)), none, none, 0⟩, ⟨(.rcall 1 f_tree_blobs [(.l 0)]), none, none, 0⟩, ⟨(.mv (.l 1)), (some 2), none, 1⟩] 1) (.seq (.seq (.reg [⟨(.mv (.v 0)), (some 5), none, 0⟩, ⟨(.len 1 (.v 5)), (some 6), none, 0⟩, ⟨(.mv (.c (.int .i64 (0)))), (some 7), none, 0⟩] 0) (.block 0 (.loop (.seq (.reg [⟨(.bin .lss (.v 7) (.v 6)), (some 8), none, 0⟩] 0) (.seq (.cond (.v 8) .skip (.exit 0)) (.seq (.block 1 (.seq (.reg [⟨(.mv (.v 7)), none, none, 0⟩, ⟨(.iaddr 2 (.v 5) (.v 7)), none, none, 0⟩, ⟨(.load true 2 (.l 1)), none, none, 0⟩, ⟨(.alloc 2 (.agg [(.str []), (.str [])])), (some 4), none, 0⟩, ⟨(.mv (.l 0)), (some 3), none, 1⟩, ⟨(.store 2 (.v 4) (.l 2)), none, none, 1⟩] 1) (.seq (.regD [⟨(.mv (.v 3)), none, none, 0⟩, ⟨(.bin .gtr (.l 0) (.c (.int .i64 (0)))), none, none, 0⟩, ⟨(.mv (.l 1)), none, none, 0⟩, ⟨(.mv (.v 0)), none, (some (2, true)), 0⟩, ⟨(.mv (.v 3)), none, (some (2, true)), 0⟩, ⟨(.bin .sub (.l 4) (.c (.int .i64 (1)))), none, (some (2, true)), 0⟩, ⟨(.iaddr 2 (.l 3) (.l 5)), none, (some (2, true)), 0⟩, ⟨(.faddr 0 (.l 6)), none, (some (2, true)), 0⟩, ⟨(.load false 1 (.l 7)), none, (some (2, true)), 0⟩, ⟨(.faddr 0 (.v 4)), none, (some (2, true)), 0⟩, ⟨(.load false 1 (.l 9)), none, (some (2, true)), 0⟩, ⟨(.bin .geq (.l 8) (.l 10)), none, (some (2, true)), 0⟩, ⟨(.pick (.l 2) (.l 11) (.c (.bool false))), none, none, 0⟩, ⟨(.mv (.l 12)), none, none, 0⟩, ⟨(.faddr 0 (.v 4)), none, (some (13, false)), 0⟩, ⟨(.load false 1 (.l 14)), none, (some (13, false)), 0⟩, ⟨(.mv (.v 2)), none, (some (13, false)), 0⟩, ⟨(.rcall 0 f_tree_nested [(.l 15), (.l 16)]), none, (some (13, false)), 0⟩, ⟨(.pick (.l 13) (.c (.bool true)) (.l 17)), (some 9), none, 0⟩] 0 []) (.cond (.v 9) (.seq (.reg [⟨(.mv (.c (.bool false))), (some 1), none, 0⟩] 0) .ret) .skip)))) (.reg [⟨(.bin .add (.v 7) (.c (.int .i64 (1)))), none, none, 0⟩, ⟨(.mv (.l 0)), (some 7), none, 0⟩] 0))))))) (.seq (.reg [⟨(.mv (.c (.bool true))), (some 1), none, 0⟩] 0) .ret))))

end Go.AE

set_option maxRecDepth 100000
namespace Go.AE

end Go.AE

set_option maxRecDepth 100000
namespace Go.AE

end Go.AE

set_option maxRecDepth 100000
namespace Go.AE

end Go.AE

set_option maxRecDepth 100000
namespace Go.AE

end Go.AE

set_option maxRecDepth 100000
namespace Go.AE

end Go.AE

set_option maxRecDepth 100000
namespace Go.AE

end Go.AE

set_option maxRecDepth 100000
namespace Go.AE

end Go.AE

set_option maxRecDepth 100000
namespace Go.AE

end Go.AE

set_option maxRecDepth 100000
namespace Go.AE

end Go.AE

set_option maxRecDepth 100000
namespace Go.AE

end Go.AE

set_option maxRecDepth 100000
namespace Go.AE

end Go.AE

set_option maxRecDepth 100000
namespace Go.AE

end Go.AE

set_option maxRecDepth 100000
namespace Go.AE

end Go.AE

set_option maxRecDepth 100000
namespace Go.AE

end Go.AE

set_option maxRecDepth 100000
namespace Go.AE

end Go.AE

set_option maxRecDepth 100000
namespace Go.AE

end Go.AE

set_option maxRecDepth 100000
namespace Go.AE

end Go.AE

set_option maxRecDepth 100000
namespace Go.AE

end Go.AE

set_option maxRecDepth 100000
namespace Go.AE

end Go.AE

set_option maxRecDepth 100000
namespace Go.AE

end Go.AE
