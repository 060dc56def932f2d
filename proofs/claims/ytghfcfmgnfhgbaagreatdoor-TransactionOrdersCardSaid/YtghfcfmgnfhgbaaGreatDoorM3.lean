/- The code of the functions (second part), by a program of mine (gen.py). -/
import Derived.Test.YtghfcfmgnfhgbaaGreatDoorM2
set_option linter.unusedSectionVars false
set_option linter.unusedVariables false
set_option linter.unusedSimpArgs false
namespace Go.Proofs.YtghfcfmgnfhgbaaGreatDoor
/-- schema.Kinds -/
def g33 : GFun :=
 { nparams := 2, keepHeap := false, results := [.inl 4], body :=
 (.seq (.region [⟨some 2, .box (.s 0), none⟩,
  ⟨some 4, .mv (.c (.sl 0 true .exact [])), none⟩] [1, 2])
 (.seq (.seq (.region [⟨some 8, .load 2 true (.s 2) 2 false, none⟩,
  ⟨some 9, .mv (.s 1), none⟩,
  ⟨some 10, .call (.fn 39) [(.s 8), (.s 9)] false, none⟩,
  ⟨some 11, .un .not (.s 10), none⟩] [1, 2, 11])
 (.cond (.s 11) (.seq (.region [⟨some 4, .mv (.c (.sl 0 true .exact [])), none⟩] [4])
 .ret)
 .skip))
 (.seq (.region [⟨some 5, .mv (.c (.sl 0 true .exact [])), none⟩] [1, 2, 5])
 (.seq (.seq (.region [⟨some 12, .fieldAddr (.s 2) 1, none⟩,
  ⟨some 13, .load 1 false (.s 12) 2 false, none⟩,
  ⟨some 14, .mv (.s 1), none⟩,
  ⟨some 15, .indexSl (.s 13) (.s 14) 5, none⟩,
  ⟨some 16, .fieldAddr (.s 15) 1, none⟩,
  ⟨some 17, .load 1 false (.s 16) 0 true, none⟩,
  ⟨some 18, .len (.s 17) .l false, none⟩,
  ⟨some 19, .mv (.c (.int .i64 0)), none⟩] [5, 17, 18, 19])
 (.block 0 (.loop [5, 17, 18, 19] (.seq (.region [⟨some 20, .bin .lss (.s 19) (.s 18), none⟩] [5, 17, 18, 19, 20])
 (.seq (.cond (.s 20) .skip
 (.exit 0))
 (.seq (.block 1 (.seq (.region [⟨some 21, .indexSl (.s 17) (.s 19) 2, none⟩,
  ⟨some 22, .load 2 true (.s 21) 0 true, none⟩,
  ⟨some 7, .alloc [.str [], .int .i64 0], none⟩,
  ⟨none, .store 2 (.s 7) (.s 22) 7 false, none⟩] [5, 7, 17, 18, 19])
 (.region [⟨some 23, .take 5, none⟩,
  ⟨some 24, .fieldAddr (.s 7) 1, none⟩,
  ⟨some 25, .load 1 false (.s 24) 7 false, none⟩,
  ⟨some 26, .bsl 1 1 [.int .i64 0] [(0, (.s 25))] false, none⟩,
  ⟨some 27, .append (.s 23) (.s 26) 1 8 false false, none⟩,
  ⟨some 5, .take 27, none⟩] [5, 17, 18, 19])))
 (.region [⟨some 28, .bin .add (.s 19) (.c (.int .i64 1)), none⟩,
  ⟨some 19, .mv (.s 28), none⟩] [5, 17, 18, 19])))))))
 (.seq (.region [⟨some 29, .mv (.s 5), none⟩,
  ⟨some 4, .mv (.s 29), none⟩] [4])
 .ret))))) }

/-- query.measure -/
def g34 : GFun :=
 { nparams := 3, keepHeap := false, results := [.inl 6], body :=
 (.seq (.region [⟨some 3, .box (.s 0), none⟩,
  ⟨some 6, .mv (.c (.bool false)), none⟩] [1, 2, 3])
 (.seq (.region [⟨some 9, .mv (.s 2), none⟩,
  ⟨some 10, .nilCheck (.s 9), none⟩,
  ⟨some 11, .load 1 false (.s 10) 0 true, none⟩,
  ⟨some 12, .bin .add (.s 11) (.c (.int .i64 1)), none⟩,
  ⟨some 13, .nilCheck (.s 9), none⟩,
  ⟨none, .store 1 (.s 13) (.s 12) 0 true, none⟩] [1, 2, 3])
 (.seq (.seq (.region [⟨some 14, .mv (.s 1), none⟩,
  ⟨some 15, .bin .gtr (.s 14) (.c (.int .i64 8)), none⟩,
  ⟨some 16, .mv (.s 15), none⟩,
  ⟨some 17, .mv (.s 2), some (16, false)⟩,
  ⟨some 18, .nilCheck (.s 17), some (16, false)⟩,
  ⟨some 19, .load 1 false (.s 18) 0 true, some (16, false)⟩,
  ⟨some 20, .bin .gtr (.s 19) (.c (.int .i64 24)), some (16, false)⟩,
  ⟨some 21, .pick (.s 16) (.c (.bool true)) (.s 20), none⟩] [1, 2, 3, 21])
 (.cond (.s 21) (.seq (.region [⟨some 6, .mv (.c (.bool false)), none⟩] [6])
 .ret)
 .skip))
 (.seq (.seq (.region [⟨some 22, .fieldAddr (.s 3) 20, none⟩,
  ⟨some 23, .load 1 false (.s 22) 3 false, none⟩,
  ⟨some 24, .len (.s 23) .l false, none⟩,
  ⟨some 25, .mv (.c (.int .i64 0)), none⟩] [1, 2, 23, 24, 25])
 (.block 0 (.loop [1, 2, 23, 24, 25] (.seq (.region [⟨some 26, .bin .lss (.s 25) (.s 24), none⟩] [1, 2, 23, 24, 25, 26])
 (.seq (.cond (.s 26) .skip
 (.exit 0))
 (.seq (.block 1 (.seq (.region [⟨some 27, .indexSl (.s 23) (.s 25) 21, none⟩,
  ⟨some 28, .load 21 true (.s 27) 0 true, none⟩,
  ⟨some 8, .alloc [.int .i64 0, .int .i64 0, .int .i64 0, .int .i64 0, .int .i64 0, .int .i64 0, .int .i64 0, .int .i64 0, .str [], .int .i64 0, .int .i64 0, .int .i64 0, .int .i64 0, .str [], .sl 0 true .exact [], .sl 0 true .exact [], .sl 0 true .exact [], .sl 0 true .exact [], .sl 0 true .exact [], .int .i64 0, .sl 0 true .exact []], none⟩,
  ⟨none, .store 21 (.s 8) (.s 28) 8 false, none⟩] [1, 2, 8, 23, 24, 25])
 (.seq (.region [⟨some 29, .load 21 true (.s 8) 8 false, none⟩,
  ⟨some 30, .mv (.s 1), none⟩,
  ⟨some 31, .bin .add (.s 30) (.c (.int .i64 1)), none⟩,
  ⟨some 32, .mv (.s 2), none⟩,
  ⟨some 33, .call (.fn 34) [(.s 29), (.s 31), (.s 32)] false, none⟩,
  ⟨some 34, .un .not (.s 33), none⟩] [1, 2, 23, 24, 25, 34])
 (.cond (.s 34) (.seq (.region [⟨some 6, .mv (.c (.bool false)), none⟩] [6])
 .ret)
 .skip))))
 (.region [⟨some 35, .bin .add (.s 25) (.c (.int .i64 1)), none⟩,
  ⟨some 25, .mv (.s 35), none⟩] [1, 2, 23, 24, 25])))))))
 (.seq (.region [⟨some 6, .mv (.c (.bool true)), none⟩] [6])
 .ret))))) }

/-- query.checks -/
def g35 : GFun :=
 { nparams := 0, keepHeap := true, results := [.inr (0, 3, true)], body :=
 (.seq (.region [⟨some 0, .alloc [.nilfunc, .nilfunc, .nilfunc], none⟩] [0])
 (.seq (.region [⟨some 1, .build [.nilfunc, .nilfunc, .nilfunc] [(0, 1, (.c (.func (.func 70) [] []))), (1, 1, (.c (.func (.func 71) [] []))), (2, 1, (.c (.func (.func 72) [] [])))], none⟩,
  ⟨none, .store 3 (.s 0) (.s 1) 0 false, none⟩] [0])
 .ret)) }

/-- query.walk -/
def g36 : GFun :=
 { nparams := 1, keepHeap := true, results := [.inl 2], body :=
 (.seq (.region [⟨some 1, .hbox (.s 0), none⟩,
  ⟨some 2, .mv (.c (.nilfunc)), none⟩] [1])
 (.seq (.region [⟨some 3, .mkFunc (.func 73) [] [(.s 1)], none⟩,
  ⟨some 2, .mv (.s 3), none⟩] [2])
 .ret)) }

/-- own.Arity -/
def g37 : GFun :=
 { nparams := 1, keepHeap := false, results := [.inl 2], body :=
 (.seq (.region [⟨some 2, .mv (.c (.int .i64 0)), none⟩] [0])
 (.seq (.seq (.region [⟨some 3, .mv (.s 0), none⟩] [3])
 (.block 0 (.seq (.region [⟨some 5, .bin .eql (.s 3) (.c (.int .i64 1)), none⟩,
  ⟨some 4, .mv (.s 5), none⟩] [3, 4])
 (.cond (.s 4) (.seq (.region [⟨some 2, .mv (.c (.int .i64 0)), none⟩] [2])
 .ret)
 (.seq (.seq (.region [⟨some 7, .bin .eql (.s 3) (.c (.int .i64 2)), none⟩,
  ⟨some 6, .mv (.s 7), none⟩] [3, 6])
 (.cond (.s 6) .skip
 (.seq (.region [⟨some 8, .bin .eql (.s 3) (.c (.int .i64 3)), none⟩,
  ⟨some 6, .mv (.s 8), none⟩] [3, 6])
 (.cond (.s 6) .skip
 (.region [⟨some 9, .bin .eql (.s 3) (.c (.int .i64 9)), none⟩,
  ⟨some 6, .mv (.s 9), none⟩] [3, 6])))))
 (.cond (.s 6) (.seq (.region [⟨some 2, .mv (.c (.int .i64 1)), none⟩] [2])
 .ret)
 (.seq (.seq (.region [⟨some 11, .bin .eql (.s 3) (.c (.int .i64 4)), none⟩,
  ⟨some 10, .mv (.s 11), none⟩] [3, 10])
 (.cond (.s 10) .skip
 (.seq (.region [⟨some 12, .bin .eql (.s 3) (.c (.int .i64 5)), none⟩,
  ⟨some 10, .mv (.s 12), none⟩] [3, 10])
 (.cond (.s 10) .skip
 (.seq (.region [⟨some 13, .bin .eql (.s 3) (.c (.int .i64 6)), none⟩,
  ⟨some 10, .mv (.s 13), none⟩] [3, 10])
 (.cond (.s 10) .skip
 (.seq (.region [⟨some 14, .bin .eql (.s 3) (.c (.int .i64 7)), none⟩,
  ⟨some 10, .mv (.s 14), none⟩] [3, 10])
 (.cond (.s 10) .skip
 (.seq (.region [⟨some 15, .bin .eql (.s 3) (.c (.int .i64 8)), none⟩,
  ⟨some 10, .mv (.s 15), none⟩] [3, 10])
 (.cond (.s 10) .skip
 (.region [⟨some 16, .bin .eql (.s 3) (.c (.int .i64 10)), none⟩,
  ⟨some 10, .mv (.s 16), none⟩] [10])))))))))))
 (.cond (.s 10) (.seq (.region [⟨some 2, .mv (.c (.int .i64 2)), none⟩] [2])
 .ret)
 .skip))))))))
 (.seq (.region [⟨some 2, .mv (.c (.int .i64 (-1))), none⟩] [2])
 .ret))) }

/-- own.OfQuery -/
def g38 : GFun :=
 { nparams := 1, keepHeap := false, results := [.inr (2, 22, true)], body :=
 (.seq (.region [⟨some 1, .box (.s 0), none⟩,
  ⟨some 2, .alloc [.int .i64 0, .int .i64 0, .int .i64 0, .int .i64 0, .int .i64 0, .int .i64 0, .int .i64 0, .int .i64 0, .str [], .int .i64 0, .int .i64 0, .int .i64 0, .int .i64 0, .str [], .sl 0 true .exact [], .sl 0 true .exact [], .sl 0 true .exact [], .sl 0 true .exact [], .sl 0 true .exact [], .int .i64 0, .int .i64 0, .int .i64 0], none⟩] [1, 2])
 (.seq (.region [⟨some 3, .fieldAddr (.s 1) 0, none⟩,
  ⟨some 4, .load 1 false (.s 3) 1 false, none⟩,
  ⟨some 5, .fieldAddr (.s 1) 1, none⟩,
  ⟨some 6, .load 1 false (.s 5) 1 false, none⟩,
  ⟨some 7, .fieldAddr (.s 1) 2, none⟩,
  ⟨some 8, .load 13 true (.s 7) 1 false, none⟩,
  ⟨some 9, .fieldAddr (.s 1) 15, none⟩,
  ⟨some 10, .load 1 false (.s 9) 1 false, none⟩,
  ⟨some 11, .fieldAddr (.s 1) 16, none⟩,
  ⟨some 12, .load 1 false (.s 11) 1 false, none⟩,
  ⟨some 13, .fieldAddr (.s 1) 17, none⟩,
  ⟨some 14, .load 1 false (.s 13) 1 false, none⟩,
  ⟨some 15, .fieldAddr (.s 1) 18, none⟩,
  ⟨some 16, .load 1 false (.s 15) 1 false, none⟩,
  ⟨some 17, .fieldAddr (.s 1) 19, none⟩,
  ⟨some 18, .load 1 false (.s 17) 1 false, none⟩,
  ⟨some 19, .build [.int .i64 0, .int .i64 0, .int .i64 0, .int .i64 0, .int .i64 0, .int .i64 0, .int .i64 0, .int .i64 0, .str [], .int .i64 0, .int .i64 0, .int .i64 0, .int .i64 0, .str [], .sl 0 true .exact [], .sl 0 true .exact [], .sl 0 true .exact [], .sl 0 true .exact [], .sl 0 true .exact [], .int .i64 0, .int .i64 0, .int .i64 0] [(0, 1, (.s 4)), (1, 1, (.s 6)), (2, 13, (.s 8)), (15, 1, (.s 10)), (16, 1, (.s 12)), (17, 1, (.s 14)), (18, 1, (.s 16)), (19, 1, (.s 18))], none⟩,
  ⟨none, .store 22 (.s 2) (.s 19) 2 false, none⟩] [2])
 .ret)) }

/-- schema.has -/
def g39 : GFun :=
 { nparams := 2, keepHeap := false, results := [.inl 4], body :=
 (.seq (.region [⟨some 2, .box (.s 0), none⟩,
  ⟨some 4, .mv (.c (.bool false)), none⟩] [1, 2])
 (.seq (.region [⟨some 5, .mv (.s 1), none⟩,
  ⟨some 6, .bin .geq (.s 5) (.c (.int .i64 0)), none⟩,
  ⟨some 7, .mv (.s 6), none⟩,
  ⟨some 8, .mv (.s 1), some (7, true)⟩,
  ⟨some 9, .fieldAddr (.s 2) 1, some (7, true)⟩,
  ⟨some 10, .load 1 false (.s 9) 2 false, some (7, true)⟩,
  ⟨some 11, .len (.s 10) .l false, some (7, true)⟩,
  ⟨some 12, .bin .lss (.s 8) (.s 11), some (7, true)⟩,
  ⟨some 13, .pick (.s 7) (.s 12) (.c (.bool false)), none⟩,
  ⟨some 4, .mv (.s 13), none⟩] [4])
 .ret)) }

/-- transaction.isKey -/
def g40 : GFun :=
 { nparams := 3, keepHeap := false, results := [.inl 6], body :=
 (.seq (.region [⟨some 3, .box (.s 0), none⟩,
  ⟨some 6, .mv (.c (.bool false)), none⟩] [1, 2, 3])
 (.seq (.region [⟨some 10, .load 2 true (.s 3) 3 false, none⟩,
  ⟨some 11, .mv (.s 1), none⟩,
  ⟨some 12, .call (.fn 20) [(.s 10), (.s 11)] false, none⟩,
  ⟨some 7, .mv (.s 12), none⟩] [2, 7])
 (.seq (.seq (.region [⟨some 13, .mv (.s 2), none⟩,
  ⟨some 14, .len (.s 13) .l false, none⟩,
  ⟨some 15, .mv (.s 7), none⟩,
  ⟨some 16, .len (.s 15) .l false, none⟩,
  ⟨some 17, .bin .neq (.s 14) (.s 16), none⟩] [2, 7, 17])
 (.cond (.s 17) (.seq (.region [⟨some 6, .mv (.c (.bool false)), none⟩] [6])
 .ret)
 .skip))
 (.seq (.seq (.region [⟨some 18, .mv (.s 2), none⟩,
  ⟨some 19, .len (.s 18) .l false, none⟩,
  ⟨some 20, .mv (.c (.int .i64 0)), none⟩] [7, 18, 19, 20])
 (.block 0 (.loop [7, 18, 19, 20] (.seq (.region [⟨some 21, .bin .lss (.s 20) (.s 19), none⟩] [7, 18, 19, 20, 21])
 (.seq (.cond (.s 21) .skip
 (.exit 0))
 (.seq (.block 1 (.seq (.region [⟨some 22, .mv (.s 20), none⟩,
  ⟨some 23, .indexSl (.s 18) (.s 20) 3, none⟩,
  ⟨some 24, .load 3 true (.s 23) 0 true, none⟩,
  ⟨some 9, .alloc [.int .i64 0, .int .i64 0, .str []], none⟩,
  ⟨some 8, .mv (.s 22), none⟩,
  ⟨none, .store 3 (.s 9) (.s 24) 9 false, none⟩] [7, 8, 9, 18, 19, 20])
 (.seq (.region [⟨some 25, .load 3 true (.s 9) 9 false, none⟩,
  ⟨some 26, .call (.fn 10) [(.s 25)] false, none⟩,
  ⟨some 27, .un .not (.s 26), none⟩,
  ⟨some 28, .mv (.s 27), none⟩,
  ⟨some 29, .fieldAddr (.s 9) 0, some (28, false)⟩,
  ⟨some 30, .load 1 false (.s 29) 9 false, some (28, false)⟩,
  ⟨some 31, .mv (.s 7), some (28, false)⟩,
  ⟨some 32, .mv (.s 8), some (28, false)⟩,
  ⟨some 33, .indexSl (.s 31) (.s 32) 1, some (28, false)⟩,
  ⟨some 34, .load 1 false (.s 33) 0 true, some (28, false)⟩,
  ⟨some 35, .bin .neq (.s 30) (.s 34), some (28, false)⟩,
  ⟨some 36, .pick (.s 28) (.c (.bool true)) (.s 35), none⟩] [7, 18, 19, 20, 36])
 (.cond (.s 36) (.seq (.region [⟨some 6, .mv (.c (.bool false)), none⟩] [6])
 .ret)
 .skip))))
 (.region [⟨some 37, .bin .add (.s 20) (.c (.int .i64 1)), none⟩,
  ⟨some 20, .mv (.s 37), none⟩] [7, 18, 19, 20])))))))
 (.seq (.region [⟨some 6, .mv (.c (.bool true)), none⟩] [6])
 .ret))))) }

/-- schema.Fits -/
def g41 : GFun :=
 { nparams := 4, keepHeap := false, results := [.inl 8], body :=
 (.seq (.region [⟨some 4, .box (.s 0), none⟩,
  ⟨some 8, .mv (.c (.bool false)), none⟩] [1, 2, 3, 4])
 (.seq (.seq (.region [⟨some 12, .mv (.s 3), none⟩,
  ⟨some 13, .bin .lss (.s 12) (.c (.int .i64 1)), none⟩,
  ⟨some 14, .mv (.s 13), none⟩,
  ⟨some 15, .mv (.s 3), some (14, false)⟩,
  ⟨some 16, .bin .gtr (.s 15) (.c (.int .i64 3)), some (14, false)⟩,
  ⟨some 17, .pick (.s 14) (.c (.bool true)) (.s 16), none⟩,
  ⟨some 18, .mv (.s 17), none⟩,
  ⟨some 19, .load 2 true (.s 4) 4 false, some (18, false)⟩,
  ⟨some 20, .mv (.s 1), some (18, false)⟩,
  ⟨some 21, .call (.fn 39) [(.s 19), (.s 20)] false, some (18, false)⟩,
  ⟨some 22, .un .not (.s 21), some (18, false)⟩,
  ⟨some 23, .pick (.s 18) (.c (.bool true)) (.s 22), none⟩] [1, 2, 3, 4, 23])
 (.cond (.s 23) (.seq (.region [⟨some 8, .mv (.c (.bool false)), none⟩] [8])
 .ret)
 .skip))
 (.seq (.region [⟨some 24, .fieldAddr (.s 4) 1, none⟩,
  ⟨some 25, .load 1 false (.s 24) 4 false, none⟩,
  ⟨some 26, .mv (.s 1), none⟩,
  ⟨some 27, .indexSl (.s 25) (.s 26) 5, none⟩,
  ⟨some 28, .load 5 true (.s 27) 0 true, none⟩,
  ⟨some 9, .alloc [.str [], .sl 0 true .exact [], .int .i64 0, .sl 0 true .exact [], .sl 0 true .exact []], none⟩,
  ⟨none, .store 5 (.s 9) (.s 28) 9 false, none⟩] [2, 3, 9])
 (.seq (.seq (.region [⟨some 29, .mv (.s 2), none⟩,
  ⟨some 30, .len (.s 29) .l false, none⟩,
  ⟨some 31, .fieldAddr (.s 9) 1, none⟩,
  ⟨some 32, .load 1 false (.s 31) 9 false, none⟩,
  ⟨some 33, .len (.s 32) .l false, none⟩,
  ⟨some 34, .bin .neq (.s 30) (.s 33), none⟩] [2, 3, 9, 34])
 (.cond (.s 34) (.seq (.region [⟨some 8, .mv (.c (.bool false)), none⟩] [8])
 .ret)
 .skip))
 (.seq (.seq (.region [⟨some 35, .mv (.s 2), none⟩,
  ⟨some 36, .len (.s 35) .l false, none⟩,
  ⟨some 37, .mv (.c (.int .i64 0)), none⟩] [3, 9, 35, 36, 37])
 (.block 0 (.loop [3, 9, 35, 36, 37] (.seq (.region [⟨some 38, .bin .lss (.s 37) (.s 36), none⟩] [3, 9, 35, 36, 37, 38])
 (.seq (.cond (.s 38) .skip
 (.exit 0))
 (.seq (.block 1 (.seq (.region [⟨some 39, .mv (.s 37), none⟩,
  ⟨some 40, .indexSl (.s 35) (.s 37) 3, none⟩,
  ⟨some 41, .load 3 true (.s 40) 0 true, none⟩,
  ⟨some 11, .alloc [.int .i64 0, .int .i64 0, .str []], none⟩,
  ⟨some 10, .mv (.s 39), none⟩,
  ⟨none, .store 3 (.s 11) (.s 41) 11 false, none⟩] [3, 9, 10, 11, 35, 36, 37])
 (.block 2 (.seq (.region [⟨some 43, .load 3 true (.s 11) 11 false, none⟩,
  ⟨some 44, .call (.fn 21) [(.s 43)] false, none⟩,
  ⟨some 45, .mv (.s 44), none⟩,
  ⟨some 46, .fieldAddr (.s 11) 0, some (45, true)⟩,
  ⟨some 47, .load 1 false (.s 46) 11 false, some (45, true)⟩,
  ⟨some 48, .fieldAddr (.s 9) 1, some (45, true)⟩,
  ⟨some 49, .load 1 false (.s 48) 9 false, some (45, true)⟩,
  ⟨some 50, .mv (.s 10), some (45, true)⟩,
  ⟨some 51, .indexSl (.s 49) (.s 50) 2, some (45, true)⟩,
  ⟨some 52, .fieldAddr (.s 51) 1, some (45, true)⟩,
  ⟨some 53, .load 1 false (.s 52) 0 true, some (45, true)⟩,
  ⟨some 54, .bin .eql (.s 47) (.s 53), some (45, true)⟩,
  ⟨some 55, .pick (.s 45) (.s 54) (.c (.bool false)), none⟩,
  ⟨some 42, .mv (.s 55), none⟩] [3, 9, 10, 11, 35, 36, 37, 42])
 (.cond (.s 42) .skip
 (.seq (.region [⟨some 57, .load 3 true (.s 11) 11 false, none⟩,
  ⟨some 58, .call (.fn 21) [(.s 57)] false, none⟩,
  ⟨some 59, .un .not (.s 58), none⟩,
  ⟨some 60, .mv (.s 59), none⟩,
  ⟨some 61, .mv (.s 10), some (60, false)⟩,
  ⟨some 62, .fieldAddr (.s 9) 2, some (60, false)⟩,
  ⟨some 63, .load 1 false (.s 62) 9 false, some (60, false)⟩,
  ⟨some 64, .bin .lss (.s 61) (.s 63), some (60, false)⟩,
  ⟨some 65, .pick (.s 60) (.c (.bool true)) (.s 64), none⟩,
  ⟨some 56, .mv (.s 65), none⟩] [3, 9, 11, 35, 36, 37, 56])
 (.cond (.s 56) (.seq (.region [⟨some 8, .mv (.c (.bool false)), none⟩] [8])
 .ret)
 (.seq (.region [⟨some 67, .fieldAddr (.s 11) 0, none⟩,
  ⟨some 68, .load 1 false (.s 67) 11 false, none⟩,
  ⟨some 69, .bin .eql (.s 68) (.c (.int .i64 2)), none⟩,
  ⟨some 70, .mv (.s 69), none⟩,
  ⟨some 71, .mv (.s 3), some (70, true)⟩,
  ⟨some 72, .bin .geq (.s 71) (.c (.int .i64 2)), some (70, true)⟩,
  ⟨some 73, .pick (.s 70) (.s 72) (.c (.bool false)), none⟩,
  ⟨some 66, .mv (.s 73), none⟩] [3, 9, 11, 35, 36, 37, 66])
 (.cond (.s 66) .skip
 (.seq (.region [⟨some 75, .fieldAddr (.s 11) 0, none⟩,
  ⟨some 76, .load 1 false (.s 75) 11 false, none⟩,
  ⟨some 77, .bin .eql (.s 76) (.c (.int .i64 1)), none⟩,
  ⟨some 78, .mv (.s 77), none⟩,
  ⟨some 79, .mv (.s 3), some (78, true)⟩,
  ⟨some 80, .bin .eql (.s 79) (.c (.int .i64 3)), some (78, true)⟩,
  ⟨some 81, .pick (.s 78) (.s 80) (.c (.bool false)), none⟩,
  ⟨some 74, .mv (.s 81), none⟩] [3, 9, 35, 36, 37, 74])
 (.cond (.s 74) .skip
 (.seq (.region [⟨some 8, .mv (.c (.bool false)), none⟩] [8])
 .ret))))))))))))
 (.region [⟨some 82, .bin .add (.s 37) (.c (.int .i64 1)), none⟩,
  ⟨some 37, .mv (.s 82), none⟩] [3, 9, 35, 36, 37])))))))
 (.seq (.region [⟨some 8, .mv (.c (.bool true)), none⟩] [8])
 .ret)))))) }

/-- schema.Key -/
def g42 : GFun :=
 { nparams := 3, keepHeap := false, results := [.inl 6], body :=
 (.seq (.region [⟨some 3, .box (.s 0), none⟩,
  ⟨some 6, .mv (.c (.sl 0 true .exact [])), none⟩] [1, 2, 3])
 (.seq (.seq (.region [⟨some 9, .load 2 true (.s 3) 3 false, none⟩,
  ⟨some 10, .mv (.s 1), none⟩,
  ⟨some 11, .call (.fn 39) [(.s 9), (.s 10)] false, none⟩,
  ⟨some 12, .un .not (.s 11), none⟩,
  ⟨some 13, .mv (.s 12), none⟩,
  ⟨some 14, .fieldAddr (.s 3) 1, some (13, false)⟩,
  ⟨some 15, .load 1 false (.s 14) 3 false, some (13, false)⟩,
  ⟨some 16, .mv (.s 1), some (13, false)⟩,
  ⟨some 17, .indexSl (.s 15) (.s 16) 5, some (13, false)⟩,
  ⟨some 18, .fieldAddr (.s 17) 2, some (13, false)⟩,
  ⟨some 19, .load 1 false (.s 18) 0 true, some (13, false)⟩,
  ⟨some 20, .bin .lss (.s 19) (.c (.int .i64 0)), some (13, false)⟩,
  ⟨some 21, .pick (.s 13) (.c (.bool true)) (.s 20), none⟩] [1, 2, 3, 21])
 (.cond (.s 21) (.seq (.region [⟨some 6, .mv (.c (.sl 0 true .exact [])), none⟩] [6])
 .ret)
 .skip))
 (.seq (.region [⟨some 22, .mv (.s 2), none⟩,
  ⟨some 23, .len (.s 22) .l false, none⟩,
  ⟨some 24, .fieldAddr (.s 3) 1, none⟩,
  ⟨some 25, .load 1 false (.s 24) 3 false, none⟩,
  ⟨some 26, .mv (.s 1), none⟩,
  ⟨some 27, .indexSl (.s 25) (.s 26) 5, none⟩,
  ⟨some 28, .fieldAddr (.s 27) 2, none⟩,
  ⟨some 29, .load 1 false (.s 28) 0 true, none⟩,
  ⟨some 30, .minmax false [(.s 23), (.s 29)], none⟩,
  ⟨some 7, .mv (.s 30), none⟩] [2, 7])
 (.seq (.region [⟨some 31, .mv (.s 7), none⟩,
  ⟨some 32, .mkSlice 3 32 [.int .i64 0, .int .i64 0, .str []] (.s 31) (.s 31) false, none⟩,
  ⟨some 8, .take 32, none⟩] [2, 7, 8])
 (.seq (.region [⟨some 33, .mv (.s 8), none⟩,
  ⟨some 34, .mv (.s 2), none⟩,
  ⟨some 35, .mv (.s 7), none⟩,
  ⟨some 36, .slice false (.s 34) none (some (.s 35)) none 3, none⟩,
  ⟨some 37, .copy (.s 33) (.s 36) 3, none⟩] [8])
 (.seq (.region [⟨some 38, .mv (.s 8), none⟩,
  ⟨some 6, .mv (.s 38), none⟩] [6])
 .ret)))))) }

/-- transaction.compare -/
def g44 : GFun :=
 { nparams := 2, keepHeap := false, results := [.inl 4], body :=
 (.seq (.region [⟨some 2, .box (.s 0), none⟩,
  ⟨some 3, .box (.s 1), none⟩,
  ⟨some 4, .mv (.c (.int .i64 0)), none⟩] [2, 3])
 (.seq (.region [⟨some 5, .fieldAddr (.s 2) 1, none⟩,
  ⟨some 6, .load 1 false (.s 5) 2 false, none⟩,
  ⟨some 7, .fieldAddr (.s 3) 1, none⟩,
  ⟨some 8, .load 1 false (.s 7) 3 false, none⟩,
  ⟨some 9, .call (.fn 76) [(.s 6), (.s 8)] false, none⟩,
  ⟨some 10, .fieldAddr (.s 2) 2, none⟩,
  ⟨some 11, .load 1 false (.s 10) 2 false, none⟩,
  ⟨some 12, .fieldAddr (.s 3) 2, none⟩,
  ⟨some 13, .load 1 false (.s 12) 3 false, none⟩,
  ⟨some 14, .call (.fn 29) [(.s 11), (.s 13)] false, none⟩,
  ⟨some 15, .bsl 1 2 [.int .i64 0] [(0, (.s 9)), (1, (.s 14))] false, none⟩,
  ⟨some 16, .call (.fn 75) [(.s 15)] false, none⟩,
  ⟨some 4, .mv (.s 16), none⟩] [4])
 .ret)) }

/-- table.Count -/
def g45 : GFun :=
 { nparams := 1, keepHeap := false, results := [.inl 2], body :=
 (.seq (.region [⟨some 1, .box (.s 0), none⟩,
  ⟨some 2, .mv (.c (.int .i64 0)), none⟩] [1])
 (.seq (.region [⟨some 3, .mv (.c (.int .i64 0)), none⟩] [1, 3])
 (.seq (.seq (.region [⟨some 6, .fieldAddr (.s 1) 0, none⟩,
  ⟨some 7, .load 1 false (.s 6) 1 false, none⟩,
  ⟨some 8, .len (.s 7) .l false, none⟩,
  ⟨some 9, .mv (.c (.int .i64 0)), none⟩] [3, 7, 8, 9])
 (.block 0 (.loop [3, 7, 8, 9] (.seq (.region [⟨some 10, .bin .lss (.s 9) (.s 8), none⟩] [3, 7, 8, 9, 10])
 (.seq (.cond (.s 10) .skip
 (.exit 0))
 (.seq (.block 1 (.seq (.region [⟨some 11, .indexSl (.s 7) (.s 9) 1, none⟩,
  ⟨some 12, .load 1 false (.s 11) 0 true, none⟩,
  ⟨some 5, .mv (.s 12), none⟩] [3, 5, 7, 8, 9])
 (.region [⟨some 13, .mv (.s 3), none⟩,
  ⟨some 14, .mv (.s 5), none⟩,
  ⟨some 15, .len (.s 14) .l false, none⟩,
  ⟨some 16, .bin .add (.s 13) (.s 15), none⟩,
  ⟨some 3, .mv (.s 16), none⟩] [3, 7, 8, 9])))
 (.region [⟨some 17, .bin .add (.s 9) (.c (.int .i64 1)), none⟩,
  ⟨some 9, .mv (.s 17), none⟩] [3, 7, 8, 9])))))))
 (.seq (.region [⟨some 18, .mv (.s 3), none⟩,
  ⟨some 2, .mv (.s 18), none⟩] [2])
 .ret)))) }

/-- table.Get -/
def g46 : GFun :=
 { nparams := 4, keepHeap := false, results := [.inl 8, .inl 9], body :=
 (.seq (.region [⟨some 4, .box (.s 0), none⟩,
  ⟨some 5, .box (.s 1), none⟩,
  ⟨some 8, .mv (.c (.sl 0 true .exact [])), none⟩,
  ⟨some 9, .mv (.c (.bool false)), none⟩] [2, 3, 4, 5])
 (.seq (.seq (.region [⟨some 12, .mv (.s 2), none⟩,
  ⟨some 13, .bin .lss (.s 12) (.c (.int .i64 0)), none⟩,
  ⟨some 14, .mv (.s 13), none⟩,
  ⟨some 15, .mv (.s 2), some (14, false)⟩,
  ⟨some 16, .fieldAddr (.s 4) 1, some (14, false)⟩,
  ⟨some 17, .load 1 false (.s 16) 4 false, some (14, false)⟩,
  ⟨some 18, .len (.s 17) .l false, some (14, false)⟩,
  ⟨some 19, .bin .geq (.s 15) (.s 18), some (14, false)⟩,
  ⟨some 20, .pick (.s 14) (.c (.bool true)) (.s 19), none⟩,
  ⟨some 21, .mv (.s 20), none⟩,
  ⟨some 22, .mv (.s 2), some (21, false)⟩,
  ⟨some 23, .fieldAddr (.s 5) 0, some (21, false)⟩,
  ⟨some 24, .load 1 false (.s 23) 5 false, some (21, false)⟩,
  ⟨some 25, .len (.s 24) .l false, some (21, false)⟩,
  ⟨some 26, .bin .geq (.s 22) (.s 25), some (21, false)⟩,
  ⟨some 27, .pick (.s 21) (.c (.bool true)) (.s 26), none⟩] [2, 3, 4, 5, 27])
 (.cond (.s 27) (.seq (.region [⟨some 8, .mv (.c (.sl 0 true .exact [])), none⟩,
  ⟨some 9, .mv (.c (.bool false)), none⟩] [8, 9])
 .ret)
 .skip))
 (.seq (.seq (.region [⟨some 28, .fieldAddr (.s 5) 0, none⟩,
  ⟨some 29, .load 1 false (.s 28) 5 false, none⟩,
  ⟨some 30, .mv (.s 2), none⟩,
  ⟨some 31, .indexSl (.s 29) (.s 30) 1, none⟩,
  ⟨some 32, .load 1 false (.s 31) 0 true, none⟩,
  ⟨some 33, .len (.s 32) .l false, none⟩,
  ⟨some 34, .mv (.c (.int .i64 0)), none⟩] [2, 3, 4, 32, 33, 34])
 (.block 0 (.loop [2, 3, 4, 32, 33, 34] (.seq (.region [⟨some 35, .bin .lss (.s 34) (.s 33), none⟩] [2, 3, 4, 32, 33, 34, 35])
 (.seq (.cond (.s 35) .skip
 (.exit 0))
 (.seq (.block 1 (.seq (.region [⟨some 36, .indexSl (.s 32) (.s 34) 1, none⟩,
  ⟨some 37, .load 1 false (.s 36) 0 true, none⟩,
  ⟨some 11, .mv (.s 37), none⟩] [2, 3, 4, 11, 32, 33, 34])
 (.seq (.region [⟨some 38, .load 2 true (.s 4) 4 false, none⟩,
  ⟨some 39, .mv (.s 2), none⟩,
  ⟨some 40, .mv (.s 11), none⟩,
  ⟨some 41, .call (.fn 42) [(.s 38), (.s 39), (.s 40)] false, none⟩,
  ⟨some 42, .mv (.s 3), none⟩,
  ⟨some 43, .call (.fn 29) [(.s 41), (.s 42)] false, none⟩,
  ⟨some 44, .bin .eql (.s 43) (.c (.int .i64 0)), none⟩] [2, 3, 4, 11, 32, 33, 34, 44])
 (.cond (.s 44) (.seq (.region [⟨some 45, .mv (.s 11), none⟩,
  ⟨some 46, .call (.fn 52) [(.s 45)] false, none⟩,
  ⟨some 8, .mv (.s 46), none⟩,
  ⟨some 9, .mv (.c (.bool true)), none⟩] [8, 9])
 .ret)
 .skip))))
 (.region [⟨some 47, .bin .add (.s 34) (.c (.int .i64 1)), none⟩,
  ⟨some 34, .mv (.s 47), none⟩] [2, 3, 4, 32, 33, 34])))))))
 (.seq (.region [⟨some 8, .mv (.c (.sl 0 true .exact [])), none⟩,
  ⟨some 9, .mv (.c (.bool false)), none⟩] [8, 9])
 .ret)))) }

/-- transaction.change -/
def g47 : GFun :=
 { nparams := 2, keepHeap := false, results := [.inr (4, 3, true)], body :=
 (.seq (.region [⟨some 2, .box (.s 0), none⟩,
  ⟨some 4, .alloc [.int .i64 0, .sl 0 true .exact [], .sl 0 true .exact []], none⟩] [1, 2, 4])
 (.seq (.region [⟨some 8, .fieldAddr (.s 2) 1, none⟩,
  ⟨some 9, .load 1 false (.s 8) 2 false, none⟩,
  ⟨some 10, .mv (.s 1), none⟩,
  ⟨some 11, .call (.fn 61) [(.s 10)] false, none⟩,
  ⟨some 12, .build [.int .i64 0, .sl 0 true .exact [], .sl 0 true .exact []] [(0, 1, (.s 9)), (1, 1, (.s 11))], none⟩,
  ⟨some 5, .alloc [.int .i64 0, .sl 0 true .exact [], .sl 0 true .exact []], none⟩,
  ⟨none, .store 3 (.s 5) (.s 12) 5 false, none⟩] [1, 2, 4, 5])
 (.seq (.seq (.region [⟨some 13, .fieldAddr (.s 2) 0, none⟩,
  ⟨some 14, .load 1 false (.s 13) 2 false, none⟩] [1, 2, 4, 5, 14])
 (.block 0 (.seq (.region [⟨some 16, .bin .eql (.s 14) (.c (.int .i64 1)), none⟩,
  ⟨some 15, .mv (.s 16), none⟩] [1, 2, 4, 5, 14, 15])
 (.cond (.s 15) (.region [⟨some 17, .fieldAddr (.s 2) 4, none⟩,
  ⟨some 18, .load 1 false (.s 17) 2 false, none⟩,
  ⟨some 19, .call (.fn 61) [(.s 18)] false, none⟩,
  ⟨some 20, .fieldAddr (.s 5) 2, none⟩,
  ⟨none, .store 1 (.s 20) (.s 19) 5 false, none⟩] [4, 5])
 (.seq (.region [⟨some 22, .bin .eql (.s 14) (.c (.int .i64 2)), none⟩,
  ⟨some 21, .mv (.s 22), none⟩] [1, 2, 4, 5, 21])
 (.cond (.s 21) (.seq (.region [⟨some 23, .mv (.s 1), none⟩,
  ⟨some 24, .call (.fn 61) [(.s 23)] false, none⟩,
  ⟨some 25, .fieldAddr (.s 5) 2, none⟩,
  ⟨none, .store 1 (.s 25) (.s 24) 5 false, none⟩] [2, 4, 5])
 (.seq (.region [⟨some 26, .fieldAddr (.s 2) 3, none⟩,
  ⟨some 27, .load 1 false (.s 26) 2 false, none⟩,
  ⟨some 28, .len (.s 27) .l false, none⟩,
  ⟨some 29, .mv (.c (.int .i64 0)), none⟩] [2, 4, 5, 27, 28, 29])
 (.block 1 (.loop [2, 4, 5, 27, 28, 29] (.seq (.region [⟨some 30, .bin .lss (.s 29) (.s 28), none⟩] [2, 4, 5, 27, 28, 29, 30])
 (.seq (.cond (.s 30) .skip
 (.exit 1))
 (.seq (.block 2 (.seq (.region [⟨some 31, .mv (.s 29), none⟩,
  ⟨some 32, .indexSl (.s 27) (.s 29) 1, none⟩,
  ⟨some 33, .load 1 false (.s 32) 0 true, none⟩,
  ⟨some 6, .mv (.s 31), none⟩,
  ⟨some 7, .mv (.s 33), none⟩] [2, 4, 5, 6, 7, 27, 28, 29])
 (.region [⟨some 34, .fieldAddr (.s 5) 2, none⟩,
  ⟨some 35, .load 1 false (.s 34) 5 false, none⟩,
  ⟨some 36, .mv (.s 7), none⟩,
  ⟨some 37, .fieldAddr (.s 2) 4, none⟩,
  ⟨some 38, .load 1 false (.s 37) 2 false, none⟩,
  ⟨some 39, .mv (.s 6), none⟩,
  ⟨some 40, .indexSl (.s 38) (.s 39) 3, none⟩,
  ⟨some 41, .load 3 true (.s 40) 0 true, none⟩,
  ⟨some 42, .indexSl (.s 35) (.s 36) 3, none⟩,
  ⟨none, .store 3 (.s 42) (.s 41) 0 true, none⟩] [2, 4, 5, 27, 28, 29])))
 (.region [⟨some 43, .bin .add (.s 29) (.c (.int .i64 1)), none⟩,
  ⟨some 29, .mv (.s 43), none⟩] [2, 4, 5, 27, 28, 29]))))))))
 .skip))))))
 (.seq (.region [⟨some 44, .load 3 true (.s 5) 5 false, none⟩,
  ⟨none, .store 3 (.s 4) (.s 44) 4 false, none⟩] [4])
 .ret)))) }

/-- table.cloned -/
def g48 : GFun :=
 { nparams := 1, keepHeap := true, results := [.inr (2, 1, true)], body :=
 (.seq (.region [⟨some 1, .box (.s 0), none⟩,
  ⟨some 2, .alloc [.sl 0 true .exact []], none⟩] [1, 2])
 (.seq (.region [⟨some 8, .fieldAddr (.s 1) 0, none⟩,
  ⟨some 9, .load 1 false (.s 8) 1 false, none⟩,
  ⟨some 10, .len (.s 9) .l false, none⟩,
  ⟨some 11, .mkSlice 1 24 [.sl 0 true .exact []] (.s 10) (.s 10) false, none⟩,
  ⟨some 12, .build [.sl 0 true .exact []] [(0, 1, (.s 11))], none⟩,
  ⟨some 3, .alloc [.sl 0 true .exact []], none⟩,
  ⟨none, .store 1 (.s 3) (.s 12) 3 false, none⟩] [1, 2, 3])
 (.seq (.seq (.region [⟨some 13, .fieldAddr (.s 1) 0, none⟩,
  ⟨some 14, .load 1 false (.s 13) 1 false, none⟩,
  ⟨some 15, .len (.s 14) .l false, none⟩,
  ⟨some 16, .mv (.c (.int .i64 0)), none⟩] [2, 3, 14, 15, 16])
 (.block 0 (.loop [2, 3, 14, 15, 16] (.seq (.region [⟨some 17, .bin .lss (.s 16) (.s 15), none⟩] [2, 3, 14, 15, 16, 17])
 (.seq (.cond (.s 17) .skip
 (.exit 0))
 (.seq (.block 1 (.seq (.region [⟨some 18, .mv (.s 16), none⟩,
  ⟨some 19, .indexSl (.s 14) (.s 16) 1, none⟩,
  ⟨some 20, .load 1 false (.s 19) 0 true, none⟩,
  ⟨some 4, .mv (.s 18), none⟩,
  ⟨some 5, .mv (.s 20), none⟩] [2, 3, 4, 5, 14, 15, 16])
 (.seq (.region [⟨some 21, .mv (.s 5), none⟩,
  ⟨some 22, .len (.s 21) .l false, none⟩,
  ⟨some 23, .mv (.c (.int .i64 0)), none⟩] [2, 3, 4, 14, 15, 16, 21, 22, 23])
 (.block 2 (.loop [2, 3, 4, 14, 15, 16, 21, 22, 23] (.seq (.region [⟨some 24, .bin .lss (.s 23) (.s 22), none⟩] [2, 3, 4, 14, 15, 16, 21, 22, 23, 24])
 (.seq (.cond (.s 24) .skip
 (.exit 2))
 (.seq (.block 3 (.seq (.region [⟨some 25, .indexSl (.s 21) (.s 23) 1, none⟩,
  ⟨some 26, .load 1 false (.s 25) 0 true, none⟩,
  ⟨some 7, .mv (.s 26), none⟩] [2, 3, 4, 7, 14, 15, 16, 21, 22, 23])
 (.region [⟨some 27, .fieldAddr (.s 3) 0, none⟩,
  ⟨some 28, .load 1 false (.s 27) 3 false, none⟩,
  ⟨some 29, .mv (.s 4), none⟩,
  ⟨some 30, .fieldAddr (.s 3) 0, none⟩,
  ⟨some 31, .load 1 false (.s 30) 3 false, none⟩,
  ⟨some 32, .mv (.s 4), none⟩,
  ⟨some 33, .indexSl (.s 31) (.s 32) 1, none⟩,
  ⟨some 34, .loadTake (.s 33) 0 true, none⟩,
  ⟨some 35, .mv (.s 7), none⟩,
  ⟨some 36, .call (.fn 52) [(.s 35)] true, none⟩,
  ⟨some 37, .bsl 1 1 [.sl 0 true .exact []] [(0, (.s 36))] false, none⟩,
  ⟨some 38, .append (.s 34) (.s 37) 1 24 false false, none⟩,
  ⟨some 39, .indexSl (.s 28) (.s 29) 1, none⟩,
  ⟨none, .storeTake (.s 39) 38 0 true, none⟩] [2, 3, 4, 14, 15, 16, 21, 22, 23])))
 (.region [⟨some 40, .bin .add (.s 23) (.c (.int .i64 1)), none⟩,
  ⟨some 23, .mv (.s 40), none⟩] [2, 3, 4, 14, 15, 16, 21, 22, 23])))))))))
 (.region [⟨some 41, .bin .add (.s 16) (.c (.int .i64 1)), none⟩,
  ⟨some 16, .mv (.s 41), none⟩] [2, 3, 14, 15, 16])))))))
 (.seq (.region [⟨some 42, .load 1 true (.s 3) 3 false, none⟩,
  ⟨none, .store 1 (.s 2) (.s 42) 2 false, none⟩] [2])
 .ret)))) }

/-- table.valid -/
def g49 : GFun :=
 { nparams := 3, keepHeap := false, results := [.inl 6], body :=
 (.seq (.region [⟨some 3, .box (.s 0), none⟩,
  ⟨some 5, .box (.s 2), none⟩,
  ⟨some 6, .mv (.c (.bool false)), none⟩] [1, 3, 5])
 (.seq (.seq (.region [⟨some 9, .fieldAddr (.s 5) 0, none⟩,
  ⟨some 10, .load 1 false (.s 9) 5 false, none⟩,
  ⟨some 11, .bin .lss (.s 10) (.c (.int .i64 0)), none⟩,
  ⟨some 12, .mv (.s 11), none⟩,
  ⟨some 13, .fieldAddr (.s 5) 0, some (12, false)⟩,
  ⟨some 14, .load 1 false (.s 13) 5 false, some (12, false)⟩,
  ⟨some 15, .fieldAddr (.s 3) 1, some (12, false)⟩,
  ⟨some 16, .load 1 false (.s 15) 3 false, some (12, false)⟩,
  ⟨some 17, .len (.s 16) .l false, some (12, false)⟩,
  ⟨some 18, .bin .geq (.s 14) (.s 17), some (12, false)⟩,
  ⟨some 19, .pick (.s 12) (.c (.bool true)) (.s 18), none⟩,
  ⟨some 20, .mv (.s 19), none⟩,
  ⟨some 21, .fieldAddr (.s 5) 1, some (20, false)⟩,
  ⟨some 22, .load 1 false (.s 21) 5 false, some (20, false)⟩,
  ⟨some 23, .len (.s 22) .l false, some (20, false)⟩,
  ⟨some 24, .bin .eql (.s 23) (.c (.int .i64 0)), some (20, false)⟩,
  ⟨some 25, .mv (.s 24), some (20, false)⟩,
  ⟨some 26, .fieldAddr (.s 5) 2, some (25, true)⟩,
  ⟨some 27, .load 1 false (.s 26) 5 false, some (25, true)⟩,
  ⟨some 28, .len (.s 27) .l false, some (25, true)⟩,
  ⟨some 29, .bin .eql (.s 28) (.c (.int .i64 0)), some (25, true)⟩,
  ⟨some 30, .pick (.s 25) (.s 29) (.c (.bool false)), some (20, false)⟩,
  ⟨some 31, .pick (.s 20) (.c (.bool true)) (.s 30), none⟩] [1, 3, 5, 31])
 (.cond (.s 31) (.seq (.region [⟨some 6, .mv (.c (.bool false)), none⟩] [6])
 .ret)
 .skip))
 (.seq (.seq (.region [⟨some 32, .fieldAddr (.s 5) 1, none⟩,
  ⟨some 33, .load 1 false (.s 32) 5 false, none⟩,
  ⟨some 34, .fieldAddr (.s 5) 2, none⟩,
  ⟨some 35, .load 1 false (.s 34) 5 false, none⟩,
  ⟨some 36, .bsl 1 2 [.sl 0 true .exact []] [(0, (.s 33)), (1, (.s 35))] false, none⟩,
  ⟨some 37, .len (.s 36) .l false, none⟩,
  ⟨some 38, .mv (.c (.int .i64 0)), none⟩] [1, 3, 5, 36, 37, 38])
 (.block 0 (.loop [1, 3, 5, 36, 37, 38] (.seq (.region [⟨some 39, .bin .lss (.s 38) (.s 37), none⟩] [1, 3, 5, 36, 37, 38, 39])
 (.seq (.cond (.s 39) .skip
 (.exit 0))
 (.seq (.block 1 (.seq (.region [⟨some 40, .indexSl (.s 36) (.s 38) 1, none⟩,
  ⟨some 41, .load 1 false (.s 40) 0 true, none⟩,
  ⟨some 8, .mv (.s 41), none⟩] [1, 3, 5, 8, 36, 37, 38])
 (.seq (.region [⟨some 42, .mv (.s 8), none⟩,
  ⟨some 43, .len (.s 42) .l false, none⟩,
  ⟨some 44, .bin .gtr (.s 43) (.c (.int .i64 0)), none⟩,
  ⟨some 45, .mv (.s 44), none⟩,
  ⟨some 46, .load 2 true (.s 3) 3 false, some (45, true)⟩,
  ⟨some 47, .fieldAddr (.s 5) 0, some (45, true)⟩,
  ⟨some 48, .load 1 false (.s 47) 5 false, some (45, true)⟩,
  ⟨some 49, .mv (.s 8), some (45, true)⟩,
  ⟨some 50, .mv (.s 1), some (45, true)⟩,
  ⟨some 51, .call (.fn 41) [(.s 46), (.s 48), (.s 49), (.s 50)] false, some (45, true)⟩,
  ⟨some 52, .un .not (.s 51), some (45, true)⟩,
  ⟨some 53, .pick (.s 45) (.s 52) (.c (.bool false)), none⟩] [1, 3, 5, 36, 37, 38, 53])
 (.cond (.s 53) (.seq (.region [⟨some 6, .mv (.c (.bool false)), none⟩] [6])
 .ret)
 .skip))))
 (.region [⟨some 54, .bin .add (.s 38) (.c (.int .i64 1)), none⟩,
  ⟨some 38, .mv (.s 54), none⟩] [1, 3, 5, 36, 37, 38])))))))
 (.seq (.region [⟨some 55, .fieldAddr (.s 5) 1, none⟩,
  ⟨some 56, .load 1 false (.s 55) 5 false, none⟩,
  ⟨some 57, .len (.s 56) .l false, none⟩,
  ⟨some 58, .bin .eql (.s 57) (.c (.int .i64 0)), none⟩,
  ⟨some 59, .mv (.s 58), none⟩,
  ⟨some 60, .fieldAddr (.s 5) 2, some (59, false)⟩,
  ⟨some 61, .load 1 false (.s 60) 5 false, some (59, false)⟩,
  ⟨some 62, .len (.s 61) .l false, some (59, false)⟩,
  ⟨some 63, .bin .eql (.s 62) (.c (.int .i64 0)), some (59, false)⟩,
  ⟨some 64, .pick (.s 59) (.c (.bool true)) (.s 63), none⟩,
  ⟨some 65, .mv (.s 64), none⟩,
  ⟨some 66, .load 2 true (.s 3) 3 false, some (65, false)⟩,
  ⟨some 67, .fieldAddr (.s 5) 0, some (65, false)⟩,
  ⟨some 68, .load 1 false (.s 67) 5 false, some (65, false)⟩,
  ⟨some 69, .fieldAddr (.s 5) 1, some (65, false)⟩,
  ⟨some 70, .load 1 false (.s 69) 5 false, some (65, false)⟩,
  ⟨some 71, .call (.fn 42) [(.s 66), (.s 68), (.s 70)] false, some (65, false)⟩,
  ⟨some 72, .load 2 true (.s 3) 3 false, some (65, false)⟩,
  ⟨some 73, .fieldAddr (.s 5) 0, some (65, false)⟩,
  ⟨some 74, .load 1 false (.s 73) 5 false, some (65, false)⟩,
  ⟨some 75, .fieldAddr (.s 5) 2, some (65, false)⟩,
  ⟨some 76, .load 1 false (.s 75) 5 false, some (65, false)⟩,
  ⟨some 77, .call (.fn 42) [(.s 72), (.s 74), (.s 76)] false, some (65, false)⟩,
  ⟨some 78, .call (.fn 29) [(.s 71), (.s 77)] false, some (65, false)⟩,
  ⟨some 79, .bin .eql (.s 78) (.c (.int .i64 0)), some (65, false)⟩,
  ⟨some 80, .pick (.s 65) (.c (.bool true)) (.s 79), none⟩,
  ⟨some 6, .mv (.s 80), none⟩] [6])
 .ret)))) }

/-- table.place -/
def g50 : GFun :=
 { nparams := 4, keepHeap := false, results := [.inl 8, .inl 9], body :=
 (.seq (.region [⟨some 4, .hbox (.s 0), none⟩,
  ⟨some 5, .hbox (.s 1), none⟩,
  ⟨some 6, .hbox (.s 2), none⟩,
  ⟨some 7, .hbox (.s 3), none⟩,
  ⟨some 8, .mv (.c (.int .i64 0)), none⟩,
  ⟨some 9, .mv (.c (.bool false)), none⟩] [4, 5, 6, 7])
 (.seq (.region [⟨some 12, .mkFunc (.func 77) [] [(.s 4), (.s 5), (.s 6), (.s 7)], none⟩,
  ⟨some 10, .halloc [.nilfunc], none⟩,
  ⟨none, .store 1 (.s 10) (.s 12) 0 true, none⟩] [6, 10])
 (.seq (.region [⟨some 13, .load 1 false (.s 6) 0 true, none⟩,
  ⟨some 14, .len (.s 13) .l false, none⟩,
  ⟨some 15, .mkFunc (.func 79) [] [(.s 10)], none⟩,
  ⟨some 16, .call (.fn 78) [(.s 14), (.s 15)] false, none⟩,
  ⟨some 11, .mv (.s 16), none⟩] [6, 10, 11])
 (.seq (.region [⟨some 17, .mv (.s 11), none⟩,
  ⟨some 18, .mv (.s 11), none⟩,
  ⟨some 19, .load 1 false (.s 6) 0 true, none⟩,
  ⟨some 20, .len (.s 19) .l false, none⟩,
  ⟨some 21, .bin .lss (.s 18) (.s 20), none⟩,
  ⟨some 22, .mv (.s 21), none⟩,
  ⟨some 23, .load 1 false (.s 10) 0 true, some (22, true)⟩,
  ⟨some 24, .mv (.s 11), some (22, true)⟩,
  ⟨some 25, .call (.val (.s 23)) [(.s 24)] false, some (22, true)⟩,
  ⟨some 26, .bin .eql (.s 25) (.c (.int .i64 0)), some (22, true)⟩,
  ⟨some 27, .pick (.s 22) (.s 26) (.c (.bool false)), none⟩,
  ⟨some 8, .mv (.s 17), none⟩,
  ⟨some 9, .mv (.s 27), none⟩] [8, 9])
 .ret)))) }

/-- table.keyOf -/
def g51 : GFun :=
 { nparams := 2, keepHeap := false, results := [.inl 4], body :=
 (.seq (.region [⟨some 2, .box (.s 0), none⟩,
  ⟨some 3, .box (.s 1), none⟩,
  ⟨some 4, .mv (.c (.sl 0 true .exact [])), none⟩] [2, 3])
 (.seq (.seq (.region [⟨some 5, .fieldAddr (.s 3) 1, none⟩,
  ⟨some 6, .load 1 false (.s 5) 3 false, none⟩,
  ⟨some 7, .len (.s 6) .l false, none⟩,
  ⟨some 8, .bin .gtr (.s 7) (.c (.int .i64 0)), none⟩] [2, 3, 8])
 (.cond (.s 8) (.seq (.region [⟨some 9, .load 2 true (.s 2) 2 false, none⟩,
  ⟨some 10, .fieldAddr (.s 3) 0, none⟩,
  ⟨some 11, .load 1 false (.s 10) 3 false, none⟩,
  ⟨some 12, .fieldAddr (.s 3) 1, none⟩,
  ⟨some 13, .load 1 false (.s 12) 3 false, none⟩,
  ⟨some 14, .call (.fn 42) [(.s 9), (.s 11), (.s 13)] false, none⟩,
  ⟨some 4, .mv (.s 14), none⟩] [4])
 .ret)
 .skip))
 (.seq (.region [⟨some 15, .load 2 true (.s 2) 2 false, none⟩,
  ⟨some 16, .fieldAddr (.s 3) 0, none⟩,
  ⟨some 17, .load 1 false (.s 16) 3 false, none⟩,
  ⟨some 18, .fieldAddr (.s 3) 2, none⟩,
  ⟨some 19, .load 1 false (.s 18) 3 false, none⟩,
  ⟨some 20, .call (.fn 42) [(.s 15), (.s 17), (.s 19)] false, none⟩,
  ⟨some 4, .mv (.s 20), none⟩] [4])
 .ret))) }

/-- table.copied -/
def g52 : GFun :=
 { nparams := 1, keepHeap := false, results := [.inl 2], body :=
 (.seq (.region [⟨some 2, .mv (.c (.sl 0 true .exact [])), none⟩] [0])
 (.seq (.seq (.region [⟨some 3, .mv (.s 0), none⟩,
  ⟨some 4, .len (.s 3) .l false, none⟩,
  ⟨some 5, .bin .eql (.s 4) (.c (.int .i64 0)), none⟩] [0, 5])
 (.cond (.s 5) (.seq (.region [⟨some 2, .mv (.c (.sl 0 true .exact [])), none⟩] [2])
 .ret)
 .skip))
 (.seq (.region [⟨some 6, .mv (.s 0), none⟩,
  ⟨some 7, .call (.fn 80) [(.s 6)] false, none⟩,
  ⟨some 2, .mv (.s 7), none⟩] [2])
 .ret))) }

/-- query.Bind -/
def g53 : GFun :=
 { nparams := 2, keepHeap := false, results := [.inr (4, 21, true)], body :=
 (.seq (.region [⟨some 2, .box (.s 0), none⟩,
  ⟨some 4, .alloc [.int .i64 0, .int .i64 0, .int .i64 0, .int .i64 0, .int .i64 0, .int .i64 0, .int .i64 0, .int .i64 0, .str [], .int .i64 0, .int .i64 0, .int .i64 0, .int .i64 0, .str [], .sl 0 true .exact [], .sl 0 true .exact [], .sl 0 true .exact [], .sl 0 true .exact [], .sl 0 true .exact [], .int .i64 0, .sl 0 true .exact []], none⟩] [1, 2, 4])
 (.seq (.region [⟨some 8, .load 21 true (.s 2) 2 false, none⟩,
  ⟨some 5, .alloc [.int .i64 0, .int .i64 0, .int .i64 0, .int .i64 0, .int .i64 0, .int .i64 0, .int .i64 0, .int .i64 0, .str [], .int .i64 0, .int .i64 0, .int .i64 0, .int .i64 0, .str [], .sl 0 true .exact [], .sl 0 true .exact [], .sl 0 true .exact [], .sl 0 true .exact [], .sl 0 true .exact [], .int .i64 0, .sl 0 true .exact []], none⟩,
  ⟨none, .store 21 (.s 5) (.s 8) 5 false, none⟩] [1, 2, 4, 5])
 (.seq (.region [⟨some 9, .fieldAddr (.s 2) 2, none⟩,
  ⟨some 10, .load 13 true (.s 9) 2 false, none⟩,
  ⟨some 11, .mv (.s 1), none⟩,
  ⟨some 12, .call (.fn 81) [(.s 10), (.s 11)] false, none⟩,
  ⟨some 13, .fieldAddr (.s 5) 2, none⟩,
  ⟨none, .store 13 (.s 13) (.s 12) 5 false, none⟩] [1, 2, 4, 5])
 (.seq (.region [⟨some 14, .fieldAddr (.s 2) 15, none⟩,
  ⟨some 15, .load 1 false (.s 14) 2 false, none⟩,
  ⟨some 16, .call (.fn 82) [(.s 15)] false, none⟩,
  ⟨some 17, .fieldAddr (.s 5) 15, none⟩,
  ⟨none, .store 1 (.s 17) (.s 16) 5 false, none⟩] [1, 2, 4, 5])
 (.seq (.region [⟨some 18, .fieldAddr (.s 2) 16, none⟩,
  ⟨some 19, .load 1 false (.s 18) 2 false, none⟩,
  ⟨some 20, .call (.fn 83) [(.s 19)] false, none⟩,
  ⟨some 21, .fieldAddr (.s 5) 16, none⟩,
  ⟨none, .store 1 (.s 21) (.s 20) 5 false, none⟩] [1, 2, 4, 5])
 (.seq (.region [⟨some 22, .fieldAddr (.s 2) 17, none⟩,
  ⟨some 23, .load 1 false (.s 22) 2 false, none⟩,
  ⟨some 24, .call (.fn 82) [(.s 23)] false, none⟩,
  ⟨some 25, .fieldAddr (.s 5) 17, none⟩,
  ⟨none, .store 1 (.s 25) (.s 24) 5 false, none⟩] [1, 2, 4, 5])
 (.seq (.region [⟨some 26, .fieldAddr (.s 2) 18, none⟩,
  ⟨some 27, .load 1 false (.s 26) 2 false, none⟩,
  ⟨some 28, .call (.fn 84) [(.s 27)] false, none⟩,
  ⟨some 29, .fieldAddr (.s 5) 18, none⟩,
  ⟨none, .store 1 (.s 29) (.s 28) 5 false, none⟩] [1, 2, 4, 5])
 (.seq (.region [⟨some 30, .fieldAddr (.s 5) 20, none⟩,
  ⟨none, .store 1 (.s 30) (.c (.sl 0 true .exact [])) 5 false, none⟩] [1, 2, 4, 5])
 (.seq (.seq (.region [⟨some 31, .fieldAddr (.s 2) 20, none⟩,
  ⟨some 32, .load 1 false (.s 31) 2 false, none⟩,
  ⟨some 33, .len (.s 32) .l false, none⟩,
  ⟨some 34, .mv (.c (.int .i64 0)), none⟩] [1, 4, 5, 32, 33, 34])
 (.block 0 (.loop [1, 4, 5, 32, 33, 34] (.seq (.region [⟨some 35, .bin .lss (.s 34) (.s 33), none⟩] [1, 4, 5, 32, 33, 34, 35])
 (.seq (.cond (.s 35) .skip
 (.exit 0))
 (.seq (.block 1 (.seq (.region [⟨some 36, .indexSl (.s 32) (.s 34) 21, none⟩,
  ⟨some 37, .load 21 true (.s 36) 0 true, none⟩,
  ⟨some 7, .alloc [.int .i64 0, .int .i64 0, .int .i64 0, .int .i64 0, .int .i64 0, .int .i64 0, .int .i64 0, .int .i64 0, .str [], .int .i64 0, .int .i64 0, .int .i64 0, .int .i64 0, .str [], .sl 0 true .exact [], .sl 0 true .exact [], .sl 0 true .exact [], .sl 0 true .exact [], .sl 0 true .exact [], .int .i64 0, .sl 0 true .exact []], none⟩,
  ⟨none, .store 21 (.s 7) (.s 37) 7 false, none⟩] [1, 4, 5, 7, 32, 33, 34])
 (.region [⟨some 38, .fieldAddr (.s 5) 20, none⟩,
  ⟨some 39, .loadTake (.s 38) 5 false, none⟩,
  ⟨some 40, .load 21 true (.s 7) 7 false, none⟩,
  ⟨some 41, .mv (.s 1), none⟩,
  ⟨some 42, .call (.fn 53) [(.s 40), (.s 41)] false, none⟩,
  ⟨some 43, .bsl 21 1 [.int .i64 0, .int .i64 0, .int .i64 0, .int .i64 0, .int .i64 0, .int .i64 0, .int .i64 0, .int .i64 0, .str [], .int .i64 0, .int .i64 0, .int .i64 0, .int .i64 0, .str [], .sl 0 true .exact [], .sl 0 true .exact [], .sl 0 true .exact [], .sl 0 true .exact [], .sl 0 true .exact [], .int .i64 0, .sl 0 true .exact []] [(0, (.s 42))] false, none⟩,
  ⟨some 44, .append (.s 39) (.s 43) 21 280 false false, none⟩,
  ⟨some 45, .fieldAddr (.s 5) 20, none⟩,
  ⟨none, .storeTake (.s 45) 44 5 false, none⟩] [1, 4, 5, 32, 33, 34])))
 (.region [⟨some 46, .bin .add (.s 34) (.c (.int .i64 1)), none⟩,
  ⟨some 34, .mv (.s 46), none⟩] [1, 4, 5, 32, 33, 34])))))))
 (.seq (.region [⟨some 47, .load 21 true (.s 5) 5 false, none⟩,
  ⟨none, .store 21 (.s 4) (.s 47) 4 false, none⟩] [4])
 .ret)))))))))) }

/-- evaluate.Rows -/
def g54 : GFun :=
 { nparams := 3, keepHeap := false, results := [.inl 6, .inl 7], body :=
 (.seq (.region [⟨some 3, .box (.s 0), none⟩,
  ⟨some 4, .box (.s 1), none⟩,
  ⟨some 5, .box (.s 2), none⟩,
  ⟨some 6, .mv (.c (.sl 0 true .exact [])), none⟩,
  ⟨some 7, .mv (.c (.int .i64 0)), none⟩] [3, 4, 5])
 (.seq (.seq (.region [⟨some 17, .load 2 true (.s 3) 3 false, none⟩,
  ⟨some 18, .load 21 true (.s 5) 5 false, none⟩,
  ⟨some 19, .call (.fn 18) [(.s 17), (.c (.sl 0 true .exact [])), (.s 18)] false, none⟩,
  ⟨some 16, .mv (.s 19), none⟩,
  ⟨some 20, .extract (.s 16) 0, none⟩,
  ⟨some 21, .extract (.s 16) 1, none⟩,
  ⟨some 8, .mv (.s 20), none⟩,
  ⟨some 9, .mv (.s 21), none⟩] [3, 4, 5, 9])
 (.seq (.region [⟨some 22, .mv (.s 9), none⟩,
  ⟨some 23, .bin .neq (.s 22) (.c (.int .i64 0)), none⟩] [3, 4, 5, 9, 23])
 (.cond (.s 23) (.seq (.region [⟨some 24, .mv (.s 9), none⟩,
  ⟨some 6, .mv (.c (.sl 0 true .exact [])), none⟩,
  ⟨some 7, .mv (.s 24), none⟩] [6, 7])
 .ret)
 .skip)))
 (.seq (.seq (.region [⟨some 25, .load 2 true (.s 3) 3 false, none⟩,
  ⟨some 26, .load 1 true (.s 4) 4 false, none⟩,
  ⟨some 27, .call (.fn 23) [(.s 25), (.c (.int .i64 3)), (.s 26)] false, none⟩,
  ⟨some 10, .mv (.s 27), none⟩] [4, 5, 10])
 (.seq (.region [⟨some 28, .mv (.s 10), none⟩,
  ⟨some 29, .bin .neq (.s 28) (.c (.int .i64 0)), none⟩] [4, 5, 10, 29])
 (.cond (.s 29) (.seq (.region [⟨some 30, .mv (.s 10), none⟩,
  ⟨some 6, .mv (.c (.sl 0 true .exact [])), none⟩,
  ⟨some 7, .mv (.s 30), none⟩] [6, 7])
 .ret)
 .skip)))
 (.seq (.region [⟨some 11, .mv (.c (.sl 0 true .exact [])), none⟩] [4, 5, 11])
 (.seq (.seq (.region [⟨some 31, .load 21 true (.s 5) 5 false, none⟩,
  ⟨some 32, .call (.fn 85) [(.s 31)] false, none⟩,
  ⟨some 33, .len (.s 32) .l false, none⟩,
  ⟨some 34, .mv (.c (.int .i64 0)), none⟩] [4, 5, 11, 32, 33, 34])
 (.block 0 (.loop [4, 5, 11, 32, 33, 34] (.seq (.region [⟨some 35, .bin .lss (.s 34) (.s 33), none⟩] [4, 5, 11, 32, 33, 34, 35])
 (.seq (.cond (.s 35) .skip
 (.exit 0))
 (.seq (.block 1 (.seq (.region [⟨some 36, .indexSl (.s 32) (.s 34) 1, none⟩,
  ⟨some 37, .load 1 false (.s 36) 0 true, none⟩,
  ⟨some 13, .mv (.s 37), none⟩] [4, 5, 11, 13, 32, 33, 34])
 (.region [⟨some 38, .take 11, none⟩,
  ⟨some 39, .fieldAddr (.s 4) 0, none⟩,
  ⟨some 40, .load 1 false (.s 39) 4 false, none⟩,
  ⟨some 41, .mv (.s 13), none⟩,
  ⟨some 42, .indexSl (.s 40) (.s 41) 1, none⟩,
  ⟨some 43, .load 1 false (.s 42) 0 true, none⟩,
  ⟨some 44, .bsl 1 1 [.sl 0 true .exact []] [(0, (.s 43))] false, none⟩,
  ⟨some 45, .append (.s 38) (.s 44) 1 24 false false, none⟩,
  ⟨some 11, .take 45, none⟩] [4, 5, 11, 32, 33, 34])))
 (.region [⟨some 46, .bin .add (.s 34) (.c (.int .i64 1)), none⟩,
  ⟨some 34, .mv (.s 46), none⟩] [4, 5, 11, 32, 33, 34])))))))
 (.seq (.region [⟨some 48, .mv (.s 11), none⟩,
  ⟨some 49, .load 21 true (.s 5) 5 false, none⟩,
  ⟨some 50, .call (.fn 86) [(.s 48), (.c (.int .i64 0)), (.s 49)] false, none⟩,
  ⟨some 47, .mv (.s 50), none⟩,
  ⟨some 51, .extract (.s 47) 0, none⟩,
  ⟨some 52, .extract (.s 47) 1, none⟩,
  ⟨some 14, .mv (.s 51), none⟩,
  ⟨some 15, .mv (.s 52), none⟩] [14])
 (.seq (.region [⟨some 53, .mv (.s 14), none⟩,
  ⟨some 54, .call (.fn 87) [(.s 53)] false, none⟩,
  ⟨some 6, .mv (.s 54), none⟩,
  ⟨some 7, .mv (.c (.int .i64 0)), none⟩] [6, 7])
 .ret))))))) }

/-- permit.Denials$1 -/
def g55 : GFun :=
 { nparams := 5, keepHeap := false, results := [.inl 7], body :=
 (.seq (.region [⟨some 5, .hbox (.s 0), none⟩,
  ⟨some 6, .hbox (.s 1), none⟩,
  ⟨some 7, .mv (.c (.bool false)), none⟩] [2, 3, 4, 5, 6])
 (.seq (.region [⟨some 8, .load 1 false (.s 2) 0 true, none⟩,
  ⟨some 9, .fieldAddr (.s 3) 0, none⟩,
  ⟨some 10, .load 1 false (.s 9) 0 true, none⟩,
  ⟨some 11, .lookup (.s 8) (.s 10) (.sl 0 true .exact []) false false, none⟩,
  ⟨some 12, .mkFunc (.func 57) [] [(.s 5), (.s 4), (.s 6)], none⟩,
  ⟨some 13, .call (.fn 56) [(.s 11), (.s 12)] false, none⟩,
  ⟨some 7, .mv (.s 13), none⟩] [7])
 .ret)) }

/-- slices.ContainsFunc[[]permit.writer,permit.writer] -/
def g56 : GFun :=
 { nparams := 2, keepHeap := false, results := [.inl 4], body :=
 (.seq (.region [⟨some 4, .mv (.c (.bool false)), none⟩] [0, 1])
 (.seq (.region [⟨some 5, .mv (.s 0), none⟩,
  ⟨some 6, .mv (.s 1), none⟩,
  ⟨some 7, .call (.fn 88) [(.s 5), (.s 6)] false, none⟩,
  ⟨some 8, .bin .geq (.s 7) (.c (.int .i64 0)), none⟩,
  ⟨some 4, .mv (.s 8), none⟩] [4])
 .ret)) }

/-- permit.Denials$1$1 -/
def g57 : GFun :=
 { nparams := 4, keepHeap := false, results := [.inl 5], body :=
 (.seq (.region [⟨some 4, .box (.s 0), none⟩,
  ⟨some 5, .mv (.c (.bool false)), none⟩] [1, 2, 3, 4])
 (.seq (.region [⟨some 6, .load 1 false (.s 1) 0 true, none⟩,
  ⟨some 7, .bin .lss (.s 6) (.c (.int .i64 0)), none⟩,
  ⟨some 8, .mv (.s 7), none⟩,
  ⟨some 9, .fieldAddr (.s 4) 0, some (8, false)⟩,
  ⟨some 10, .load 1 false (.s 9) 4 false, some (8, false)⟩,
  ⟨some 11, .load 1 false (.s 1) 0 true, some (8, false)⟩,
  ⟨some 12, .call (.fn 58) [(.s 10), (.s 11)] false, some (8, false)⟩,
  ⟨some 13, .pick (.s 8) (.c (.bool true)) (.s 12), none⟩,
  ⟨some 14, .mv (.s 13), none⟩,
  ⟨some 15, .load 3 true (.s 4) 4 false, some (14, true)⟩,
  ⟨some 16, .load 1 false (.s 2) 0 true, some (14, true)⟩,
  ⟨some 17, .load 1 false (.s 3) 0 true, some (14, true)⟩,
  ⟨some 18, .call (.fn 59) [(.s 15), (.s 16), (.s 17)] false, some (14, true)⟩,
  ⟨some 19, .pick (.s 14) (.s 18) (.c (.bool false)), none⟩,
  ⟨some 5, .mv (.s 19), none⟩] [5])
 .ret)) }

/-- (permit.writer).names -/
def g59 : GFun :=
 { nparams := 3, keepHeap := false, results := [.inl 6], body :=
 (.seq (.region [⟨some 3, .box (.s 0), none⟩,
  ⟨some 6, .mv (.c (.bool false)), none⟩] [1, 2, 3])
 (.seq (.seq (.region [⟨some 7, .mv (.s 2), none⟩] [1, 3, 7])
 (.cond (.s 7) (.seq (.region [⟨some 8, .fieldAddr (.s 3) 2, none⟩,
  ⟨some 9, .load 1 false (.s 8) 3 false, none⟩,
  ⟨some 10, .mv (.s 1), none⟩,
  ⟨some 11, .call (.fn 63) [(.s 9), (.s 10)] false, none⟩,
  ⟨some 6, .mv (.s 11), none⟩] [6])
 .ret)
 .skip))
 (.seq (.region [⟨some 12, .fieldAddr (.s 3) 1, none⟩,
  ⟨some 13, .load 1 false (.s 12) 3 false, none⟩,
  ⟨some 14, .mv (.s 1), none⟩,
  ⟨some 15, .call (.fn 63) [(.s 13), (.s 14)] false, none⟩,
  ⟨some 6, .mv (.s 15), none⟩] [6])
 .ret))) }

/-- permit.denial -/
def g60 : GFun :=
 { nparams := 5, keepHeap := false, results := [.inl 10], body :=
 (.seq (.region [⟨some 10, .mv (.c (.sl 0 true .exact [])), none⟩] [0, 1, 2, 3, 4])
 (.seq (.region [⟨some 11, .mv (.c (.sl 0 true .exact [])), none⟩] [0, 1, 2, 3, 4, 11])
 (.seq (.seq (.region [⟨some 14, .mv (.s 4), none⟩,
  ⟨some 15, .len (.s 14) .l false, none⟩,
  ⟨some 16, .mv (.c (.int .i64 0)), none⟩] [0, 1, 2, 3, 11, 14, 15, 16])
 (.block 0 (.loop [0, 1, 2, 3, 11, 14, 15, 16] (.seq (.region [⟨some 17, .bin .lss (.s 16) (.s 15), none⟩] [0, 1, 2, 3, 11, 14, 15, 16, 17])
 (.seq (.cond (.s 17) .skip
 (.exit 0))
 (.seq (.block 1 (.seq (.region [⟨some 18, .indexSl (.s 14) (.s 16) 1, none⟩,
  ⟨some 19, .load 1 false (.s 18) 0 true, none⟩,
  ⟨some 13, .mv (.s 19), none⟩] [0, 1, 2, 3, 11, 13, 14, 15, 16])
 (.region [⟨some 20, .take 11, none⟩,
  ⟨some 21, .mv (.s 0), none⟩,
  ⟨some 22, .mv (.s 3), none⟩,
  ⟨some 23, .mv (.s 1), none⟩,
  ⟨some 24, .mv (.s 2), none⟩,
  ⟨some 25, .call (.fn 80) [(.s 24)] false, none⟩,
  ⟨some 26, .mv (.s 13), none⟩,
  ⟨some 27, .build [.int .i64 0, .bool false, .int .i64 0, .sl 0 true .exact [], .int .i64 0] [(0, 1, (.s 21)), (1, 1, (.s 22)), (2, 1, (.s 23)), (3, 1, (.s 25)), (4, 1, (.s 26))], none⟩,
  ⟨some 28, .bsl 5 1 [.int .i64 0, .bool false, .int .i64 0, .sl 0 true .exact [], .int .i64 0] [(0, (.s 27))] false, none⟩,
  ⟨some 29, .append (.s 20) (.s 28) 5 56 false false, none⟩,
  ⟨some 11, .take 29, none⟩] [0, 1, 2, 3, 11, 14, 15, 16])))
 (.region [⟨some 30, .bin .add (.s 16) (.c (.int .i64 1)), none⟩,
  ⟨some 16, .mv (.s 30), none⟩] [0, 1, 2, 3, 11, 14, 15, 16])))))))
 (.seq (.region [⟨some 31, .mv (.s 11), none⟩,
  ⟨some 10, .mv (.s 31), none⟩] [10])
 .ret)))) }

/-- copies.Row -/
def g61 : GFun :=
 { nparams := 1, keepHeap := true, results := [.inl 2], body :=
 (.seq (.region [⟨some 2, .mv (.c (.sl 0 true .exact [])), none⟩] [0])
 (.seq (.region [⟨some 3, .mv (.s 0), none⟩,
  ⟨some 4, .call (.fn 80) [(.s 3)] false, none⟩,
  ⟨some 2, .mv (.s 4), none⟩] [2])
 .ret)) }

/-- integrity.find -/
def g62 : GFun :=
 { nparams := 2, keepHeap := false, results := [.inl 4], body :=
 (.seq (.region [⟨some 2, .box (.s 0), none⟩,
  ⟨some 3, .box (.s 1), none⟩,
  ⟨some 4, .mv (.c (.sl 0 true .exact [])), none⟩] [2, 3])
 (.seq (.region [⟨some 5, .mv (.c (.sl 0 true .exact [])), none⟩] [2, 3, 5])
 (.seq (.seq (.region [⟨some 16, .fieldAddr (.s 3) 0, none⟩,
  ⟨some 17, .load 1 false (.s 16) 3 false, none⟩,
  ⟨some 18, .len (.s 17) .l false, none⟩,
  ⟨some 19, .mv (.c (.int .i64 0)), none⟩] [2, 3, 5, 17, 18, 19])
 (.block 0 (.loop [2, 3, 5, 17, 18, 19] (.seq (.region [⟨some 20, .bin .lss (.s 19) (.s 18), none⟩] [2, 3, 5, 17, 18, 19, 20])
 (.seq (.cond (.s 20) .skip
 (.exit 0))
 (.seq (.block 1 (.seq (.region [⟨some 21, .mv (.s 19), none⟩,
  ⟨some 22, .indexSl (.s 17) (.s 19) 1, none⟩,
  ⟨some 23, .load 1 false (.s 22) 0 true, none⟩,
  ⟨some 6, .mv (.s 21), none⟩,
  ⟨some 7, .mv (.s 23), none⟩] [2, 3, 5, 6, 7, 17, 18, 19])
 (.seq (.region [⟨some 24, .mv (.s 7), none⟩,
  ⟨some 25, .len (.s 24) .l false, none⟩,
  ⟨some 26, .mv (.c (.int .i64 0)), none⟩] [2, 3, 5, 6, 17, 18, 19, 24, 25, 26])
 (.block 2 (.loop [2, 3, 5, 6, 17, 18, 19, 24, 25, 26] (.seq (.region [⟨some 27, .bin .lss (.s 26) (.s 25), none⟩] [2, 3, 5, 6, 17, 18, 19, 24, 25, 26, 27])
 (.seq (.cond (.s 27) .skip
 (.exit 2))
 (.seq (.block 3 (.seq (.region [⟨some 28, .indexSl (.s 24) (.s 26) 1, none⟩,
  ⟨some 29, .load 1 false (.s 28) 0 true, none⟩,
  ⟨some 9, .mv (.s 29), none⟩] [2, 3, 5, 6, 9, 17, 18, 19, 24, 25, 26])
 (.seq (.seq (.region [⟨some 30, .fieldAddr (.s 2) 1, none⟩,
  ⟨some 31, .load 1 false (.s 30) 2 false, none⟩,
  ⟨some 32, .mv (.s 6), none⟩,
  ⟨some 33, .indexSl (.s 31) (.s 32) 5, none⟩,
  ⟨some 34, .fieldAddr (.s 33) 3, none⟩,
  ⟨some 35, .load 1 false (.s 34) 0 true, none⟩,
  ⟨some 36, .len (.s 35) .l false, none⟩,
  ⟨some 37, .mv (.c (.int .i64 0)), none⟩] [2, 3, 5, 6, 9, 17, 18, 19, 24, 25, 26, 35, 36, 37])
 (.block 4 (.loop [2, 3, 5, 6, 9, 17, 18, 19, 24, 25, 26, 35, 36, 37] (.seq (.region [⟨some 38, .bin .lss (.s 37) (.s 36), none⟩] [2, 3, 5, 6, 9, 17, 18, 19, 24, 25, 26, 35, 36, 37, 38])
 (.seq (.cond (.s 38) .skip
 (.exit 4))
 (.seq (.block 5 (.seq (.region [⟨some 39, .mv (.s 37), none⟩,
  ⟨some 40, .indexSl (.s 35) (.s 37) 2, none⟩,
  ⟨some 41, .load 2 true (.s 40) 0 true, none⟩,
  ⟨some 11, .alloc [.sl 0 true .exact [], .int .i64 0], none⟩,
  ⟨some 10, .mv (.s 39), none⟩,
  ⟨none, .store 2 (.s 11) (.s 41) 11 false, none⟩] [2, 3, 5, 6, 9, 10, 11, 17, 18, 19, 24, 25, 26, 35, 36, 37])
 (.seq (.region [⟨some 43, .load 2 true (.s 2) 2 false, none⟩,
  ⟨some 44, .load 1 true (.s 3) 3 false, none⟩,
  ⟨some 45, .fieldAddr (.s 11) 1, none⟩,
  ⟨some 46, .load 1 false (.s 45) 11 false, none⟩,
  ⟨some 47, .mv (.s 9), none⟩,
  ⟨some 48, .fieldAddr (.s 11) 0, none⟩,
  ⟨some 49, .load 1 false (.s 48) 11 false, none⟩,
  ⟨some 50, .call (.fn 64) [(.s 47), (.s 49)] false, none⟩,
  ⟨some 51, .call (.fn 46) [(.s 43), (.s 44), (.s 46), (.s 50)] false, none⟩,
  ⟨some 42, .mv (.s 51), none⟩,
  ⟨some 52, .extract (.s 42) 0, none⟩,
  ⟨some 53, .extract (.s 42) 1, none⟩,
  ⟨some 12, .mv (.s 52), none⟩,
  ⟨some 13, .mv (.s 53), none⟩] [2, 3, 5, 6, 9, 10, 13, 17, 18, 19, 24, 25, 26, 35, 36, 37])
 (.seq (.region [⟨some 54, .mv (.s 13), none⟩,
  ⟨some 55, .un .not (.s 54), none⟩] [2, 3, 5, 6, 9, 10, 17, 18, 19, 24, 25, 26, 35, 36, 37, 55])
 (.cond (.s 55) (.region [⟨some 56, .take 5, none⟩,
  ⟨some 57, .mv (.s 6), none⟩,
  ⟨some 58, .load 2 true (.s 2) 2 false, none⟩,
  ⟨some 59, .mv (.s 6), none⟩,
  ⟨some 60, .mv (.s 9), none⟩,
  ⟨some 61, .call (.fn 42) [(.s 58), (.s 59), (.s 60)] false, none⟩,
  ⟨some 62, .mv (.s 10), none⟩,
  ⟨some 63, .build [.int .i64 0, .int .i64 0, .sl 0 true .exact [], .int .i64 0] [(0, 1, (.c (.int .i64 1))), (1, 1, (.s 57)), (2, 1, (.s 61)), (3, 1, (.s 62))], none⟩,
  ⟨some 64, .bsl 4 1 [.int .i64 0, .int .i64 0, .sl 0 true .exact [], .int .i64 0] [(0, (.s 63))] false, none⟩,
  ⟨some 65, .append (.s 56) (.s 64) 4 48 false false, none⟩,
  ⟨some 5, .take 65, none⟩] [2, 3, 5, 6, 9, 17, 18, 19, 24, 25, 26, 35, 36, 37])
 .skip)))))
 (.region [⟨some 66, .bin .add (.s 37) (.c (.int .i64 1)), none⟩,
  ⟨some 37, .mv (.s 66), none⟩] [2, 3, 5, 6, 9, 17, 18, 19, 24, 25, 26, 35, 36, 37])))))))
 (.seq (.region [⟨some 67, .fieldAddr (.s 2) 1, none⟩,
  ⟨some 68, .load 1 false (.s 67) 2 false, none⟩,
  ⟨some 69, .mv (.s 6), none⟩,
  ⟨some 70, .indexSl (.s 68) (.s 69) 5, none⟩,
  ⟨some 71, .fieldAddr (.s 70) 4, none⟩,
  ⟨some 72, .load 1 false (.s 71) 0 true, none⟩,
  ⟨some 73, .len (.s 72) .l false, none⟩,
  ⟨some 74, .mv (.c (.int .i64 0)), none⟩] [2, 3, 5, 6, 9, 17, 18, 19, 24, 25, 26, 72, 73, 74])
 (.block 6 (.loop [2, 3, 5, 6, 9, 17, 18, 19, 24, 25, 26, 72, 73, 74] (.seq (.region [⟨some 75, .bin .lss (.s 74) (.s 73), none⟩] [2, 3, 5, 6, 9, 17, 18, 19, 24, 25, 26, 72, 73, 74, 75])
 (.seq (.cond (.s 75) .skip
 (.exit 6))
 (.seq (.block 7 (.seq (.region [⟨some 76, .mv (.s 74), none⟩,
  ⟨some 77, .indexSl (.s 72) (.s 74) 13, none⟩,
  ⟨some 78, .load 13 true (.s 77) 0 true, none⟩,
  ⟨some 15, .alloc [.int .i64 0, .int .i64 0, .int .i64 0, .int .i64 0, .int .i64 0, .int .i64 0, .str [], .int .i64 0, .int .i64 0, .int .i64 0, .int .i64 0, .str [], .sl 0 true .exact []], none⟩,
  ⟨some 14, .mv (.s 76), none⟩,
  ⟨none, .store 13 (.s 15) (.s 78) 15 false, none⟩] [2, 3, 5, 6, 9, 14, 15, 17, 18, 19, 24, 25, 26, 72, 73, 74])
 (.seq (.region [⟨some 79, .load 13 true (.s 15) 15 false, none⟩,
  ⟨some 80, .mv (.s 9), none⟩,
  ⟨some 81, .call (.fn 90) [(.s 79), (.s 80), (.c (.sl 0 true .exact []))] false, none⟩,
  ⟨some 82, .un .not (.s 81), none⟩] [2, 3, 5, 6, 9, 14, 17, 18, 19, 24, 25, 26, 72, 73, 74, 82])
 (.cond (.s 82) (.region [⟨some 83, .take 5, none⟩,
  ⟨some 84, .mv (.s 6), none⟩,
  ⟨some 85, .load 2 true (.s 2) 2 false, none⟩,
  ⟨some 86, .mv (.s 6), none⟩,
  ⟨some 87, .mv (.s 9), none⟩,
  ⟨some 88, .call (.fn 42) [(.s 85), (.s 86), (.s 87)] false, none⟩,
  ⟨some 89, .mv (.s 14), none⟩,
  ⟨some 90, .build [.int .i64 0, .int .i64 0, .sl 0 true .exact [], .int .i64 0] [(0, 1, (.c (.int .i64 2))), (1, 1, (.s 84)), (2, 1, (.s 88)), (3, 1, (.s 89))], none⟩,
  ⟨some 91, .bsl 4 1 [.int .i64 0, .int .i64 0, .sl 0 true .exact [], .int .i64 0] [(0, (.s 90))] false, none⟩,
  ⟨some 92, .append (.s 83) (.s 91) 4 48 false false, none⟩,
  ⟨some 5, .take 92, none⟩] [2, 3, 5, 6, 9, 17, 18, 19, 24, 25, 26, 72, 73, 74])
 .skip))))
 (.region [⟨some 93, .bin .add (.s 74) (.c (.int .i64 1)), none⟩,
  ⟨some 74, .mv (.s 93), none⟩] [2, 3, 5, 6, 9, 17, 18, 19, 24, 25, 26, 72, 73, 74]))))))))))
 (.region [⟨some 94, .bin .add (.s 26) (.c (.int .i64 1)), none⟩,
  ⟨some 26, .mv (.s 94), none⟩] [2, 3, 5, 6, 17, 18, 19, 24, 25, 26])))))))))
 (.region [⟨some 95, .bin .add (.s 19) (.c (.int .i64 1)), none⟩,
  ⟨some 19, .mv (.s 95), none⟩] [2, 3, 5, 17, 18, 19])))))))
 (.seq (.region [⟨some 96, .mv (.s 5), none⟩,
  ⟨some 97, .call (.fn 92) [] false, none⟩,
  ⟨some 98, .mkFunc (.func 93) [(.s 97)] [], none⟩,
  ⟨some 99, .call (.fn 91) [(.s 96), (.s 98)] false, none⟩] [5])
 (.seq (.region [⟨some 100, .mv (.s 5), none⟩,
  ⟨some 4, .mv (.s 100), none⟩] [4])
 .ret))))) }

/-- value.Has -/
def g63 : GFun :=
 { nparams := 2, keepHeap := false, results := [.inl 4], body :=
 (.seq (.region [⟨some 4, .mv (.c (.bool false)), none⟩] [0, 1])
 (.seq (.seq (.region [⟨some 7, .mv (.s 0), none⟩,
  ⟨some 8, .len (.s 7) .l false, none⟩,
  ⟨some 9, .mv (.c (.int .i64 0)), none⟩] [1, 7, 8, 9])
 (.block 0 (.loop [1, 7, 8, 9] (.seq (.region [⟨some 10, .bin .lss (.s 9) (.s 8), none⟩] [1, 7, 8, 9, 10])
 (.seq (.cond (.s 10) .skip
 (.exit 0))
 (.seq (.block 1 (.seq (.region [⟨some 11, .indexSl (.s 7) (.s 9) 1, none⟩,
  ⟨some 12, .load 1 false (.s 11) 0 true, none⟩,
  ⟨some 6, .mv (.s 12), none⟩] [1, 6, 7, 8, 9])
 (.seq (.region [⟨some 13, .mv (.s 6), none⟩,
  ⟨some 14, .mv (.s 1), none⟩,
  ⟨some 15, .call (.fn 29) [(.s 13), (.s 14)] false, none⟩,
  ⟨some 16, .bin .eql (.s 15) (.c (.int .i64 0)), none⟩] [1, 7, 8, 9, 16])
 (.cond (.s 16) (.seq (.region [⟨some 4, .mv (.c (.bool true)), none⟩] [4])
 .ret)
 .skip))))
 (.region [⟨some 17, .bin .add (.s 9) (.c (.int .i64 1)), none⟩,
  ⟨some 9, .mv (.s 17), none⟩] [1, 7, 8, 9])))))))
 (.seq (.region [⟨some 4, .mv (.c (.bool false)), none⟩] [4])
 .ret))) }

/-- integrity.cells -/
def g64 : GFun :=
 { nparams := 2, keepHeap := false, results := [.inl 4], body :=
 (.seq (.region [⟨some 4, .mv (.c (.sl 0 true .exact [])), none⟩] [0, 1])
 (.seq (.region [⟨some 8, .mv (.s 1), none⟩,
  ⟨some 9, .len (.s 8) .l false, none⟩,
  ⟨some 10, .mkSlice 3 32 [.int .i64 0, .int .i64 0, .str []] (.c (.int .i64 0)) (.s 9) true, none⟩,
  ⟨some 5, .take 10, none⟩] [0, 1, 5])
 (.seq (.seq (.region [⟨some 11, .mv (.s 1), none⟩,
  ⟨some 12, .len (.s 11) .l false, none⟩,
  ⟨some 13, .mv (.c (.int .i64 0)), none⟩] [0, 5, 11, 12, 13])
 (.block 0 (.loop [0, 5, 11, 12, 13] (.seq (.region [⟨some 14, .bin .lss (.s 13) (.s 12), none⟩] [0, 5, 11, 12, 13, 14])
 (.seq (.cond (.s 14) .skip
 (.exit 0))
 (.seq (.block 1 (.seq (.region [⟨some 15, .indexSl (.s 11) (.s 13) 1, none⟩,
  ⟨some 16, .load 1 false (.s 15) 0 true, none⟩,
  ⟨some 7, .mv (.s 16), none⟩] [0, 5, 7, 11, 12, 13])
 (.region [⟨some 17, .take 5, none⟩,
  ⟨some 18, .mv (.s 0), none⟩,
  ⟨some 19, .mv (.s 7), none⟩,
  ⟨some 20, .indexSl (.s 18) (.s 19) 3, none⟩,
  ⟨some 21, .load 3 true (.s 20) 0 true, none⟩,
  ⟨some 22, .bsl 3 1 [.int .i64 0, .int .i64 0, .str []] [(0, (.s 21))] false, none⟩,
  ⟨some 23, .append (.s 17) (.s 22) 3 32 false false, none⟩,
  ⟨some 5, .take 23, none⟩] [0, 5, 11, 12, 13])))
 (.region [⟨some 24, .bin .add (.s 13) (.c (.int .i64 1)), none⟩,
  ⟨some 13, .mv (.s 24), none⟩] [0, 5, 11, 12, 13])))))))
 (.seq (.region [⟨some 25, .mv (.s 5), none⟩,
  ⟨some 4, .mv (.s 25), none⟩] [4])
 .ret)))) }

/-- value.Compare -/
def g65 : GFun :=
 { nparams := 2, keepHeap := false, results := [.inl 4], body :=
 (.seq (.region [⟨some 2, .box (.s 0), none⟩,
  ⟨some 3, .box (.s 1), none⟩,
  ⟨some 4, .mv (.c (.int .i64 0)), none⟩] [2, 3])
 (.seq (.block 0 (.seq (.region [⟨some 6, .load 3 true (.s 2) 2 false, none⟩,
  ⟨some 7, .load 3 true (.s 3) 3 false, none⟩,
  ⟨some 8, .eqv false true [.i, .i, .s] (.s 6) (.s 7), none⟩,
  ⟨some 5, .mv (.s 8), none⟩] [2, 3, 5])
 (.cond (.s 5) (.seq (.region [⟨some 4, .mv (.c (.int .i64 0)), none⟩] [4])
 .ret)
 (.seq (.region [⟨some 10, .fieldAddr (.s 2) 0, none⟩,
  ⟨some 11, .load 1 false (.s 10) 2 false, none⟩,
  ⟨some 12, .fieldAddr (.s 3) 0, none⟩,
  ⟨some 13, .load 1 false (.s 12) 3 false, none⟩,
  ⟨some 14, .bin .neq (.s 11) (.s 13), none⟩,
  ⟨some 9, .mv (.s 14), none⟩] [2, 3, 9])
 (.cond (.s 9) (.seq (.seq (.region [⟨some 15, .fieldAddr (.s 2) 0, none⟩,
  ⟨some 16, .load 1 false (.s 15) 2 false, none⟩,
  ⟨some 17, .fieldAddr (.s 3) 0, none⟩,
  ⟨some 18, .load 1 false (.s 17) 3 false, none⟩,
  ⟨some 19, .bin .lss (.s 16) (.s 18), none⟩] [19])
 (.cond (.s 19) (.seq (.region [⟨some 4, .mv (.c (.int .i64 (-1))), none⟩] [4])
 .ret)
 .skip))
 (.seq (.region [⟨some 4, .mv (.c (.int .i64 1)), none⟩] [4])
 .ret))
 (.seq (.region [⟨some 21, .fieldAddr (.s 2) 1, none⟩,
  ⟨some 22, .load 1 false (.s 21) 2 false, none⟩,
  ⟨some 23, .fieldAddr (.s 3) 1, none⟩,
  ⟨some 24, .load 1 false (.s 23) 3 false, none⟩,
  ⟨some 25, .bin .neq (.s 22) (.s 24), none⟩,
  ⟨some 20, .mv (.s 25), none⟩] [2, 3, 20])
 (.cond (.s 20) (.seq (.seq (.region [⟨some 26, .fieldAddr (.s 2) 1, none⟩,
  ⟨some 27, .load 1 false (.s 26) 2 false, none⟩,
  ⟨some 28, .fieldAddr (.s 3) 1, none⟩,
  ⟨some 29, .load 1 false (.s 28) 3 false, none⟩,
  ⟨some 30, .bin .lss (.s 27) (.s 29), none⟩] [30])
 (.cond (.s 30) (.seq (.region [⟨some 4, .mv (.c (.int .i64 (-1))), none⟩] [4])
 .ret)
 .skip))
 (.seq (.region [⟨some 4, .mv (.c (.int .i64 1)), none⟩] [4])
 .ret))
 (.seq (.region [⟨some 32, .fieldAddr (.s 2) 2, none⟩,
  ⟨some 33, .load 1 false (.s 32) 2 false, none⟩,
  ⟨some 34, .fieldAddr (.s 3) 2, none⟩,
  ⟨some 35, .load 1 false (.s 34) 3 false, none⟩,
  ⟨some 36, .bin .lss (.s 33) (.s 35), none⟩,
  ⟨some 31, .mv (.s 36), none⟩] [31])
 (.cond (.s 31) (.seq (.region [⟨some 4, .mv (.c (.int .i64 (-1))), none⟩] [4])
 .ret)
 .skip)))))))))
 (.seq (.region [⟨some 4, .mv (.c (.int .i64 1)), none⟩] [4])
 .ret))) }

/-- schema.name -/
def g66 : GFun :=
 { nparams := 1, keepHeap := false, results := [.inl 2], body :=
 (.seq (.region [⟨some 2, .mv (.c (.bool false)), none⟩] [0])
 (.seq (.seq (.region [⟨some 6, .mv (.s 0), none⟩,
  ⟨some 7, .len (.s 6) .s false, none⟩,
  ⟨some 8, .bin .lss (.s 7) (.c (.int .i64 1)), none⟩,
  ⟨some 9, .mv (.s 8), none⟩,
  ⟨some 10, .mv (.s 0), some (9, false)⟩,
  ⟨some 11, .len (.s 10) .s false, some (9, false)⟩,
  ⟨some 12, .bin .gtr (.s 11) (.c (.int .i64 32)), some (9, false)⟩,
  ⟨some 13, .pick (.s 9) (.c (.bool true)) (.s 12), none⟩] [0, 13])
 (.cond (.s 13) (.seq (.region [⟨some 2, .mv (.c (.bool false)), none⟩] [2])
 .ret)
 .skip))
 (.seq (.seq (.region [⟨some 14, .mv (.s 0), none⟩,
  ⟨some 15, .range (.s 14), none⟩] [15])
 (.block 0 (.loop [15] (.seq (.region [⟨some 16, .next (.s 15), none⟩,
  ⟨some 17, .extract (.s 16) 0, none⟩] [15, 16, 17])
 (.seq (.cond (.s 17) .skip
 (.exit 0))
 (.block 1 (.seq (.region [⟨some 18, .extract (.s 16) 1, none⟩,
  ⟨some 19, .extract (.s 16) 2, none⟩,
  ⟨some 3, .mv (.s 18), none⟩,
  ⟨some 4, .mv (.s 19), none⟩] [3, 4, 15])
 (.seq (.region [⟨some 20, .mv (.s 4), none⟩,
  ⟨some 21, .bin .geq (.s 20) (.c (.int .i32 97)), none⟩,
  ⟨some 22, .mv (.s 21), none⟩,
  ⟨some 23, .mv (.s 4), some (22, true)⟩,
  ⟨some 24, .bin .leq (.s 23) (.c (.int .i32 122)), some (22, true)⟩,
  ⟨some 25, .pick (.s 22) (.s 24) (.c (.bool false)), none⟩,
  ⟨some 5, .mv (.s 25), none⟩] [3, 4, 5, 15])
 (.seq (.region [⟨some 26, .mv (.s 5), none⟩,
  ⟨some 27, .un .not (.s 26), none⟩,
  ⟨some 28, .mv (.s 27), none⟩,
  ⟨some 29, .mv (.s 3), some (28, true)⟩,
  ⟨some 30, .bin .eql (.s 29) (.c (.int .i64 0)), some (28, true)⟩,
  ⟨some 31, .mv (.s 30), some (28, true)⟩,
  ⟨some 32, .mv (.s 4), some (31, false)⟩,
  ⟨some 33, .bin .neq (.s 32) (.c (.int .i32 95)), some (31, false)⟩,
  ⟨some 34, .mv (.s 33), some (31, false)⟩,
  ⟨some 35, .mv (.s 4), some (34, true)⟩,
  ⟨some 36, .bin .lss (.s 35) (.c (.int .i32 48)), some (34, true)⟩,
  ⟨some 37, .mv (.s 36), some (34, true)⟩,
  ⟨some 38, .mv (.s 4), some (37, false)⟩,
  ⟨some 39, .bin .gtr (.s 38) (.c (.int .i32 57)), some (37, false)⟩,
  ⟨some 40, .pick (.s 37) (.c (.bool true)) (.s 39), some (34, true)⟩,
  ⟨some 41, .pick (.s 34) (.s 40) (.c (.bool false)), some (31, false)⟩,
  ⟨some 42, .pick (.s 31) (.c (.bool true)) (.s 41), some (28, true)⟩,
  ⟨some 43, .pick (.s 28) (.s 42) (.c (.bool false)), none⟩] [15, 43])
 (.cond (.s 43) (.seq (.region [⟨some 2, .mv (.c (.bool false)), none⟩] [2])
 .ret)
 .skip))))))))))
 (.seq (.region [⟨some 2, .mv (.c (.bool true)), none⟩] [2])
 .ret)))) }

/-- predicate.measure -/
def g68 : GFun :=
 { nparams := 3, keepHeap := false, results := [.inl 6], body :=
 (.seq (.region [⟨some 3, .box (.s 0), none⟩,
  ⟨some 6, .mv (.c (.bool false)), none⟩] [1, 2, 3])
 (.seq (.region [⟨some 9, .mv (.s 2), none⟩,
  ⟨some 10, .nilCheck (.s 9), none⟩,
  ⟨some 11, .load 1 false (.s 10) 0 true, none⟩,
  ⟨some 12, .bin .add (.s 11) (.c (.int .i64 1)), none⟩,
  ⟨some 13, .nilCheck (.s 9), none⟩,
  ⟨none, .store 1 (.s 13) (.s 12) 0 true, none⟩] [1, 2, 3])
 (.seq (.seq (.region [⟨some 14, .mv (.s 1), none⟩,
  ⟨some 15, .bin .gtr (.s 14) (.c (.int .i64 8)), none⟩,
  ⟨some 16, .mv (.s 15), none⟩,
  ⟨some 17, .mv (.s 2), some (16, false)⟩,
  ⟨some 18, .nilCheck (.s 17), some (16, false)⟩,
  ⟨some 19, .load 1 false (.s 18) 0 true, some (16, false)⟩,
  ⟨some 20, .bin .gtr (.s 19) (.c (.int .i64 24)), some (16, false)⟩,
  ⟨some 21, .pick (.s 16) (.c (.bool true)) (.s 20), none⟩] [1, 2, 3, 21])
 (.cond (.s 21) (.seq (.region [⟨some 6, .mv (.c (.bool false)), none⟩] [6])
 .ret)
 .skip))
 (.seq (.seq (.region [⟨some 22, .fieldAddr (.s 3) 12, none⟩,
  ⟨some 23, .load 1 false (.s 22) 3 false, none⟩,
  ⟨some 24, .len (.s 23) .l false, none⟩,
  ⟨some 25, .mv (.c (.int .i64 0)), none⟩] [1, 2, 23, 24, 25])
 (.block 0 (.loop [1, 2, 23, 24, 25] (.seq (.region [⟨some 26, .bin .lss (.s 25) (.s 24), none⟩] [1, 2, 23, 24, 25, 26])
 (.seq (.cond (.s 26) .skip
 (.exit 0))
 (.seq (.block 1 (.seq (.region [⟨some 27, .indexSl (.s 23) (.s 25) 13, none⟩,
  ⟨some 28, .load 13 true (.s 27) 0 true, none⟩,
  ⟨some 8, .alloc [.int .i64 0, .int .i64 0, .int .i64 0, .int .i64 0, .int .i64 0, .int .i64 0, .str [], .int .i64 0, .int .i64 0, .int .i64 0, .int .i64 0, .str [], .sl 0 true .exact []], none⟩,
  ⟨none, .store 13 (.s 8) (.s 28) 8 false, none⟩] [1, 2, 8, 23, 24, 25])
 (.seq (.region [⟨some 29, .load 13 true (.s 8) 8 false, none⟩,
  ⟨some 30, .mv (.s 1), none⟩,
  ⟨some 31, .bin .add (.s 30) (.c (.int .i64 1)), none⟩,
  ⟨some 32, .mv (.s 2), none⟩,
  ⟨some 33, .call (.fn 68) [(.s 29), (.s 31), (.s 32)] false, none⟩,
  ⟨some 34, .un .not (.s 33), none⟩] [1, 2, 23, 24, 25, 34])
 (.cond (.s 34) (.seq (.region [⟨some 6, .mv (.c (.bool false)), none⟩] [6])
 .ret)
 .skip))))
 (.region [⟨some 35, .bin .add (.s 25) (.c (.int .i64 1)), none⟩,
  ⟨some 25, .mv (.s 35), none⟩] [1, 2, 23, 24, 25])))))))
 (.seq (.region [⟨some 6, .mv (.c (.bool true)), none⟩] [6])
 .ret))))) }

/-- predicate.node -/
def g69 : GFun :=
 { nparams := 3, keepHeap := false, results := [.inl 6], body :=
 (.seq (.region [⟨some 3, .box (.s 0), none⟩,
  ⟨some 6, .mv (.c (.bool false)), none⟩] [1, 2, 3])
 (.seq (.region [⟨some 12, .build [.int .i64 0, .int .i64 0, .int .i64 0, .int .i64 0, .str []] [], none⟩,
  ⟨some 7, .alloc [.int .i64 0, .int .i64 0, .int .i64 0, .int .i64 0, .str []], none⟩,
  ⟨none, .store 5 (.s 7) (.s 12) 7 false, none⟩] [1, 2, 3, 7])
 (.seq (.region [⟨some 13, .fieldAddr (.s 3) 1, none⟩,
  ⟨some 14, .load 1 false (.s 13) 3 false, none⟩,
  ⟨some 15, .bin .eql (.s 14) (.c (.int .i64 0)), none⟩,
  ⟨some 16, .mv (.s 15), none⟩,
  ⟨some 17, .fieldAddr (.s 3) 2, some (16, true)⟩,
  ⟨some 18, .load 5 true (.s 17) 3 false, some (16, true)⟩,
  ⟨some 19, .load 5 true (.s 7) 7 false, some (16, true)⟩,
  ⟨some 20, .eqv false true [.i, .i, .i, .i, .s] (.s 18) (.s 19), some (16, true)⟩,
  ⟨some 21, .pick (.s 16) (.s 20) (.c (.bool false)), none⟩,
  ⟨some 22, .mv (.s 21), none⟩,
  ⟨some 23, .fieldAddr (.s 3) 7, some (22, true)⟩,
  ⟨some 24, .load 5 true (.s 23) 3 false, some (22, true)⟩,
  ⟨some 25, .load 5 true (.s 7) 7 false, some (22, true)⟩,
  ⟨some 26, .eqv false true [.i, .i, .i, .i, .s] (.s 24) (.s 25), some (22, true)⟩,
  ⟨some 27, .pick (.s 22) (.s 26) (.c (.bool false)), none⟩,
  ⟨some 8, .mv (.s 27), none⟩] [1, 2, 3, 8])
 (.seq (.seq (.region [⟨some 28, .fieldAddr (.s 3) 0, none⟩,
  ⟨some 29, .load 1 false (.s 28) 3 false, none⟩] [1, 2, 3, 8, 29])
 (.block 0 (.seq (.seq (.region [⟨some 31, .bin .eql (.s 29) (.c (.int .i64 1)), none⟩,
  ⟨some 30, .mv (.s 31), none⟩] [1, 2, 3, 8, 29, 30])
 (.cond (.s 30) .skip
 (.region [⟨some 32, .bin .eql (.s 29) (.c (.int .i64 2)), none⟩,
  ⟨some 30, .mv (.s 32), none⟩] [1, 2, 3, 8, 29, 30])))
 (.cond (.s 30) (.seq (.region [⟨some 33, .mv (.s 8), none⟩,
  ⟨some 34, .un .not (.s 33), none⟩,
  ⟨some 35, .mv (.s 34), none⟩,
  ⟨some 36, .fieldAddr (.s 3) 12, some (35, false)⟩,
  ⟨some 37, .load 1 false (.s 36) 3 false, some (35, false)⟩,
  ⟨some 38, .len (.s 37) .l false, some (35, false)⟩,
  ⟨some 39, .bin .gtr (.s 38) (.c (.int .i64 0)), some (35, false)⟩,
  ⟨some 40, .pick (.s 35) (.c (.bool true)) (.s 39), none⟩] [1, 2, 3, 40])
 (.cond (.s 40) (.seq (.region [⟨some 6, .mv (.c (.bool false)), none⟩] [6])
 .ret)
 .skip))
 (.seq (.region [⟨some 42, .bin .eql (.s 29) (.c (.int .i64 3)), none⟩,
  ⟨some 41, .mv (.s 42), none⟩] [1, 2, 3, 8, 29, 41])
 (.cond (.s 41) (.seq (.region [⟨some 43, .fieldAddr (.s 3) 2, none⟩,
  ⟨some 44, .load 5 true (.s 43) 3 false, none⟩,
  ⟨some 45, .mv (.s 1), none⟩,
  ⟨some 46, .mv (.s 2), none⟩,
  ⟨some 47, .call (.fn 94) [(.s 44), (.s 45), (.s 46)] false, none⟩,
  ⟨some 9, .mv (.s 47), none⟩] [1, 2, 3, 9])
 (.seq (.region [⟨some 48, .fieldAddr (.s 3) 12, none⟩,
  ⟨some 49, .load 1 false (.s 48) 3 false, none⟩,
  ⟨some 50, .len (.s 49) .l false, none⟩,
  ⟨some 51, .bin .gtr (.s 50) (.c (.int .i64 0)), none⟩,
  ⟨some 52, .mv (.s 51), none⟩,
  ⟨some 53, .fieldAddr (.s 3) 1, some (52, false)⟩,
  ⟨some 54, .load 1 false (.s 53) 3 false, some (52, false)⟩,
  ⟨some 55, .bin .lss (.s 54) (.c (.int .i64 1)), some (52, false)⟩,
  ⟨some 56, .pick (.s 52) (.c (.bool true)) (.s 55), none⟩,
  ⟨some 57, .mv (.s 56), none⟩,
  ⟨some 58, .fieldAddr (.s 3) 1, some (57, false)⟩,
  ⟨some 59, .load 1 false (.s 58) 3 false, some (57, false)⟩,
  ⟨some 60, .bin .gtr (.s 59) (.c (.int .i64 6)), some (57, false)⟩,
  ⟨some 61, .pick (.s 57) (.c (.bool true)) (.s 60), none⟩,
  ⟨some 62, .mv (.s 61), none⟩,
  ⟨some 63, .mv (.s 9), some (62, false)⟩,
  ⟨some 64, .bin .eql (.s 63) (.c (.int .i64 0)), some (62, false)⟩,
  ⟨some 65, .pick (.s 62) (.c (.bool true)) (.s 64), none⟩,
  ⟨some 66, .mv (.s 65), none⟩,
  ⟨some 67, .mv (.s 9), some (66, false)⟩,
  ⟨some 68, .fieldAddr (.s 3) 7, some (66, false)⟩,
  ⟨some 69, .load 5 true (.s 68) 3 false, some (66, false)⟩,
  ⟨some 70, .mv (.s 1), some (66, false)⟩,
  ⟨some 71, .mv (.s 2), some (66, false)⟩,
  ⟨some 72, .call (.fn 94) [(.s 69), (.s 70), (.s 71)] false, some (66, false)⟩,
  ⟨some 73, .bin .neq (.s 67) (.s 72), some (66, false)⟩,
  ⟨some 74, .pick (.s 66) (.c (.bool true)) (.s 73), none⟩] [1, 2, 3, 74])
 (.cond (.s 74) (.seq (.region [⟨some 6, .mv (.c (.bool false)), none⟩] [6])
 .ret)
 .skip)))
 (.seq (.seq (.region [⟨some 76, .bin .eql (.s 29) (.c (.int .i64 4)), none⟩,
  ⟨some 75, .mv (.s 76), none⟩] [1, 2, 3, 8, 29, 75])
 (.cond (.s 75) .skip
 (.region [⟨some 77, .bin .eql (.s 29) (.c (.int .i64 5)), none⟩,
  ⟨some 75, .mv (.s 77), none⟩] [1, 2, 3, 8, 29, 75])))
 (.cond (.s 75) (.seq (.region [⟨some 78, .mv (.s 8), none⟩,
  ⟨some 79, .un .not (.s 78), none⟩] [1, 2, 3, 79])
 (.cond (.s 79) (.seq (.region [⟨some 6, .mv (.c (.bool false)), none⟩] [6])
 .ret)
 .skip))
 (.seq (.region [⟨some 81, .bin .eql (.s 29) (.c (.int .i64 6)), none⟩,
  ⟨some 80, .mv (.s 81), none⟩] [1, 2, 3, 8, 80])
 (.cond (.s 80) (.seq (.region [⟨some 82, .mv (.s 8), none⟩,
  ⟨some 83, .un .not (.s 82), none⟩,
  ⟨some 84, .mv (.s 83), none⟩,
  ⟨some 85, .fieldAddr (.s 3) 12, some (84, false)⟩,
  ⟨some 86, .load 1 false (.s 85) 3 false, some (84, false)⟩,
  ⟨some 87, .len (.s 86) .l false, some (84, false)⟩,
  ⟨some 88, .bin .neq (.s 87) (.c (.int .i64 1)), some (84, false)⟩,
  ⟨some 89, .pick (.s 84) (.c (.bool true)) (.s 88), none⟩] [1, 2, 3, 89])
 (.cond (.s 89) (.seq (.region [⟨some 6, .mv (.c (.bool false)), none⟩] [6])
 .ret)
 .skip))
 (.seq (.region [⟨some 6, .mv (.c (.bool false)), none⟩] [6])
 .ret)))))))))))
 (.seq (.seq (.region [⟨some 90, .fieldAddr (.s 3) 12, none⟩,
  ⟨some 91, .load 1 false (.s 90) 3 false, none⟩,
  ⟨some 92, .len (.s 91) .l false, none⟩,
  ⟨some 93, .mv (.c (.int .i64 0)), none⟩] [1, 2, 91, 92, 93])
 (.block 1 (.loop [1, 2, 91, 92, 93] (.seq (.region [⟨some 94, .bin .lss (.s 93) (.s 92), none⟩] [1, 2, 91, 92, 93, 94])
 (.seq (.cond (.s 94) .skip
 (.exit 1))
 (.seq (.block 2 (.seq (.region [⟨some 95, .indexSl (.s 91) (.s 93) 13, none⟩,
  ⟨some 96, .load 13 true (.s 95) 0 true, none⟩,
  ⟨some 11, .alloc [.int .i64 0, .int .i64 0, .int .i64 0, .int .i64 0, .int .i64 0, .int .i64 0, .str [], .int .i64 0, .int .i64 0, .int .i64 0, .int .i64 0, .str [], .sl 0 true .exact []], none⟩,
  ⟨none, .store 13 (.s 11) (.s 96) 11 false, none⟩] [1, 2, 11, 91, 92, 93])
 (.seq (.region [⟨some 97, .load 13 true (.s 11) 11 false, none⟩,
  ⟨some 98, .mv (.s 1), none⟩,
  ⟨some 99, .mv (.s 2), none⟩,
  ⟨some 100, .call (.fn 69) [(.s 97), (.s 98), (.s 99)] false, none⟩,
  ⟨some 101, .un .not (.s 100), none⟩] [1, 2, 91, 92, 93, 101])
 (.cond (.s 101) (.seq (.region [⟨some 6, .mv (.c (.bool false)), none⟩] [6])
 .ret)
 .skip))))
 (.region [⟨some 102, .bin .add (.s 93) (.c (.int .i64 1)), none⟩,
  ⟨some 93, .mv (.s 102), none⟩] [1, 2, 91, 92, 93])))))))
 (.seq (.region [⟨some 6, .mv (.c (.bool true)), none⟩] [6])
 .ret)))))) }

/-- (query.node).leaf -/
def g70 : GFun :=
 { nparams := 1, keepHeap := false, results := [.inl 2, .inl 3], body :=
 (.seq (.region [⟨some 1, .box (.s 0), none⟩,
  ⟨some 2, .mv (.c (.sl 0 true .exact [])), none⟩,
  ⟨some 3, .mv (.c (.int .i64 0)), none⟩] [1])
 (.seq (.region [⟨some 4, .fieldAddr (.s 1) 0, none⟩,
  ⟨some 5, .load 2 true (.s 4) 1 false, none⟩,
  ⟨some 6, .fieldAddr (.s 1) 2, none⟩,
  ⟨some 7, .load 1 false (.s 6) 1 false, none⟩,
  ⟨some 8, .fieldAddr (.s 1) 3, none⟩,
  ⟨some 9, .load 22 true (.s 8) 1 false, none⟩,
  ⟨some 10, .call (.fn 95) [(.s 5), (.s 7), (.s 9), (.c (.sl 0 true .exact [])), (.c (.sl 0 true .exact [])), (.c (.int .i64 100))] false, none⟩,
  ⟨some 11, .extract (.s 10) 0, none⟩,
  ⟨some 12, .extract (.s 10) 1, none⟩,
  ⟨some 2, .mv (.s 11), none⟩,
  ⟨some 3, .mv (.s 12), none⟩] [2, 3])
 .ret)) }

/-- (query.node).one -/
def g71 : GFun :=
 { nparams := 1, keepHeap := false, results := [.inl 2, .inl 3], body :=
 (.seq (.region [⟨some 1, .box (.s 0), none⟩,
  ⟨some 2, .mv (.c (.sl 0 true .exact [])), none⟩,
  ⟨some 3, .mv (.c (.int .i64 0)), none⟩] [1])
 (.seq (.region [⟨some 4, .fieldAddr (.s 1) 0, none⟩,
  ⟨some 5, .load 2 true (.s 4) 1 false, none⟩,
  ⟨some 6, .fieldAddr (.s 1) 2, none⟩,
  ⟨some 7, .load 1 false (.s 6) 1 false, none⟩,
  ⟨some 8, .fieldAddr (.s 1) 3, none⟩,
  ⟨some 9, .load 22 true (.s 8) 1 false, none⟩,
  ⟨some 10, .fieldAddr (.s 1) 25, none⟩,
  ⟨some 11, .load 1 false (.s 10) 1 false, none⟩,
  ⟨some 12, .indexSl (.s 11) (.c (.int .i64 0)) 1, none⟩,
  ⟨some 13, .load 1 false (.s 12) 0 true, none⟩,
  ⟨some 14, .call (.fn 95) [(.s 5), (.s 7), (.s 9), (.s 13), (.c (.sl 0 true .exact [])), (.c (.int .i64 100))] false, none⟩,
  ⟨some 15, .extract (.s 14) 0, none⟩,
  ⟨some 16, .extract (.s 14) 1, none⟩,
  ⟨some 2, .mv (.s 15), none⟩,
  ⟨some 3, .mv (.s 16), none⟩] [2, 3])
 .ret)) }

/-- query.walk$1 -/
def g73 : GFun :=
 { nparams := 2, keepHeap := true, results := [], body :=
 (.region [⟨some 3, .load 21 true (.s 1) 0 true, none⟩,
  ⟨some 4, .mv (.s 0), none⟩,
  ⟨some 5, .call (.fn 74) [(.s 3), (.s 4)] false, none⟩] []) }

/-- query.visit -/
def g74 : GFun :=
 { nparams := 2, keepHeap := true, results := [.inl 4], body :=
 (.seq (.region [⟨some 2, .box (.s 0), none⟩,
  ⟨some 4, .mv (.c (.bool false)), none⟩] [1, 2])
 (.seq (.seq (.region [⟨some 7, .fieldAddr (.s 2) 20, none⟩,
  ⟨some 8, .load 1 false (.s 7) 2 false, none⟩,
  ⟨some 9, .len (.s 8) .l false, none⟩,
  ⟨some 10, .mv (.c (.int .i64 0)), none⟩] [1, 2, 8, 9, 10])
 (.block 0 (.loop [1, 2, 8, 9, 10] (.seq (.region [⟨some 11, .bin .lss (.s 10) (.s 9), none⟩] [1, 2, 8, 9, 10, 11])
 (.seq (.cond (.s 11) .skip
 (.exit 0))
 (.seq (.block 1 (.seq (.region [⟨some 12, .indexSl (.s 8) (.s 10) 21, none⟩,
  ⟨some 13, .load 21 true (.s 12) 0 true, none⟩,
  ⟨some 6, .alloc [.int .i64 0, .int .i64 0, .int .i64 0, .int .i64 0, .int .i64 0, .int .i64 0, .int .i64 0, .int .i64 0, .str [], .int .i64 0, .int .i64 0, .int .i64 0, .int .i64 0, .str [], .sl 0 true .exact [], .sl 0 true .exact [], .sl 0 true .exact [], .sl 0 true .exact [], .sl 0 true .exact [], .int .i64 0, .sl 0 true .exact []], none⟩,
  ⟨none, .store 21 (.s 6) (.s 13) 6 false, none⟩] [1, 2, 6, 8, 9, 10])
 (.seq (.region [⟨some 14, .load 21 true (.s 6) 6 false, none⟩,
  ⟨some 15, .mv (.s 1), none⟩,
  ⟨some 16, .call (.fn 74) [(.s 14), (.s 15)] false, none⟩,
  ⟨some 17, .un .not (.s 16), none⟩] [1, 2, 8, 9, 10, 17])
 (.cond (.s 17) (.seq (.region [⟨some 4, .mv (.c (.bool false)), none⟩] [4])
 .ret)
 .skip))))
 (.region [⟨some 18, .bin .add (.s 10) (.c (.int .i64 1)), none⟩,
  ⟨some 10, .mv (.s 18), none⟩] [1, 2, 8, 9, 10])))))))
 (.seq (.region [⟨some 19, .mv (.s 1), none⟩,
  ⟨some 20, .load 21 true (.s 2) 2 false, none⟩,
  ⟨some 21, .call (.val (.s 19)) [(.s 20)] false, none⟩,
  ⟨some 4, .mv (.s 21), none⟩] [4])
 .ret))) }

/-- cmp.Or[int] -/
def g75 : GFun :=
 { nparams := 1, keepHeap := false, results := [.inl 2], body :=
 (.seq (.region [⟨some 2, .mv (.c (.int .i64 0)), none⟩] [0])
 (.seq (.region [⟨some 3, .mv (.c (.int .i64 0)), none⟩] [0, 3])
 (.seq (.seq (.region [⟨some 6, .mv (.s 0), none⟩,
  ⟨some 7, .len (.s 6) .l false, none⟩,
  ⟨some 8, .mv (.c (.int .i64 0)), none⟩] [3, 6, 7, 8])
 (.block 0 (.loop [3, 6, 7, 8] (.seq (.region [⟨some 9, .bin .lss (.s 8) (.s 7), none⟩] [3, 6, 7, 8, 9])
 (.seq (.cond (.s 9) .skip
 (.exit 0))
 (.seq (.block 1 (.seq (.region [⟨some 10, .indexSl (.s 6) (.s 8) 1, none⟩,
  ⟨some 11, .load 1 false (.s 10) 0 true, none⟩,
  ⟨some 5, .mv (.s 11), none⟩] [3, 5, 6, 7, 8])
 (.seq (.region [⟨some 12, .mv (.s 5), none⟩,
  ⟨some 13, .mv (.s 3), none⟩,
  ⟨some 14, .bin .neq (.s 12) (.s 13), none⟩] [3, 5, 6, 7, 8, 14])
 (.cond (.s 14) (.seq (.region [⟨some 15, .mv (.s 5), none⟩,
  ⟨some 2, .mv (.s 15), none⟩] [2])
 .ret)
 .skip))))
 (.region [⟨some 16, .bin .add (.s 8) (.c (.int .i64 1)), none⟩,
  ⟨some 8, .mv (.s 16), none⟩] [3, 6, 7, 8])))))))
 (.seq (.region [⟨some 17, .mv (.s 3), none⟩,
  ⟨some 2, .mv (.s 17), none⟩] [2])
 .ret)))) }

/-- cmp.Compare[int] -/
def g76 : GFun :=
 { nparams := 2, keepHeap := false, results := [.inl 4], body :=
 (.seq (.region [⟨some 4, .mv (.c (.int .i64 0)), none⟩] [0, 1])
 (.seq (.region [⟨some 7, .mv (.s 0), none⟩,
  ⟨some 8, .call (.fn 96) [(.s 7)] false, none⟩,
  ⟨some 5, .mv (.s 8), none⟩] [0, 1, 5])
 (.seq (.region [⟨some 9, .mv (.s 1), none⟩,
  ⟨some 10, .call (.fn 96) [(.s 9)] false, none⟩,
  ⟨some 6, .mv (.s 10), none⟩] [0, 1, 5, 6])
 (.seq (.seq (.region [⟨some 11, .mv (.s 5), none⟩] [0, 1, 6, 11])
 (.cond (.s 11) (.seq (.seq (.region [⟨some 12, .mv (.s 6), none⟩] [12])
 (.cond (.s 12) (.seq (.region [⟨some 4, .mv (.c (.int .i64 0)), none⟩] [4])
 .ret)
 .skip))
 (.seq (.region [⟨some 4, .mv (.c (.int .i64 (-1))), none⟩] [4])
 .ret))
 .skip))
 (.seq (.seq (.region [⟨some 13, .mv (.s 6), none⟩] [0, 1, 13])
 (.cond (.s 13) (.seq (.region [⟨some 4, .mv (.c (.int .i64 1)), none⟩] [4])
 .ret)
 .skip))
 (.seq (.seq (.region [⟨some 14, .mv (.s 0), none⟩,
  ⟨some 15, .mv (.s 1), none⟩,
  ⟨some 16, .bin .lss (.s 14) (.s 15), none⟩] [0, 1, 16])
 (.cond (.s 16) (.seq (.region [⟨some 4, .mv (.c (.int .i64 (-1))), none⟩] [4])
 .ret)
 .skip))
 (.seq (.seq (.region [⟨some 17, .mv (.s 0), none⟩,
  ⟨some 18, .mv (.s 1), none⟩,
  ⟨some 19, .bin .gtr (.s 17) (.s 18), none⟩] [19])
 (.cond (.s 19) (.seq (.region [⟨some 4, .mv (.c (.int .i64 1)), none⟩] [4])
 .ret)
 .skip))
 (.seq (.region [⟨some 4, .mv (.c (.int .i64 0)), none⟩] [4])
 .ret)))))))) }

/-- table.place$1 -/
def g77 : GFun :=
 { nparams := 5, keepHeap := false, results := [.inl 6], body :=
 (.seq (.region [⟨some 6, .mv (.c (.int .i64 0)), none⟩] [0, 1, 2, 3, 4])
 (.seq (.region [⟨some 7, .load 2 true (.s 1) 0 true, none⟩,
  ⟨some 8, .load 1 false (.s 2) 0 true, none⟩,
  ⟨some 9, .load 1 false (.s 3) 0 true, none⟩,
  ⟨some 10, .mv (.s 0), none⟩,
  ⟨some 11, .indexSl (.s 9) (.s 10) 1, none⟩,
  ⟨some 12, .load 1 false (.s 11) 0 true, none⟩,
  ⟨some 13, .call (.fn 42) [(.s 7), (.s 8), (.s 12)] true, none⟩,
  ⟨some 14, .load 1 false (.s 4) 0 true, none⟩,
  ⟨some 15, .call (.fn 29) [(.s 13), (.s 14)] false, none⟩,
  ⟨some 6, .mv (.s 15), none⟩] [6])
 .ret)) }

/-- sort.Search -/
def g78 : GFun :=
 { nparams := 2, keepHeap := false, results := [.inl 4], body :=
 (.seq (.region [⟨some 4, .mv (.c (.int .i64 0)), none⟩] [0, 1])
 (.seq (.region [⟨some 8, .mv (.s 0), none⟩,
  ⟨some 5, .mv (.c (.int .i64 0)), none⟩,
  ⟨some 6, .mv (.s 8), none⟩] [1, 5, 6])
 (.seq (.block 0 (.loop [1, 5, 6] (.seq (.seq (.region [⟨some 9, .mv (.s 5), none⟩,
  ⟨some 10, .mv (.s 6), none⟩,
  ⟨some 11, .bin .lss (.s 9) (.s 10), none⟩] [1, 5, 6, 11])
 (.cond (.s 11) .skip
 (.exit 0)))
 (.block 1 (.seq (.region [⟨some 12, .mv (.s 5), none⟩,
  ⟨some 13, .mv (.s 6), none⟩,
  ⟨some 14, .bin .add (.s 12) (.s 13), none⟩,
  ⟨some 15, .toInt .u64 (.s 14), none⟩,
  ⟨some 16, .bin .shr (.s 15) (.c (.int .u64 1)), none⟩,
  ⟨some 17, .toInt .i64 (.s 16), none⟩,
  ⟨some 7, .mv (.s 17), none⟩] [1, 5, 6, 7])
 (.seq (.region [⟨some 18, .mv (.s 1), none⟩,
  ⟨some 19, .mv (.s 7), none⟩,
  ⟨some 20, .call (.val (.s 18)) [(.s 19)] false, none⟩,
  ⟨some 21, .un .not (.s 20), none⟩] [1, 5, 6, 7, 21])
 (.cond (.s 21) (.region [⟨some 22, .mv (.s 7), none⟩,
  ⟨some 23, .bin .add (.s 22) (.c (.int .i64 1)), none⟩,
  ⟨some 5, .mv (.s 23), none⟩] [1, 5, 6])
 (.region [⟨some 24, .mv (.s 7), none⟩,
  ⟨some 6, .mv (.s 24), none⟩] [1, 5, 6]))))))))
 (.seq (.region [⟨some 25, .mv (.s 5), none⟩,
  ⟨some 4, .mv (.s 25), none⟩] [4])
 .ret)))) }

/-- table.place$2 -/
def g79 : GFun :=
 { nparams := 2, keepHeap := false, results := [.inl 3], body :=
 (.seq (.region [⟨some 3, .mv (.c (.bool false)), none⟩] [0, 1])
 (.seq (.region [⟨some 4, .load 1 false (.s 1) 0 true, none⟩,
  ⟨some 5, .mv (.s 0), none⟩,
  ⟨some 6, .call (.val (.s 4)) [(.s 5)] false, none⟩,
  ⟨some 7, .bin .geq (.s 6) (.c (.int .i64 0)), none⟩,
  ⟨some 3, .mv (.s 7), none⟩] [3])
 .ret)) }

/-- slices.Clone[api.Row,api.Value] -/
def g80 : GFun :=
 { nparams := 1, keepHeap := true, results := [.inl 2], body :=
 (.seq (.region [⟨some 2, .mv (.c (.sl 0 true .exact [])), none⟩] [0])
 (.seq (.seq (.region [⟨some 3, .mv (.s 0), none⟩,
  ⟨some 4, .eqv false false [.l] (.s 3) (.c (.sl 0 true .exact [])), none⟩] [0, 4])
 (.cond (.s 4) (.seq (.region [⟨some 2, .mv (.c (.sl 0 true .exact [])), none⟩] [2])
 .ret)
 .skip))
 (.seq (.region [⟨some 5, .bsl 3 0 [.int .i64 0, .int .i64 0, .str []] [] false, none⟩,
  ⟨some 6, .mv (.s 0), none⟩,
  ⟨some 7, .append (.s 5) (.s 6) 3 32 true true, none⟩,
  ⟨some 2, .take 7, none⟩] [2])
 .ret))) }

/-- predicate.Bind -/
def g81 : GFun :=
 { nparams := 2, keepHeap := false, results := [.inr (4, 13, true)], body :=
 (.seq (.region [⟨some 2, .box (.s 0), none⟩,
  ⟨some 4, .alloc [.int .i64 0, .int .i64 0, .int .i64 0, .int .i64 0, .int .i64 0, .int .i64 0, .str [], .int .i64 0, .int .i64 0, .int .i64 0, .int .i64 0, .str [], .sl 0 true .exact []], none⟩] [1, 2, 4])
 (.seq (.region [⟨some 8, .fieldAddr (.s 2) 0, none⟩,
  ⟨some 9, .load 1 false (.s 8) 2 false, none⟩,
  ⟨some 10, .fieldAddr (.s 2) 1, none⟩,
  ⟨some 11, .load 1 false (.s 10) 2 false, none⟩,
  ⟨some 12, .fieldAddr (.s 2) 2, none⟩,
  ⟨some 13, .load 5 true (.s 12) 2 false, none⟩,
  ⟨some 14, .mv (.s 1), none⟩,
  ⟨some 15, .call (.fn 97) [(.s 13), (.s 14)] false, none⟩,
  ⟨some 16, .fieldAddr (.s 2) 7, none⟩,
  ⟨some 17, .load 5 true (.s 16) 2 false, none⟩,
  ⟨some 18, .mv (.s 1), none⟩,
  ⟨some 19, .call (.fn 97) [(.s 17), (.s 18)] false, none⟩,
  ⟨some 20, .build [.int .i64 0, .int .i64 0, .int .i64 0, .int .i64 0, .int .i64 0, .int .i64 0, .str [], .int .i64 0, .int .i64 0, .int .i64 0, .int .i64 0, .str [], .sl 0 true .exact []] [(0, 1, (.s 9)), (1, 1, (.s 11)), (2, 5, (.s 15)), (7, 5, (.s 19))], none⟩,
  ⟨some 5, .alloc [.int .i64 0, .int .i64 0, .int .i64 0, .int .i64 0, .int .i64 0, .int .i64 0, .str [], .int .i64 0, .int .i64 0, .int .i64 0, .int .i64 0, .str [], .sl 0 true .exact []], none⟩,
  ⟨none, .store 13 (.s 5) (.s 20) 5 false, none⟩] [1, 2, 4, 5])
 (.seq (.seq (.region [⟨some 21, .fieldAddr (.s 2) 12, none⟩,
  ⟨some 22, .load 1 false (.s 21) 2 false, none⟩,
  ⟨some 23, .len (.s 22) .l false, none⟩,
  ⟨some 24, .mv (.c (.int .i64 0)), none⟩] [1, 4, 5, 22, 23, 24])
 (.block 0 (.loop [1, 4, 5, 22, 23, 24] (.seq (.region [⟨some 25, .bin .lss (.s 24) (.s 23), none⟩] [1, 4, 5, 22, 23, 24, 25])
 (.seq (.cond (.s 25) .skip
 (.exit 0))
 (.seq (.block 1 (.seq (.region [⟨some 26, .indexSl (.s 22) (.s 24) 13, none⟩,
  ⟨some 27, .load 13 true (.s 26) 0 true, none⟩,
  ⟨some 7, .alloc [.int .i64 0, .int .i64 0, .int .i64 0, .int .i64 0, .int .i64 0, .int .i64 0, .str [], .int .i64 0, .int .i64 0, .int .i64 0, .int .i64 0, .str [], .sl 0 true .exact []], none⟩,
  ⟨none, .store 13 (.s 7) (.s 27) 7 false, none⟩] [1, 4, 5, 7, 22, 23, 24])
 (.region [⟨some 28, .fieldAddr (.s 5) 12, none⟩,
  ⟨some 29, .loadTake (.s 28) 5 false, none⟩,
  ⟨some 30, .load 13 true (.s 7) 7 false, none⟩,
  ⟨some 31, .mv (.s 1), none⟩,
  ⟨some 32, .call (.fn 81) [(.s 30), (.s 31)] false, none⟩,
  ⟨some 33, .bsl 13 1 [.int .i64 0, .int .i64 0, .int .i64 0, .int .i64 0, .int .i64 0, .int .i64 0, .str [], .int .i64 0, .int .i64 0, .int .i64 0, .int .i64 0, .str [], .sl 0 true .exact []] [(0, (.s 32))] false, none⟩,
  ⟨some 34, .append (.s 29) (.s 33) 13 136 false false, none⟩,
  ⟨some 35, .fieldAddr (.s 5) 12, none⟩,
  ⟨none, .storeTake (.s 35) 34 5 false, none⟩] [1, 4, 5, 22, 23, 24])))
 (.region [⟨some 36, .bin .add (.s 24) (.c (.int .i64 1)), none⟩,
  ⟨some 24, .mv (.s 36), none⟩] [1, 4, 5, 22, 23, 24])))))))
 (.seq (.region [⟨some 37, .load 13 true (.s 5) 5 false, none⟩,
  ⟨none, .store 13 (.s 4) (.s 37) 4 false, none⟩] [4])
 .ret)))) }

/-- slices.Clone[[]int,int] -/
def g82 : GFun :=
 { nparams := 1, keepHeap := false, results := [.inl 2], body :=
 (.seq (.region [⟨some 2, .mv (.c (.sl 0 true .exact [])), none⟩] [0])
 (.seq (.seq (.region [⟨some 3, .mv (.s 0), none⟩,
  ⟨some 4, .eqv false false [.l] (.s 3) (.c (.sl 0 true .exact [])), none⟩] [0, 4])
 (.cond (.s 4) (.seq (.region [⟨some 2, .mv (.c (.sl 0 true .exact [])), none⟩] [2])
 .ret)
 .skip))
 (.seq (.region [⟨some 5, .bsl 1 0 [.int .i64 0] [] false, none⟩,
  ⟨some 6, .mv (.s 0), none⟩,
  ⟨some 7, .append (.s 5) (.s 6) 1 8 false false, none⟩,
  ⟨some 2, .take 7, none⟩] [2])
 .ret))) }

/-- slices.Clone[[][2]int,[2]int] -/
def g83 : GFun :=
 { nparams := 1, keepHeap := false, results := [.inl 2], body :=
 (.seq (.region [⟨some 2, .mv (.c (.sl 0 true .exact [])), none⟩] [0])
 (.seq (.seq (.region [⟨some 3, .mv (.s 0), none⟩,
  ⟨some 4, .eqv false false [.l] (.s 3) (.c (.sl 0 true .exact [])), none⟩] [0, 4])
 (.cond (.s 4) (.seq (.region [⟨some 2, .mv (.c (.sl 0 true .exact [])), none⟩] [2])
 .ret)
 .skip))
 (.seq (.region [⟨some 5, .bsl 2 0 [.int .i64 0, .int .i64 0] [] false, none⟩,
  ⟨some 6, .mv (.s 0), none⟩,
  ⟨some 7, .append (.s 5) (.s 6) 2 16 false false, none⟩,
  ⟨some 2, .take 7, none⟩] [2])
 .ret))) }

/-- slices.Clone[[]api.Sort,api.Sort] -/
def g84 : GFun :=
 { nparams := 1, keepHeap := false, results := [.inl 2], body :=
 (.seq (.region [⟨some 2, .mv (.c (.sl 0 true .exact [])), none⟩] [0])
 (.seq (.seq (.region [⟨some 3, .mv (.s 0), none⟩,
  ⟨some 4, .eqv false false [.l] (.s 3) (.c (.sl 0 true .exact [])), none⟩] [0, 4])
 (.cond (.s 4) (.seq (.region [⟨some 2, .mv (.c (.sl 0 true .exact [])), none⟩] [2])
 .ret)
 .skip))
 (.seq (.region [⟨some 5, .bsl 2 0 [.int .i64 0, .bool false] [] false, none⟩,
  ⟨some 6, .mv (.s 0), none⟩,
  ⟨some 7, .append (.s 5) (.s 6) 2 16 false false, none⟩,
  ⟨some 2, .take 7, none⟩] [2])
 .ret))) }

/-- query.Scans -/
def g85 : GFun :=
 { nparams := 1, keepHeap := false, results := [.inl 2], body :=
 (.seq (.region [⟨some 1, .box (.s 0), none⟩,
  ⟨some 2, .mv (.c (.sl 0 true .exact [])), none⟩] [1])
 (.seq (.region [⟨some 3, .mv (.c (.sl 0 true .exact [])), none⟩] [1, 3])
 (.seq (.seq (.region [⟨some 6, .fieldAddr (.s 1) 0, none⟩,
  ⟨some 7, .load 1 false (.s 6) 1 false, none⟩,
  ⟨some 8, .bin .eql (.s 7) (.c (.int .i64 1)), none⟩] [1, 3, 8])
 (.cond (.s 8) (.region [⟨some 9, .take 3, none⟩,
  ⟨some 10, .fieldAddr (.s 1) 1, none⟩,
  ⟨some 11, .load 1 false (.s 10) 1 false, none⟩,
  ⟨some 12, .bsl 1 1 [.int .i64 0] [(0, (.s 11))] false, none⟩,
  ⟨some 13, .append (.s 9) (.s 12) 1 8 false false, none⟩,
  ⟨some 3, .take 13, none⟩] [1, 3])
 .skip))
 (.seq (.seq (.region [⟨some 14, .fieldAddr (.s 1) 20, none⟩,
  ⟨some 15, .load 1 false (.s 14) 1 false, none⟩,
  ⟨some 16, .len (.s 15) .l false, none⟩,
  ⟨some 17, .mv (.c (.int .i64 0)), none⟩] [3, 15, 16, 17])
 (.block 0 (.loop [3, 15, 16, 17] (.seq (.region [⟨some 18, .bin .lss (.s 17) (.s 16), none⟩] [3, 15, 16, 17, 18])
 (.seq (.cond (.s 18) .skip
 (.exit 0))
 (.seq (.block 1 (.seq (.region [⟨some 19, .indexSl (.s 15) (.s 17) 21, none⟩,
  ⟨some 20, .load 21 true (.s 19) 0 true, none⟩,
  ⟨some 5, .alloc [.int .i64 0, .int .i64 0, .int .i64 0, .int .i64 0, .int .i64 0, .int .i64 0, .int .i64 0, .int .i64 0, .str [], .int .i64 0, .int .i64 0, .int .i64 0, .int .i64 0, .str [], .sl 0 true .exact [], .sl 0 true .exact [], .sl 0 true .exact [], .sl 0 true .exact [], .sl 0 true .exact [], .int .i64 0, .sl 0 true .exact []], none⟩,
  ⟨none, .store 21 (.s 5) (.s 20) 5 false, none⟩] [3, 5, 15, 16, 17])
 (.region [⟨some 21, .take 3, none⟩,
  ⟨some 22, .load 21 true (.s 5) 5 false, none⟩,
  ⟨some 23, .call (.fn 85) [(.s 22)] false, none⟩,
  ⟨some 24, .append (.s 21) (.s 23) 1 8 false false, none⟩,
  ⟨some 3, .take 24, none⟩] [3, 15, 16, 17])))
 (.region [⟨some 25, .bin .add (.s 17) (.c (.int .i64 1)), none⟩,
  ⟨some 17, .mv (.s 25), none⟩] [3, 15, 16, 17])))))))
 (.seq (.region [⟨some 26, .mv (.s 3), none⟩,
  ⟨some 2, .mv (.s 26), none⟩] [2])
 .ret))))) }

/-- evaluate.over -/
def g86 : GFun :=
 { nparams := 3, keepHeap := false, results := [.inl 6, .inl 7], body :=
 (.seq (.region [⟨some 5, .box (.s 2), none⟩,
  ⟨some 6, .mv (.c (.sl 0 true .exact [])), none⟩,
  ⟨some 7, .mv (.c (.int .i64 0)), none⟩] [0, 1, 5])
 (.seq (.region [⟨some 11, .build [.sl 0 true .exact [], .sl 0 true .exact []] [], none⟩,
  ⟨some 8, .alloc [.sl 0 true .exact [], .sl 0 true .exact []], none⟩,
  ⟨none, .store 2 (.s 8) (.s 11) 8 false, none⟩] [0, 1, 5, 8])
 (.seq (.seq (.region [⟨some 12, .fieldAddr (.s 5) 0, none⟩,
  ⟨some 13, .load 1 false (.s 12) 5 false, none⟩,
  ⟨some 14, .bin .eql (.s 13) (.c (.int .i64 1)), none⟩] [0, 1, 5, 8, 14])
 (.cond (.s 14) (.seq (.region [⟨some 15, .mv (.s 0), none⟩,
  ⟨some 16, .mv (.s 1), none⟩,
  ⟨some 17, .indexSl (.s 15) (.s 16) 1, none⟩,
  ⟨some 18, .load 1 false (.s 17) 0 true, none⟩,
  ⟨some 19, .indexArr (.s 8) (.c (.int .i64 0)) 2 1, none⟩,
  ⟨none, .store 1 (.s 19) (.s 18) 8 false, none⟩] [0, 1, 5, 8])
 (.region [⟨some 20, .mv (.s 1), none⟩,
  ⟨some 21, .bin .add (.s 20) (.c (.int .i64 1)), none⟩,
  ⟨some 1, .mv (.s 21), none⟩] [0, 1, 5, 8]))
 .skip))
 (.seq (.seq (.region [⟨some 22, .fieldAddr (.s 5) 20, none⟩,
  ⟨some 23, .load 1 false (.s 22) 5 false, none⟩,
  ⟨some 24, .len (.s 23) .l false, none⟩,
  ⟨some 25, .mv (.c (.int .i64 0)), none⟩] [0, 1, 5, 8, 23, 24, 25])
 (.block 0 (.loop [0, 1, 5, 8, 23, 24, 25] (.seq (.region [⟨some 26, .bin .lss (.s 25) (.s 24), none⟩] [0, 1, 5, 8, 23, 24, 25, 26])
 (.seq (.cond (.s 26) .skip
 (.exit 0))
 (.seq (.block 1 (.seq (.region [⟨some 27, .mv (.s 25), none⟩,
  ⟨some 28, .indexSl (.s 23) (.s 25) 21, none⟩,
  ⟨some 29, .load 21 true (.s 28) 0 true, none⟩,
  ⟨some 10, .alloc [.int .i64 0, .int .i64 0, .int .i64 0, .int .i64 0, .int .i64 0, .int .i64 0, .int .i64 0, .int .i64 0, .str [], .int .i64 0, .int .i64 0, .int .i64 0, .int .i64 0, .str [], .sl 0 true .exact [], .sl 0 true .exact [], .sl 0 true .exact [], .sl 0 true .exact [], .sl 0 true .exact [], .int .i64 0, .sl 0 true .exact []], none⟩,
  ⟨some 9, .mv (.s 27), none⟩,
  ⟨none, .store 21 (.s 10) (.s 29) 10 false, none⟩] [0, 1, 5, 8, 9, 10, 23, 24, 25])
 (.region [⟨some 31, .mv (.s 9), none⟩,
  ⟨some 32, .mv (.s 0), none⟩,
  ⟨some 33, .mv (.s 1), none⟩,
  ⟨some 34, .load 21 true (.s 10) 10 false, none⟩,
  ⟨some 35, .call (.fn 86) [(.s 32), (.s 33), (.s 34)] false, none⟩,
  ⟨some 30, .mv (.s 35), none⟩,
  ⟨some 36, .extract (.s 30) 0, none⟩,
  ⟨some 37, .extract (.s 30) 1, none⟩,
  ⟨some 38, .indexArr (.s 8) (.s 31) 2 1, none⟩,
  ⟨none, .store 1 (.s 38) (.s 36) 8 false, none⟩,
  ⟨some 1, .mv (.s 37), none⟩] [0, 1, 5, 8, 23, 24, 25])))
 (.region [⟨some 39, .bin .add (.s 25) (.c (.int .i64 1)), none⟩,
  ⟨some 25, .mv (.s 39), none⟩] [0, 1, 5, 8, 23, 24, 25])))))))
 (.seq (.region [⟨some 40, .fieldAddr (.s 5) 0, none⟩,
  ⟨some 41, .load 1 false (.s 40) 5 false, none⟩,
  ⟨some 42, .call (.fn 98) [(.s 41)] false, none⟩,
  ⟨some 43, .field (.s 42) 0 1 false, none⟩,
  ⟨some 44, .load 21 true (.s 5) 5 false, none⟩,
  ⟨some 45, .call (.fn 38) [(.s 44)] false, none⟩,
  ⟨some 46, .indexArr (.s 8) (.c (.int .i64 0)) 2 1, none⟩,
  ⟨some 47, .load 1 false (.s 46) 8 false, none⟩,
  ⟨some 48, .call (.fn 99) [(.s 47)] false, none⟩,
  ⟨some 49, .indexArr (.s 8) (.c (.int .i64 1)) 2 1, none⟩,
  ⟨some 50, .load 1 false (.s 49) 8 false, none⟩,
  ⟨some 51, .call (.fn 99) [(.s 50)] false, none⟩,
  ⟨some 52, .call (.val (.s 43)) [(.s 45), (.s 48), (.s 51)] false, none⟩,
  ⟨some 53, .mv (.s 1), none⟩,
  ⟨some 6, .mv (.s 52), none⟩,
  ⟨some 7, .mv (.s 53), none⟩] [6, 7])
 .ret))))) }

/-- value.Set -/
def g87 : GFun :=
 { nparams := 1, keepHeap := false, results := [.inl 2], body :=
 (.seq (.region [⟨some 2, .mv (.c (.sl 0 true .exact [])), none⟩] [0])
 (.seq (.region [⟨some 8, .mv (.s 0), none⟩,
  ⟨some 9, .len (.s 8) .l false, none⟩,
  ⟨some 10, .mkSlice 1 24 [.sl 0 true .exact []] (.s 9) (.s 9) false, none⟩,
  ⟨some 3, .take 10, none⟩] [0, 3])
 (.seq (.region [⟨some 11, .mv (.s 3), none⟩,
  ⟨some 12, .mv (.s 0), none⟩,
  ⟨some 13, .copy (.s 11) (.s 12) 1, none⟩] [3])
 (.seq (.region [⟨some 14, .mv (.s 3), none⟩,
  ⟨some 15, .call (.fn 100) [(.s 14), (.c (.func (.func 29) [] []))] false, none⟩] [3])
 (.seq (.region [⟨some 4, .mv (.c (.sl 0 true .exact [])), none⟩] [3, 4])
 (.seq (.seq (.region [⟨some 16, .mv (.s 3), none⟩,
  ⟨some 17, .len (.s 16) .l false, none⟩,
  ⟨some 18, .mv (.c (.int .i64 0)), none⟩] [3, 4, 16, 17, 18])
 (.block 0 (.loop [3, 4, 16, 17, 18] (.seq (.region [⟨some 19, .bin .lss (.s 18) (.s 17), none⟩] [3, 4, 16, 17, 18, 19])
 (.seq (.cond (.s 19) .skip
 (.exit 0))
 (.seq (.block 1 (.seq (.region [⟨some 20, .mv (.s 18), none⟩,
  ⟨some 21, .indexSl (.s 16) (.s 18) 1, none⟩,
  ⟨some 22, .load 1 false (.s 21) 0 true, none⟩,
  ⟨some 5, .mv (.s 20), none⟩,
  ⟨some 6, .mv (.s 22), none⟩] [3, 4, 5, 6, 16, 17, 18])
 (.seq (.seq (.region [⟨some 23, .mv (.s 5), none⟩,
  ⟨some 24, .bin .gtr (.s 23) (.c (.int .i64 0)), none⟩,
  ⟨some 25, .mv (.s 24), none⟩,
  ⟨some 26, .mv (.s 3), some (25, true)⟩,
  ⟨some 27, .mv (.s 5), some (25, true)⟩,
  ⟨some 28, .bin .sub (.s 27) (.c (.int .i64 1)), some (25, true)⟩,
  ⟨some 29, .indexSl (.s 26) (.s 28) 1, some (25, true)⟩,
  ⟨some 30, .load 1 false (.s 29) 0 true, some (25, true)⟩,
  ⟨some 31, .mv (.s 6), some (25, true)⟩,
  ⟨some 32, .call (.fn 29) [(.s 30), (.s 31)] false, some (25, true)⟩,
  ⟨some 33, .bin .eql (.s 32) (.c (.int .i64 0)), some (25, true)⟩,
  ⟨some 34, .pick (.s 25) (.s 33) (.c (.bool false)), none⟩] [3, 4, 6, 16, 17, 18, 34])
 (.cond (.s 34) (.exit 1)
 .skip))
 (.seq (.region [⟨some 35, .mv (.s 6), none⟩,
  ⟨some 36, .len (.s 35) .l false, none⟩,
  ⟨some 37, .mkSlice 3 32 [.int .i64 0, .int .i64 0, .str []] (.s 36) (.s 36) false, none⟩,
  ⟨some 7, .take 37, none⟩] [3, 4, 6, 7, 16, 17, 18])
 (.seq (.region [⟨some 38, .mv (.s 7), none⟩,
  ⟨some 39, .mv (.s 6), none⟩,
  ⟨some 40, .copy (.s 38) (.s 39) 3, none⟩] [3, 4, 7, 16, 17, 18])
 (.region [⟨some 41, .take 4, none⟩,
  ⟨some 42, .mv (.s 7), none⟩,
  ⟨some 43, .bsl 1 1 [.sl 0 true .exact []] [(0, (.s 42))] false, none⟩,
  ⟨some 44, .append (.s 41) (.s 43) 1 24 false false, none⟩,
  ⟨some 4, .take 44, none⟩] [3, 4, 16, 17, 18]))))))
 (.region [⟨some 45, .bin .add (.s 18) (.c (.int .i64 1)), none⟩,
  ⟨some 18, .mv (.s 45), none⟩] [3, 4, 16, 17, 18])))))))
 (.seq (.region [⟨some 46, .mv (.s 4), none⟩,
  ⟨some 2, .mv (.s 46), none⟩] [2])
 .ret))))))) }

/-- slices.IndexFunc[[]permit.writer,permit.writer] -/
def g88 : GFun :=
 { nparams := 2, keepHeap := false, results := [.inl 4], body :=
 (.seq (.region [⟨some 4, .mv (.c (.int .i64 0)), none⟩] [0, 1])
 (.seq (.seq (.region [⟨some 6, .mv (.s 0), none⟩,
  ⟨some 7, .len (.s 6) .l false, none⟩,
  ⟨some 8, .mv (.c (.int .i64 0)), none⟩] [0, 1, 7, 8])
 (.block 0 (.loop [0, 1, 7, 8] (.seq (.region [⟨some 9, .bin .lss (.s 8) (.s 7), none⟩] [0, 1, 7, 8, 9])
 (.seq (.cond (.s 9) .skip
 (.exit 0))
 (.seq (.block 1 (.seq (.region [⟨some 10, .mv (.s 8), none⟩,
  ⟨some 5, .mv (.s 10), none⟩] [0, 1, 5, 7, 8])
 (.seq (.region [⟨some 11, .mv (.s 1), none⟩,
  ⟨some 12, .mv (.s 0), none⟩,
  ⟨some 13, .mv (.s 5), none⟩,
  ⟨some 14, .indexSl (.s 12) (.s 13) 3, none⟩,
  ⟨some 15, .load 3 true (.s 14) 0 true, none⟩,
  ⟨some 16, .call (.val (.s 11)) [(.s 15)] false, none⟩] [0, 1, 5, 7, 8, 16])
 (.cond (.s 16) (.seq (.region [⟨some 17, .mv (.s 5), none⟩,
  ⟨some 4, .mv (.s 17), none⟩] [4])
 .ret)
 .skip))))
 (.region [⟨some 18, .bin .add (.s 8) (.c (.int .i64 1)), none⟩,
  ⟨some 8, .mv (.s 18), none⟩] [0, 1, 7, 8])))))))
 (.seq (.region [⟨some 4, .mv (.c (.int .i64 (-1))), none⟩] [4])
 .ret))) }

/-- slices.SortFunc[[]api.Violation,api.Violation] -/
def g91 : GFun :=
 { nparams := 2, keepHeap := false, results := [], body :=
 (.seq (.region [⟨some 5, .mv (.s 0), none⟩,
  ⟨some 6, .len (.s 5) .l false, none⟩,
  ⟨some 4, .mv (.s 6), none⟩] [0, 1, 4])
 (.region [⟨some 7, .mv (.s 0), none⟩,
  ⟨some 8, .mv (.s 4), none⟩,
  ⟨some 9, .mv (.s 4), none⟩,
  ⟨some 10, .toInt .u64 (.s 9), none⟩,
  ⟨some 11, .call (.fn 104) [(.s 10)] false, none⟩,
  ⟨some 12, .mv (.s 1), none⟩,
  ⟨some 13, .call (.fn 103) [(.s 7), (.c (.int .i64 0)), (.s 8), (.s 11), (.s 12)] false, none⟩] [])) }

/-- integrity.byRow -/
def g92 : GFun :=
 { nparams := 0, keepHeap := false, results := [.inr (0, 1, true)], body :=
 (.seq (.region [⟨some 0, .alloc [.sl 0 true .exact []], none⟩] [0])
 (.seq (.region [⟨some 1, .bsl 1 4 [.nilfunc] [(0, (.c (.func (.func 105) [] []))), (1, (.c (.func (.func 106) [] []))), (2, (.c (.func (.func 107) [] []))), (3, (.c (.func (.func 108) [] [])))] false, none⟩,
  ⟨some 2, .build [.sl 0 true .exact []] [(0, 1, (.s 1))], none⟩,
  ⟨none, .store 1 (.s 0) (.s 2) 0 false, none⟩] [0])
 .ret)) }

/-- (integrity.orders).compare -/
def g93 : GFun :=
 { nparams := 3, keepHeap := false, results := [.inl 6], body :=
 (.seq (.region [⟨some 3, .box (.s 0), none⟩,
  ⟨some 4, .box (.s 1), none⟩,
  ⟨some 5, .box (.s 2), none⟩,
  ⟨some 6, .mv (.c (.int .i64 0)), none⟩] [3, 4, 5])
 (.seq (.seq (.region [⟨some 10, .fieldAddr (.s 3) 0, none⟩,
  ⟨some 11, .load 1 false (.s 10) 3 false, none⟩,
  ⟨some 12, .len (.s 11) .l false, none⟩,
  ⟨some 13, .mv (.c (.int .i64 0)), none⟩] [4, 5, 11, 12, 13])
 (.block 0 (.loop [4, 5, 11, 12, 13] (.seq (.region [⟨some 14, .bin .lss (.s 13) (.s 12), none⟩] [4, 5, 11, 12, 13, 14])
 (.seq (.cond (.s 14) .skip
 (.exit 0))
 (.seq (.block 1 (.seq (.region [⟨some 15, .indexSl (.s 11) (.s 13) 1, none⟩,
  ⟨some 16, .load 1 false (.s 15) 0 true, none⟩,
  ⟨some 8, .mv (.s 16), none⟩] [4, 5, 8, 11, 12, 13])
 (.seq (.region [⟨some 17, .mv (.s 8), none⟩,
  ⟨some 18, .load 4 true (.s 4) 4 false, none⟩,
  ⟨some 19, .load 4 true (.s 5) 5 false, none⟩,
  ⟨some 20, .call (.val (.s 17)) [(.s 18), (.s 19)] false, none⟩,
  ⟨some 9, .mv (.s 20), none⟩] [4, 5, 9, 11, 12, 13])
 (.seq (.region [⟨some 21, .mv (.s 9), none⟩,
  ⟨some 22, .bin .neq (.s 21) (.c (.int .i64 0)), none⟩] [4, 5, 9, 11, 12, 13, 22])
 (.cond (.s 22) (.seq (.region [⟨some 23, .mv (.s 9), none⟩,
  ⟨some 6, .mv (.s 23), none⟩] [6])
 .ret)
 .skip)))))
 (.region [⟨some 24, .bin .add (.s 13) (.c (.int .i64 1)), none⟩,
  ⟨some 13, .mv (.s 24), none⟩] [4, 5, 11, 12, 13])))))))
 (.seq (.region [⟨some 6, .mv (.c (.int .i64 0)), none⟩] [6])
 .ret))) }

/-- own.Kinds -/
def g95 : GFun :=
 { nparams := 6, keepHeap := false, results := [.inl 12, .inl 13], body :=
 (.seq (.region [⟨some 6, .box (.s 0), none⟩,
  ⟨some 8, .box (.s 2), none⟩,
  ⟨some 12, .mv (.c (.sl 0 true .exact [])), none⟩,
  ⟨some 13, .mv (.c (.int .i64 0)), none⟩] [1, 3, 4, 5, 6, 8])
 (.seq (.seq (.region [⟨some 18, .fieldAddr (.s 8) 0, none⟩,
  ⟨some 19, .load 1 false (.s 18) 8 false, none⟩,
  ⟨some 20, .call (.fn 37) [(.s 19)] false, none⟩,
  ⟨some 21, .bin .lss (.s 20) (.c (.int .i64 0)), none⟩,
  ⟨some 22, .mv (.s 21), none⟩,
  ⟨some 23, .load 22 true (.s 8) 8 false, some (22, false)⟩,
  ⟨some 24, .call (.fn 109) [(.s 23)] false, some (22, false)⟩,
  ⟨some 25, .un .not (.s 24), some (22, false)⟩,
  ⟨some 26, .pick (.s 22) (.c (.bool true)) (.s 25), none⟩] [1, 3, 4, 5, 6, 8, 26])
 (.cond (.s 26) (.seq (.region [⟨some 27, .mv (.s 5), none⟩,
  ⟨some 12, .mv (.c (.sl 0 true .exact [])), none⟩,
  ⟨some 13, .mv (.s 27), none⟩] [12, 13])
 .ret)
 .skip))
 (.seq (.region [⟨some 28, .mv (.s 3), none⟩,
  ⟨some 29, .call (.fn 82) [(.s 28)] false, none⟩,
  ⟨some 14, .mv (.s 29), none⟩] [1, 3, 4, 5, 6, 8, 14])
 (.seq (.seq (.region [⟨some 30, .fieldAddr (.s 8) 0, none⟩,
  ⟨some 31, .load 1 false (.s 30) 8 false, none⟩] [1, 3, 4, 5, 6, 8, 14, 31])
 (.block 0 (.seq (.region [⟨some 49, .bin .eql (.s 31) (.c (.int .i64 1)), none⟩,
  ⟨some 48, .mv (.s 49), none⟩] [1, 3, 4, 5, 6, 8, 14, 31, 48])
 (.cond (.s 48) (.seq (.seq (.region [⟨some 50, .fieldAddr (.s 8) 1, none⟩,
  ⟨some 51, .load 1 false (.s 50) 8 false, none⟩,
  ⟨some 52, .bin .lss (.s 51) (.c (.int .i64 0)), none⟩,
  ⟨some 53, .mv (.s 52), none⟩,
  ⟨some 54, .fieldAddr (.s 8) 1, some (53, false)⟩,
  ⟨some 55, .load 1 false (.s 54) 8 false, some (53, false)⟩,
  ⟨some 56, .fieldAddr (.s 6) 1, some (53, false)⟩,
  ⟨some 57, .load 1 false (.s 56) 6 false, some (53, false)⟩,
  ⟨some 58, .len (.s 57) .l false, some (53, false)⟩,
  ⟨some 59, .bin .geq (.s 55) (.s 58), some (53, false)⟩,
  ⟨some 60, .pick (.s 53) (.c (.bool true)) (.s 59), none⟩] [5, 6, 8, 60])
 (.cond (.s 60) (.seq (.region [⟨some 61, .mv (.s 5), none⟩,
  ⟨some 12, .mv (.c (.sl 0 true .exact [])), none⟩,
  ⟨some 13, .mv (.s 61), none⟩] [12, 13])
 .ret)
 .skip))
 (.region [⟨some 62, .load 2 true (.s 6) 6 false, none⟩,
  ⟨some 63, .fieldAddr (.s 8) 1, none⟩,
  ⟨some 64, .load 1 false (.s 63) 8 false, none⟩,
  ⟨some 65, .call (.fn 33) [(.s 62), (.s 64)] false, none⟩,
  ⟨some 14, .mv (.s 65), none⟩] [14]))
 (.seq (.region [⟨some 67, .bin .eql (.s 31) (.c (.int .i64 2)), none⟩,
  ⟨some 66, .mv (.s 67), none⟩] [1, 3, 4, 5, 8, 14, 31, 66])
 (.cond (.s 66) (.seq (.region [⟨some 68, .mv (.s 3), none⟩,
  ⟨some 69, .mv (.s 1), none⟩,
  ⟨some 70, .fieldAddr (.s 8) 2, none⟩,
  ⟨some 71, .load 13 true (.s 70) 8 false, none⟩,
  ⟨some 72, .call (.fn 32) [(.s 68), (.s 69), (.s 71)] false, none⟩,
  ⟨some 15, .mv (.s 72), none⟩] [14, 15])
 (.seq (.region [⟨some 73, .mv (.s 15), none⟩,
  ⟨some 74, .bin .neq (.s 73) (.c (.int .i64 0)), none⟩] [14, 15, 74])
 (.cond (.s 74) (.seq (.region [⟨some 75, .mv (.s 15), none⟩,
  ⟨some 12, .mv (.c (.sl 0 true .exact [])), none⟩,
  ⟨some 13, .mv (.s 75), none⟩] [12, 13])
 .ret)
 .skip)))
 (.seq (.region [⟨some 77, .bin .eql (.s 31) (.c (.int .i64 3)), none⟩,
  ⟨some 76, .mv (.s 77), none⟩] [3, 4, 5, 8, 14, 31, 76])
 (.cond (.s 76) (.seq (.seq (.region [⟨some 78, .fieldAddr (.s 8) 15, none⟩,
  ⟨some 79, .load 1 false (.s 78) 8 false, none⟩,
  ⟨some 80, .len (.s 79) .l false, none⟩,
  ⟨some 81, .bin .eql (.s 80) (.c (.int .i64 0)), none⟩] [3, 5, 8, 81])
 (.cond (.s 81) (.seq (.region [⟨some 82, .mv (.s 5), none⟩,
  ⟨some 12, .mv (.c (.sl 0 true .exact [])), none⟩,
  ⟨some 13, .mv (.s 82), none⟩] [12, 13])
 .ret)
 .skip))
 (.seq (.region [⟨some 14, .mv (.c (.sl 0 true .exact [])), none⟩] [3, 5, 8, 14])
 (.seq (.region [⟨some 83, .fieldAddr (.s 8) 15, none⟩,
  ⟨some 84, .load 1 false (.s 83) 8 false, none⟩,
  ⟨some 85, .len (.s 84) .l false, none⟩,
  ⟨some 86, .mv (.c (.int .i64 0)), none⟩] [3, 5, 14, 84, 85, 86])
 (.block 1 (.loop [3, 5, 14, 84, 85, 86] (.seq (.region [⟨some 87, .bin .lss (.s 86) (.s 85), none⟩] [3, 5, 14, 84, 85, 86, 87])
 (.seq (.cond (.s 87) .skip
 (.exit 1))
 (.seq (.block 2 (.seq (.region [⟨some 88, .indexSl (.s 84) (.s 86) 1, none⟩,
  ⟨some 89, .load 1 false (.s 88) 0 true, none⟩,
  ⟨some 17, .mv (.s 89), none⟩] [3, 5, 14, 17, 84, 85, 86])
 (.seq (.seq (.region [⟨some 90, .mv (.s 17), none⟩,
  ⟨some 91, .bin .lss (.s 90) (.c (.int .i64 0)), none⟩,
  ⟨some 92, .mv (.s 91), none⟩,
  ⟨some 93, .mv (.s 17), some (92, false)⟩,
  ⟨some 94, .mv (.s 3), some (92, false)⟩,
  ⟨some 95, .len (.s 94) .l false, some (92, false)⟩,
  ⟨some 96, .bin .geq (.s 93) (.s 95), some (92, false)⟩,
  ⟨some 97, .pick (.s 92) (.c (.bool true)) (.s 96), none⟩] [3, 5, 14, 17, 84, 85, 86, 97])
 (.cond (.s 97) (.seq (.region [⟨some 98, .mv (.s 5), none⟩,
  ⟨some 12, .mv (.c (.sl 0 true .exact [])), none⟩,
  ⟨some 13, .mv (.s 98), none⟩] [12, 13])
 .ret)
 .skip))
 (.region [⟨some 99, .take 14, none⟩,
  ⟨some 100, .mv (.s 3), none⟩,
  ⟨some 101, .mv (.s 17), none⟩,
  ⟨some 102, .indexSl (.s 100) (.s 101) 1, none⟩,
  ⟨some 103, .load 1 false (.s 102) 0 true, none⟩,
  ⟨some 104, .bsl 1 1 [.int .i64 0] [(0, (.s 103))] false, none⟩,
  ⟨some 105, .append (.s 99) (.s 104) 1 8 false false, none⟩,
  ⟨some 14, .take 105, none⟩] [3, 5, 14, 84, 85, 86]))))
 (.region [⟨some 106, .bin .add (.s 86) (.c (.int .i64 1)), none⟩,
  ⟨some 86, .mv (.s 106), none⟩] [3, 5, 14, 84, 85, 86])))))))))
 (.seq (.seq (.region [⟨some 108, .bin .eql (.s 31) (.c (.int .i64 4)), none⟩,
  ⟨some 107, .mv (.s 108), none⟩] [3, 4, 5, 8, 14, 31, 107])
 (.cond (.s 107) .skip
 (.region [⟨some 109, .bin .eql (.s 31) (.c (.int .i64 5)), none⟩,
  ⟨some 107, .mv (.s 109), none⟩] [3, 4, 5, 8, 14, 31, 107])))
 (.cond (.s 107) (.seq (.seq (.region [⟨some 110, .fieldAddr (.s 8) 16, none⟩,
  ⟨some 111, .load 1 false (.s 110) 8 false, none⟩,
  ⟨some 112, .mv (.s 3), none⟩,
  ⟨some 113, .mv (.s 4), none⟩,
  ⟨some 114, .call (.fn 110) [(.s 111), (.s 112), (.s 113)] false, none⟩,
  ⟨some 115, .un .not (.s 114), none⟩] [4, 5, 8, 14, 115])
 (.cond (.s 115) (.seq (.region [⟨some 116, .mv (.s 5), none⟩,
  ⟨some 12, .mv (.c (.sl 0 true .exact [])), none⟩,
  ⟨some 13, .mv (.s 116), none⟩] [12, 13])
 .ret)
 .skip))
 (.seq (.region [⟨some 117, .fieldAddr (.s 8) 0, none⟩,
  ⟨some 118, .load 1 false (.s 117) 8 false, none⟩,
  ⟨some 119, .bin .eql (.s 118) (.c (.int .i64 4)), none⟩] [4, 14, 119])
 (.cond (.s 119) (.region [⟨some 120, .take 14, none⟩,
  ⟨some 121, .mv (.s 4), none⟩,
  ⟨some 122, .append (.s 120) (.s 121) 1 8 false false, none⟩,
  ⟨some 14, .take 122, none⟩] [14])
 .skip)))
 (.seq (.region [⟨some 124, .bin .eql (.s 31) (.c (.int .i64 9)), none⟩,
  ⟨some 123, .mv (.s 124), none⟩] [3, 4, 5, 8, 14, 123])
 (.cond (.s 123) (.seq (.region [⟨some 125, .load 22 true (.s 8) 8 false, none⟩,
  ⟨some 126, .mv (.s 3), none⟩,
  ⟨some 127, .call (.fn 111) [(.s 125), (.s 126)] false, none⟩,
  ⟨some 128, .un .not (.s 127), none⟩] [5, 14, 128])
 (.cond (.s 128) (.seq (.region [⟨some 129, .mv (.s 5), none⟩,
  ⟨some 12, .mv (.c (.sl 0 true .exact [])), none⟩,
  ⟨some 13, .mv (.s 129), none⟩] [12, 13])
 .ret)
 .skip))
 (.seq (.region [⟨some 32, .mv (.s 3), none⟩,
  ⟨some 33, .mv (.s 4), none⟩,
  ⟨some 34, .call (.fn 19) [(.s 32), (.s 33)] false, none⟩,
  ⟨some 35, .un .not (.s 34), none⟩,
  ⟨some 36, .mv (.s 35), none⟩,
  ⟨some 37, .fieldAddr (.s 8) 0, some (36, false)⟩,
  ⟨some 38, .load 1 false (.s 37) 8 false, some (36, false)⟩,
  ⟨some 39, .bin .eql (.s 38) (.c (.int .i64 10)), some (36, false)⟩,
  ⟨some 40, .mv (.s 39), some (36, false)⟩,
  ⟨some 41, .load 22 true (.s 8) 8 false, some (40, true)⟩,
  ⟨some 42, .mv (.s 3), some (40, true)⟩,
  ⟨some 43, .call (.fn 111) [(.s 41), (.s 42)] false, some (40, true)⟩,
  ⟨some 44, .un .not (.s 43), some (40, true)⟩,
  ⟨some 45, .pick (.s 40) (.s 44) (.c (.bool false)), some (36, false)⟩,
  ⟨some 46, .pick (.s 36) (.c (.bool true)) (.s 45), none⟩] [5, 14, 46])
 (.cond (.s 46) (.seq (.region [⟨some 47, .mv (.s 5), none⟩,
  ⟨some 12, .mv (.c (.sl 0 true .exact [])), none⟩,
  ⟨some 13, .mv (.s 47), none⟩] [12, 13])
 .ret)
 .skip))))))))))))))
 (.seq (.seq (.region [⟨some 130, .mv (.s 14), none⟩,
  ⟨some 131, .len (.s 130) .l false, none⟩,
  ⟨some 132, .bin .gtr (.s 131) (.c (.int .i64 12)), none⟩] [14, 132])
 (.cond (.s 132) (.seq (.region [⟨some 12, .mv (.c (.sl 0 true .exact [])), none⟩,
  ⟨some 13, .mv (.c (.int .i64 2)), none⟩] [12, 13])
 .ret)
 .skip))
 (.seq (.region [⟨some 133, .mv (.s 14), none⟩,
  ⟨some 12, .mv (.s 133), none⟩,
  ⟨some 13, .mv (.c (.int .i64 0)), none⟩] [12, 13])
 .ret)))))) }

/-- cmp.isNaN[int] -/
def g96 : GFun :=
 { nparams := 1, keepHeap := false, results := [.inl 2], body :=
 (.seq (.region [⟨some 2, .mv (.c (.bool false)), none⟩] [0])
 (.seq (.region [⟨some 3, .mv (.s 0), none⟩,
  ⟨some 4, .mv (.s 0), none⟩,
  ⟨some 5, .bin .neq (.s 3) (.s 4), none⟩,
  ⟨some 2, .mv (.s 5), none⟩] [2])
 .ret)) }

/-- predicate.bound -/
def g97 : GFun :=
 { nparams := 2, keepHeap := false, results := [.inr (4, 5, true)], body :=
 (.seq (.region [⟨some 2, .box (.s 0), none⟩,
  ⟨some 4, .alloc [.int .i64 0, .int .i64 0, .int .i64 0, .int .i64 0, .str []], none⟩] [1, 2, 4])
 (.seq (.seq (.region [⟨some 5, .fieldAddr (.s 2) 0, none⟩,
  ⟨some 6, .load 1 false (.s 5) 2 false, none⟩,
  ⟨some 7, .bin .eql (.s 6) (.c (.int .i64 2)), none⟩,
  ⟨some 8, .mv (.s 7), none⟩,
  ⟨some 9, .fieldAddr (.s 2) 1, some (8, true)⟩,
  ⟨some 10, .load 1 false (.s 9) 2 false, some (8, true)⟩,
  ⟨some 11, .bin .geq (.s 10) (.c (.int .i64 0)), some (8, true)⟩,
  ⟨some 12, .pick (.s 8) (.s 11) (.c (.bool false)), none⟩,
  ⟨some 13, .mv (.s 12), none⟩,
  ⟨some 14, .fieldAddr (.s 2) 1, some (13, true)⟩,
  ⟨some 15, .load 1 false (.s 14) 2 false, some (13, true)⟩,
  ⟨some 16, .mv (.s 1), some (13, true)⟩,
  ⟨some 17, .len (.s 16) .l false, some (13, true)⟩,
  ⟨some 18, .bin .lss (.s 15) (.s 17), some (13, true)⟩,
  ⟨some 19, .pick (.s 13) (.s 18) (.c (.bool false)), none⟩] [1, 2, 4, 19])
 (.cond (.s 19) (.seq (.region [⟨some 20, .mv (.s 1), none⟩,
  ⟨some 21, .fieldAddr (.s 2) 1, none⟩,
  ⟨some 22, .load 1 false (.s 21) 2 false, none⟩,
  ⟨some 23, .indexSl (.s 20) (.s 22) 3, none⟩,
  ⟨some 24, .load 3 true (.s 23) 0 true, none⟩,
  ⟨some 25, .build [.int .i64 0, .int .i64 0, .int .i64 0, .int .i64 0, .str []] [(0, 1, (.c (.int .i64 3))), (2, 3, (.s 24))], none⟩,
  ⟨none, .store 5 (.s 4) (.s 25) 4 false, none⟩] [4])
 .ret)
 .skip))
 (.seq (.region [⟨some 26, .load 5 true (.s 2) 2 false, none⟩,
  ⟨none, .store 5 (.s 4) (.s 26) 4 false, none⟩] [4])
 .ret))) }

/-- evaluate.operators -/
def g98 : GFun :=
 { nparams := 1, keepHeap := false, results := [.inr (2, 1, true)], body :=
 (.seq (.region [⟨some 2, .alloc [.nilfunc], none⟩] [0, 2])
 (.seq (.seq (.region [⟨some 3, .mv (.s 0), none⟩] [2, 3])
 (.block 0 (.seq (.region [⟨some 5, .bin .eql (.s 3) (.c (.int .i64 1)), none⟩,
  ⟨some 4, .mv (.s 5), none⟩] [2, 3, 4])
 (.cond (.s 4) (.seq (.region [⟨some 6, .build [.nilfunc] [(0, 1, (.c (.func (.func 112) [] [])))], none⟩,
  ⟨none, .store 1 (.s 2) (.s 6) 2 false, none⟩] [2])
 .ret)
 (.seq (.region [⟨some 8, .bin .eql (.s 3) (.c (.int .i64 3)), none⟩,
  ⟨some 7, .mv (.s 8), none⟩] [2, 7])
 (.cond (.s 7) (.seq (.region [⟨some 9, .build [.nilfunc] [(0, 1, (.c (.func (.func 114) [] [])))], none⟩,
  ⟨none, .store 1 (.s 2) (.s 9) 2 false, none⟩] [2])
 .ret)
 .skip))))))
 (.seq (.region [⟨some 10, .build [.nilfunc] [(0, 1, (.c (.func (.func 116) [] [])))], none⟩,
  ⟨none, .store 1 (.s 2) (.s 10) 2 false, none⟩] [2])
 .ret))) }

/-- evaluate.each -/
def g99 : GFun :=
 { nparams := 1, keepHeap := true, results := [.inl 2], body :=
 (.seq (.region [⟨some 1, .hbox (.s 0), none⟩,
  ⟨some 2, .mv (.c (.nilfunc)), none⟩] [1])
 (.seq (.region [⟨some 3, .mkFunc (.func 118) [] [(.s 1)], none⟩,
  ⟨some 2, .mv (.s 3), none⟩] [2])
 .ret)) }

/-- slices.SortFunc[[]api.Row,api.Row] -/
def g100 : GFun :=
 { nparams := 2, keepHeap := false, results := [], body :=
 (.seq (.region [⟨some 5, .mv (.s 0), none⟩,
  ⟨some 6, .len (.s 5) .l false, none⟩,
  ⟨some 4, .mv (.s 6), none⟩] [0, 1, 4])
 (.region [⟨some 7, .mv (.s 0), none⟩,
  ⟨some 8, .mv (.s 4), none⟩,
  ⟨some 9, .mv (.s 4), none⟩,
  ⟨some 10, .toInt .u64 (.s 9), none⟩,
  ⟨some 11, .call (.fn 104) [(.s 10)] false, none⟩,
  ⟨some 12, .mv (.s 1), none⟩,
  ⟨some 13, .call (.fn 119) [(.s 7), (.c (.int .i64 0)), (.s 8), (.s 11), (.s 12)] false, none⟩] [])) }

/-- slices.pdqsortCmpFunc[api.Violation] -/
def g103 : GFun :=
 { nparams := 5, keepHeap := false, results := [], body :=
 (.seq (.region [⟨some 10, .mv (.c (.bool true)), none⟩] [0, 1, 2, 3, 4, 10])
 (.seq (.region [⟨some 11, .mv (.c (.bool true)), none⟩] [0, 1, 2, 3, 4, 10, 11])
 (.block 0 (.loop [0, 1, 2, 3, 4, 10, 11] (.block 1 (.seq (.region [⟨some 21, .mv (.s 2), none⟩,
  ⟨some 22, .mv (.s 1), none⟩,
  ⟨some 23, .bin .sub (.s 21) (.s 22), none⟩,
  ⟨some 12, .mv (.s 23), none⟩] [0, 1, 2, 3, 4, 10, 11, 12])
 (.seq (.seq (.region [⟨some 24, .mv (.s 12), none⟩,
  ⟨some 25, .bin .leq (.s 24) (.c (.int .i64 12)), none⟩] [0, 1, 2, 3, 4, 10, 11, 12, 25])
 (.cond (.s 25) (.seq (.region [⟨some 26, .mv (.s 0), none⟩,
  ⟨some 27, .mv (.s 1), none⟩,
  ⟨some 28, .mv (.s 2), none⟩,
  ⟨some 29, .mv (.s 4), none⟩,
  ⟨some 30, .call (.fn 126) [(.s 26), (.s 27), (.s 28), (.s 29)] false, none⟩] [])
 .ret)
 .skip))
 (.seq (.seq (.region [⟨some 31, .mv (.s 3), none⟩,
  ⟨some 32, .bin .eql (.s 31) (.c (.int .i64 0)), none⟩] [0, 1, 2, 3, 4, 10, 11, 12, 32])
 (.cond (.s 32) (.seq (.region [⟨some 33, .mv (.s 0), none⟩,
  ⟨some 34, .mv (.s 1), none⟩,
  ⟨some 35, .mv (.s 2), none⟩,
  ⟨some 36, .mv (.s 4), none⟩,
  ⟨some 37, .call (.fn 127) [(.s 33), (.s 34), (.s 35), (.s 36)] false, none⟩] [])
 .ret)
 .skip))
 (.seq (.seq (.region [⟨some 38, .mv (.s 10), none⟩,
  ⟨some 39, .un .not (.s 38), none⟩] [0, 1, 2, 3, 4, 10, 11, 12, 39])
 (.cond (.s 39) (.seq (.region [⟨some 40, .mv (.s 0), none⟩,
  ⟨some 41, .mv (.s 1), none⟩,
  ⟨some 42, .mv (.s 2), none⟩,
  ⟨some 43, .mv (.s 4), none⟩,
  ⟨some 44, .call (.fn 128) [(.s 40), (.s 41), (.s 42), (.s 43)] false, none⟩] [0, 1, 2, 3, 4, 10, 11, 12])
 (.region [⟨some 45, .mv (.s 3), none⟩,
  ⟨some 46, .bin .sub (.s 45) (.c (.int .i64 1)), none⟩,
  ⟨some 3, .mv (.s 46), none⟩] [0, 1, 2, 3, 4, 10, 11, 12]))
 .skip))
 (.seq (.region [⟨some 48, .mv (.s 0), none⟩,
  ⟨some 49, .mv (.s 1), none⟩,
  ⟨some 50, .mv (.s 2), none⟩,
  ⟨some 51, .mv (.s 4), none⟩,
  ⟨some 52, .call (.fn 129) [(.s 48), (.s 49), (.s 50), (.s 51)] false, none⟩,
  ⟨some 47, .mv (.s 52), none⟩,
  ⟨some 53, .extract (.s 47) 0, none⟩,
  ⟨some 54, .extract (.s 47) 1, none⟩,
  ⟨some 13, .mv (.s 53), none⟩,
  ⟨some 14, .mv (.s 54), none⟩] [0, 1, 2, 3, 4, 10, 11, 12, 13, 14])
 (.seq (.seq (.region [⟨some 55, .mv (.s 14), none⟩,
  ⟨some 56, .bin .eql (.s 55) (.c (.int .i64 2)), none⟩] [0, 1, 2, 3, 4, 10, 11, 12, 13, 14, 56])
 (.cond (.s 56) (.seq (.region [⟨some 57, .mv (.s 0), none⟩,
  ⟨some 58, .mv (.s 1), none⟩,
  ⟨some 59, .mv (.s 2), none⟩,
  ⟨some 60, .mv (.s 4), none⟩,
  ⟨some 61, .call (.fn 130) [(.s 57), (.s 58), (.s 59), (.s 60)] false, none⟩] [0, 1, 2, 3, 4, 10, 11, 12, 13])
 (.seq (.region [⟨some 62, .mv (.s 2), none⟩,
  ⟨some 63, .bin .sub (.s 62) (.c (.int .i64 1)), none⟩,
  ⟨some 64, .mv (.s 13), none⟩,
  ⟨some 65, .mv (.s 1), none⟩,
  ⟨some 66, .bin .sub (.s 64) (.s 65), none⟩,
  ⟨some 67, .bin .sub (.s 63) (.s 66), none⟩,
  ⟨some 13, .mv (.s 67), none⟩] [0, 1, 2, 3, 4, 10, 11, 12, 13])
 (.region [⟨some 14, .mv (.c (.int .i64 1)), none⟩] [0, 1, 2, 3, 4, 10, 11, 12, 13, 14])))
 .skip))
 (.seq (.seq (.region [⟨some 68, .mv (.s 10), none⟩,
  ⟨some 69, .mv (.s 68), none⟩,
  ⟨some 70, .mv (.s 11), some (69, true)⟩,
  ⟨some 71, .pick (.s 69) (.s 70) (.c (.bool false)), none⟩,
  ⟨some 72, .mv (.s 71), none⟩,
  ⟨some 73, .mv (.s 14), some (72, true)⟩,
  ⟨some 74, .bin .eql (.s 73) (.c (.int .i64 1)), some (72, true)⟩,
  ⟨some 75, .pick (.s 72) (.s 74) (.c (.bool false)), none⟩] [0, 1, 2, 3, 4, 10, 11, 12, 13, 75])
 (.cond (.s 75) (.seq (.region [⟨some 76, .mv (.s 0), none⟩,
  ⟨some 77, .mv (.s 1), none⟩,
  ⟨some 78, .mv (.s 2), none⟩,
  ⟨some 79, .mv (.s 4), none⟩,
  ⟨some 80, .call (.fn 131) [(.s 76), (.s 77), (.s 78), (.s 79)] false, none⟩] [0, 1, 2, 3, 4, 10, 11, 12, 13, 80])
 (.cond (.s 80) .ret
 .skip))
 .skip))
 (.seq (.seq (.region [⟨some 81, .mv (.s 1), none⟩,
  ⟨some 82, .bin .gtr (.s 81) (.c (.int .i64 0)), none⟩,
  ⟨some 83, .mv (.s 82), none⟩,
  ⟨some 84, .mv (.s 4), some (83, true)⟩,
  ⟨some 85, .mv (.s 0), some (83, true)⟩,
  ⟨some 86, .mv (.s 1), some (83, true)⟩,
  ⟨some 87, .bin .sub (.s 86) (.c (.int .i64 1)), some (83, true)⟩,
  ⟨some 88, .indexSl (.s 85) (.s 87) 4, some (83, true)⟩,
  ⟨some 89, .load 4 true (.s 88) 0 true, some (83, true)⟩,
  ⟨some 90, .mv (.s 0), some (83, true)⟩,
  ⟨some 91, .mv (.s 13), some (83, true)⟩,
  ⟨some 92, .indexSl (.s 90) (.s 91) 4, some (83, true)⟩,
  ⟨some 93, .load 4 true (.s 92) 0 true, some (83, true)⟩,
  ⟨some 94, .call (.val (.s 84)) [(.s 89), (.s 93)] false, some (83, true)⟩,
  ⟨some 95, .bin .lss (.s 94) (.c (.int .i64 0)), some (83, true)⟩,
  ⟨some 96, .un .not (.s 95), some (83, true)⟩,
  ⟨some 97, .pick (.s 83) (.s 96) (.c (.bool false)), none⟩] [0, 1, 2, 3, 4, 10, 11, 12, 13, 97])
 (.cond (.s 97) (.seq (.region [⟨some 98, .mv (.s 0), none⟩,
  ⟨some 99, .mv (.s 1), none⟩,
  ⟨some 100, .mv (.s 2), none⟩,
  ⟨some 101, .mv (.s 13), none⟩,
  ⟨some 102, .mv (.s 4), none⟩,
  ⟨some 103, .call (.fn 132) [(.s 98), (.s 99), (.s 100), (.s 101), (.s 102)] false, none⟩,
  ⟨some 15, .mv (.s 103), none⟩] [0, 2, 3, 4, 10, 11, 15])
 (.seq (.region [⟨some 104, .mv (.s 15), none⟩,
  ⟨some 1, .mv (.s 104), none⟩] [0, 1, 2, 3, 4, 10, 11])
 (.exit 1)))
 .skip))
 (.seq (.region [⟨some 106, .mv (.s 0), none⟩,
  ⟨some 107, .mv (.s 1), none⟩,
  ⟨some 108, .mv (.s 2), none⟩,
  ⟨some 109, .mv (.s 13), none⟩,
  ⟨some 110, .mv (.s 4), none⟩,
  ⟨some 111, .call (.fn 133) [(.s 106), (.s 107), (.s 108), (.s 109), (.s 110)] false, none⟩,
  ⟨some 105, .mv (.s 111), none⟩,
  ⟨some 112, .extract (.s 105) 0, none⟩,
  ⟨some 113, .extract (.s 105) 1, none⟩,
  ⟨some 16, .mv (.s 112), none⟩,
  ⟨some 17, .mv (.s 113), none⟩] [0, 1, 2, 3, 4, 12, 16, 17])
 (.seq (.region [⟨some 114, .mv (.s 17), none⟩,
  ⟨some 11, .mv (.s 114), none⟩] [0, 1, 2, 3, 4, 11, 12, 16])
 (.seq (.region [⟨some 115, .mv (.s 16), none⟩,
  ⟨some 116, .mv (.s 1), none⟩,
  ⟨some 117, .bin .sub (.s 115) (.s 116), none⟩,
  ⟨some 118, .mv (.s 2), none⟩,
  ⟨some 119, .mv (.s 16), none⟩,
  ⟨some 120, .bin .sub (.s 118) (.s 119), none⟩,
  ⟨some 18, .mv (.s 117), none⟩,
  ⟨some 19, .mv (.s 120), none⟩] [0, 1, 2, 3, 4, 11, 12, 16, 18, 19])
 (.seq (.region [⟨some 121, .mv (.s 12), none⟩,
  ⟨some 122, .bin .quo (.s 121) (.c (.int .i64 8)), none⟩,
  ⟨some 20, .mv (.s 122), none⟩] [0, 1, 2, 3, 4, 11, 16, 18, 19, 20])
 (.seq (.region [⟨some 123, .mv (.s 18), none⟩,
  ⟨some 124, .mv (.s 19), none⟩,
  ⟨some 125, .bin .lss (.s 123) (.s 124), none⟩] [0, 1, 2, 3, 4, 11, 16, 18, 19, 20, 125])
 (.cond (.s 125) (.seq (.region [⟨some 126, .mv (.s 18), none⟩,
  ⟨some 127, .mv (.s 20), none⟩,
  ⟨some 128, .bin .geq (.s 126) (.s 127), none⟩,
  ⟨some 10, .mv (.s 128), none⟩] [0, 1, 2, 3, 4, 10, 11, 16])
 (.seq (.region [⟨some 129, .mv (.s 0), none⟩,
  ⟨some 130, .mv (.s 1), none⟩,
  ⟨some 131, .mv (.s 16), none⟩,
  ⟨some 132, .mv (.s 3), none⟩,
  ⟨some 133, .mv (.s 4), none⟩,
  ⟨some 134, .call (.fn 103) [(.s 129), (.s 130), (.s 131), (.s 132), (.s 133)] false, none⟩] [0, 2, 3, 4, 10, 11, 16])
 (.region [⟨some 135, .mv (.s 16), none⟩,
  ⟨some 136, .bin .add (.s 135) (.c (.int .i64 1)), none⟩,
  ⟨some 1, .mv (.s 136), none⟩] [0, 1, 2, 3, 4, 10, 11])))
 (.seq (.region [⟨some 137, .mv (.s 19), none⟩,
  ⟨some 138, .mv (.s 20), none⟩,
  ⟨some 139, .bin .geq (.s 137) (.s 138), none⟩,
  ⟨some 10, .mv (.s 139), none⟩] [0, 1, 2, 3, 4, 10, 11, 16])
 (.seq (.region [⟨some 140, .mv (.s 0), none⟩,
  ⟨some 141, .mv (.s 16), none⟩,
  ⟨some 142, .bin .add (.s 141) (.c (.int .i64 1)), none⟩,
  ⟨some 143, .mv (.s 2), none⟩,
  ⟨some 144, .mv (.s 3), none⟩,
  ⟨some 145, .mv (.s 4), none⟩,
  ⟨some 146, .call (.fn 103) [(.s 140), (.s 142), (.s 143), (.s 144), (.s 145)] false, none⟩] [0, 1, 3, 4, 10, 11, 16])
 (.region [⟨some 147, .mv (.s 16), none⟩,
  ⟨some 2, .mv (.s 147), none⟩] [0, 1, 2, 3, 4, 10, 11])))))))))))))))))))))) }

/-- math/bits.Len -/
def g104 : GFun :=
 { nparams := 1, keepHeap := false, results := [.inl 2], body :=
 (.seq (.region [⟨some 2, .mv (.c (.int .i64 0)), none⟩] [0])
 (.seq (.cond (.c (.bool false)) (.seq (.region [⟨some 3, .mv (.s 0), none⟩,
  ⟨some 4, .toInt .u32 (.s 3), none⟩,
  ⟨some 5, .call (.fn 134) [(.s 4)] false, none⟩,
  ⟨some 2, .mv (.s 5), none⟩] [2])
 .ret)
 .skip)
 (.seq (.region [⟨some 6, .mv (.s 0), none⟩,
  ⟨some 7, .call (.fn 135) [(.s 6)] false, none⟩,
  ⟨some 2, .mv (.s 7), none⟩] [2])
 .ret))) }

/-- integrity.byRow$1 -/
def g105 : GFun :=
 { nparams := 2, keepHeap := false, results := [.inl 4], body :=
 (.seq (.region [⟨some 2, .box (.s 0), none⟩,
  ⟨some 3, .box (.s 1), none⟩,
  ⟨some 4, .mv (.c (.int .i64 0)), none⟩] [2, 3])
 (.seq (.region [⟨some 5, .fieldAddr (.s 2) 1, none⟩,
  ⟨some 6, .load 1 false (.s 5) 2 false, none⟩,
  ⟨some 7, .fieldAddr (.s 3) 1, none⟩,
  ⟨some 8, .load 1 false (.s 7) 3 false, none⟩,
  ⟨some 9, .call (.fn 76) [(.s 6), (.s 8)] false, none⟩,
  ⟨some 4, .mv (.s 9), none⟩] [4])
 .ret)) }

/-- integrity.byRow$2 -/
def g106 : GFun :=
 { nparams := 2, keepHeap := false, results := [.inl 4], body :=
 (.seq (.region [⟨some 2, .box (.s 0), none⟩,
  ⟨some 3, .box (.s 1), none⟩,
  ⟨some 4, .mv (.c (.int .i64 0)), none⟩] [2, 3])
 (.seq (.region [⟨some 5, .fieldAddr (.s 2) 2, none⟩,
  ⟨some 6, .load 1 false (.s 5) 2 false, none⟩,
  ⟨some 7, .fieldAddr (.s 3) 2, none⟩,
  ⟨some 8, .load 1 false (.s 7) 3 false, none⟩,
  ⟨some 9, .call (.fn 29) [(.s 6), (.s 8)] false, none⟩,
  ⟨some 4, .mv (.s 9), none⟩] [4])
 .ret)) }

/-- own.Plain -/
def g109 : GFun :=
 { nparams := 1, keepHeap := false, results := [.inl 2], body :=
 (.seq (.region [⟨some 1, .box (.s 0), none⟩,
  ⟨some 2, .mv (.c (.bool false)), none⟩] [1])
 (.seq (.region [⟨some 4, .fieldAddr (.s 1) 0, none⟩,
  ⟨some 5, .load 1 false (.s 4) 1 false, none⟩,
  ⟨some 6, .bin .eql (.s 5) (.c (.int .i64 9)), none⟩,
  ⟨some 7, .mv (.s 6), none⟩,
  ⟨some 8, .fieldAddr (.s 1) 0, some (7, false)⟩,
  ⟨some 9, .load 1 false (.s 8) 1 false, some (7, false)⟩,
  ⟨some 10, .bin .eql (.s 9) (.c (.int .i64 10)), some (7, false)⟩,
  ⟨some 11, .pick (.s 7) (.c (.bool true)) (.s 10), none⟩,
  ⟨some 3, .mv (.s 11), none⟩] [1, 3])
 (.seq (.block 0 (.seq (.seq (.region [⟨some 13, .fieldAddr (.s 1) 0, none⟩,
  ⟨some 14, .load 1 false (.s 13) 1 false, none⟩,
  ⟨some 15, .bin .neq (.s 14) (.c (.int .i64 1)), none⟩,
  ⟨some 16, .mv (.s 15), none⟩,
  ⟨some 17, .fieldAddr (.s 1) 1, some (16, true)⟩,
  ⟨some 18, .load 1 false (.s 17) 1 false, some (16, true)⟩,
  ⟨some 19, .bin .neq (.s 18) (.c (.int .i64 0)), some (16, true)⟩,
  ⟨some 20, .pick (.s 16) (.s 19) (.c (.bool false)), none⟩,
  ⟨some 12, .mv (.s 20), none⟩] [1, 3, 12])
 (.cond (.s 12) .skip
 (.seq (.region [⟨some 21, .fieldAddr (.s 1) 0, none⟩,
  ⟨some 22, .load 1 false (.s 21) 1 false, none⟩,
  ⟨some 23, .bin .neq (.s 22) (.c (.int .i64 2)), none⟩,
  ⟨some 24, .mv (.s 23), none⟩,
  ⟨some 25, .fieldAddr (.s 1) 2, some (24, true)⟩,
  ⟨some 26, .load 13 true (.s 25) 1 false, some (24, true)⟩,
  ⟨some 27, .build [.int .i64 0, .int .i64 0, .int .i64 0, .int .i64 0, .int .i64 0, .int .i64 0, .str [], .int .i64 0, .int .i64 0, .int .i64 0, .int .i64 0, .str [], .sl 0 true .exact []] [], some (24, true)⟩,
  ⟨some 28, .call (.fn 136) [(.s 26), (.s 27)] false, some (24, true)⟩,
  ⟨some 29, .un .not (.s 28), some (24, true)⟩,
  ⟨some 30, .pick (.s 24) (.s 29) (.c (.bool false)), none⟩,
  ⟨some 12, .mv (.s 30), none⟩] [1, 3, 12])
 (.cond (.s 12) .skip
 (.seq (.region [⟨some 31, .fieldAddr (.s 1) 0, none⟩,
  ⟨some 32, .load 1 false (.s 31) 1 false, none⟩,
  ⟨some 33, .bin .neq (.s 32) (.c (.int .i64 3)), none⟩,
  ⟨some 34, .mv (.s 33), none⟩,
  ⟨some 35, .fieldAddr (.s 1) 15, some (34, true)⟩,
  ⟨some 36, .load 1 false (.s 35) 1 false, some (34, true)⟩,
  ⟨some 37, .len (.s 36) .l false, some (34, true)⟩,
  ⟨some 38, .bin .gtr (.s 37) (.c (.int .i64 0)), some (34, true)⟩,
  ⟨some 39, .pick (.s 34) (.s 38) (.c (.bool false)), none⟩,
  ⟨some 12, .mv (.s 39), none⟩] [1, 3, 12])
 (.cond (.s 12) .skip
 (.seq (.region [⟨some 40, .fieldAddr (.s 1) 0, none⟩,
  ⟨some 41, .load 1 false (.s 40) 1 false, none⟩,
  ⟨some 42, .bin .neq (.s 41) (.c (.int .i64 4)), none⟩,
  ⟨some 43, .mv (.s 42), none⟩,
  ⟨some 44, .fieldAddr (.s 1) 0, some (43, true)⟩,
  ⟨some 45, .load 1 false (.s 44) 1 false, some (43, true)⟩,
  ⟨some 46, .bin .neq (.s 45) (.c (.int .i64 5)), some (43, true)⟩,
  ⟨some 47, .pick (.s 43) (.s 46) (.c (.bool false)), none⟩,
  ⟨some 48, .mv (.s 47), none⟩,
  ⟨some 49, .fieldAddr (.s 1) 16, some (48, true)⟩,
  ⟨some 50, .load 1 false (.s 49) 1 false, some (48, true)⟩,
  ⟨some 51, .len (.s 50) .l false, some (48, true)⟩,
  ⟨some 52, .bin .gtr (.s 51) (.c (.int .i64 0)), some (48, true)⟩,
  ⟨some 53, .pick (.s 48) (.s 52) (.c (.bool false)), none⟩,
  ⟨some 12, .mv (.s 53), none⟩] [1, 3, 12])
 (.cond (.s 12) .skip
 (.region [⟨some 54, .mv (.s 3), none⟩,
  ⟨some 55, .un .not (.s 54), none⟩,
  ⟨some 56, .mv (.s 55), none⟩,
  ⟨some 57, .fieldAddr (.s 1) 17, some (56, true)⟩,
  ⟨some 58, .load 1 false (.s 57) 1 false, some (56, true)⟩,
  ⟨some 59, .len (.s 58) .l false, some (56, true)⟩,
  ⟨some 60, .bin .gtr (.s 59) (.c (.int .i64 0)), some (56, true)⟩,
  ⟨some 61, .mv (.s 60), some (56, true)⟩,
  ⟨some 62, .fieldAddr (.s 1) 18, some (61, false)⟩,
  ⟨some 63, .load 1 false (.s 62) 1 false, some (61, false)⟩,
  ⟨some 64, .len (.s 63) .l false, some (61, false)⟩,
  ⟨some 65, .bin .gtr (.s 64) (.c (.int .i64 0)), some (61, false)⟩,
  ⟨some 66, .pick (.s 61) (.c (.bool true)) (.s 65), some (56, true)⟩,
  ⟨some 67, .mv (.s 66), some (56, true)⟩,
  ⟨some 68, .fieldAddr (.s 1) 19, some (67, false)⟩,
  ⟨some 69, .load 1 false (.s 68) 1 false, some (67, false)⟩,
  ⟨some 70, .bin .neq (.s 69) (.c (.int .i64 0)), some (67, false)⟩,
  ⟨some 71, .pick (.s 67) (.c (.bool true)) (.s 70), some (56, true)⟩,
  ⟨some 72, .pick (.s 56) (.s 71) (.c (.bool false)), none⟩,
  ⟨some 12, .mv (.s 72), none⟩] [12])))))))))
 (.cond (.s 12) (.seq (.region [⟨some 2, .mv (.c (.bool false)), none⟩] [2])
 .ret)
 .skip)))
 (.seq (.region [⟨some 2, .mv (.c (.bool true)), none⟩] [2])
 .ret)))) }

/-- evaluate.operators$1 -/
def g112 : GFun :=
 { nparams := 3, keepHeap := false, results := [.inl 6], body :=
 (.seq (.region [⟨some 3, .box (.s 0), none⟩,
  ⟨some 6, .mv (.c (.sl 0 true .exact [])), none⟩] [1])
 (.seq (.region [⟨some 7, .mv (.s 1), none⟩,
  ⟨some 8, .call (.fn 113) [(.s 7)] false, none⟩,
  ⟨some 9, .call (.fn 87) [(.s 8)] false, none⟩,
  ⟨some 6, .mv (.s 9), none⟩] [6])
 .ret)) }

/-- evaluate.list -/
def g113 : GFun :=
 { nparams := 1, keepHeap := false, results := [.inl 2], body :=
 (.seq (.region [⟨some 2, .mv (.c (.sl 0 true .exact [])), none⟩] [0, 2])
 (.seq (.region [⟨some 3, .halloc [.sl 0 true .exact []], none⟩] [0, 2, 3])
 (.seq (.seq (.region [⟨some 5, .mv (.s 0), none⟩] [2, 3, 5])
 (.block 0 (.rangeFunc (.s 5) [6] (.region [⟨some 4, .mv (.s 6), none⟩] [3, 4]) (.block 1 (.region [⟨some 7, .loadTake (.s 3) 0 true, none⟩,
  ⟨some 8, .mv (.s 4), none⟩,
  ⟨some 9, .bsl 1 1 [.sl 0 true .exact []] [(0, (.s 8))] false, none⟩,
  ⟨some 10, .append (.s 7) (.s 9) 1 24 false false, none⟩,
  ⟨none, .storeTake (.s 3) 10 0 true, none⟩] [])))))
 (.seq (.region [⟨some 11, .load 1 false (.s 3) 0 true, none⟩,
  ⟨some 2, .mv (.s 11), none⟩] [2])
 .ret)))) }

/-- evaluate.operators$2 -/
def g114 : GFun :=
 { nparams := 3, keepHeap := false, results := [.inl 6], body :=
 (.seq (.region [⟨some 3, .hbox (.s 0), none⟩,
  ⟨some 6, .mv (.c (.sl 0 true .exact [])), none⟩] [1, 3, 6])
 (.seq (.region [⟨some 7, .halloc [.sl 0 true .exact []], none⟩] [1, 3, 6, 7])
 (.seq (.seq (.region [⟨some 9, .mv (.s 1), none⟩] [3, 6, 7, 9])
 (.block 0 (.rangeFunc (.s 9) [10] (.region [⟨some 8, .mv (.s 10), none⟩] [3, 7, 8]) (.block 1 (.region [⟨some 11, .loadTake (.s 7) 0 true, none⟩,
  ⟨some 12, .mv (.s 8), none⟩,
  ⟨some 13, .fieldAddr (.s 3) 15, none⟩,
  ⟨some 14, .load 1 false (.s 13) 0 true, none⟩,
  ⟨some 15, .call (.fn 115) [(.s 12), (.s 14)] true, none⟩,
  ⟨some 16, .bsl 1 1 [.sl 0 true .exact []] [(0, (.s 15))] false, none⟩,
  ⟨some 17, .append (.s 11) (.s 16) 1 24 false false, none⟩,
  ⟨none, .storeTake (.s 7) 17 0 true, none⟩] [])))))
 (.seq (.region [⟨some 18, .load 1 false (.s 7) 0 true, none⟩,
  ⟨some 19, .call (.fn 87) [(.s 18)] false, none⟩,
  ⟨some 6, .mv (.s 19), none⟩] [6])
 .ret)))) }

/-- own.Cells -/
def g115 : GFun :=
 { nparams := 2, keepHeap := false, results := [.inl 4], body :=
 (.seq (.region [⟨some 4, .mv (.c (.sl 0 true .exact [])), none⟩] [0, 1])
 (.seq (.region [⟨some 8, .mv (.s 1), none⟩,
  ⟨some 9, .len (.s 8) .l false, none⟩,
  ⟨some 10, .mkSlice 3 32 [.int .i64 0, .int .i64 0, .str []] (.c (.int .i64 0)) (.s 9) true, none⟩,
  ⟨some 5, .take 10, none⟩] [0, 1, 5])
 (.seq (.seq (.region [⟨some 11, .mv (.s 1), none⟩,
  ⟨some 12, .len (.s 11) .l false, none⟩,
  ⟨some 13, .mv (.c (.int .i64 0)), none⟩] [0, 5, 11, 12, 13])
 (.block 0 (.loop [0, 5, 11, 12, 13] (.seq (.region [⟨some 14, .bin .lss (.s 13) (.s 12), none⟩] [0, 5, 11, 12, 13, 14])
 (.seq (.cond (.s 14) .skip
 (.exit 0))
 (.seq (.block 1 (.seq (.region [⟨some 15, .indexSl (.s 11) (.s 13) 1, none⟩,
  ⟨some 16, .load 1 false (.s 15) 0 true, none⟩,
  ⟨some 7, .mv (.s 16), none⟩] [0, 5, 7, 11, 12, 13])
 (.region [⟨some 17, .take 5, none⟩,
  ⟨some 18, .mv (.s 0), none⟩,
  ⟨some 19, .mv (.s 7), none⟩,
  ⟨some 20, .indexSl (.s 18) (.s 19) 3, none⟩,
  ⟨some 21, .load 3 true (.s 20) 0 true, none⟩,
  ⟨some 22, .bsl 3 1 [.int .i64 0, .int .i64 0, .str []] [(0, (.s 21))] false, none⟩,
  ⟨some 23, .append (.s 17) (.s 22) 3 32 false false, none⟩,
  ⟨some 5, .take 23, none⟩] [0, 5, 11, 12, 13])))
 (.region [⟨some 24, .bin .add (.s 13) (.c (.int .i64 1)), none⟩,
  ⟨some 13, .mv (.s 24), none⟩] [0, 5, 11, 12, 13])))))))
 (.seq (.region [⟨some 25, .mv (.s 5), none⟩,
  ⟨some 4, .mv (.s 25), none⟩] [4])
 .ret)))) }

/-- evaluate.each$1 -/
def g118 : GFun :=
 { nparams := 2, keepHeap := false, results := [], body :=
 (.seq (.region [⟨some 5, .load 1 false (.s 1) 0 true, none⟩,
  ⟨some 6, .len (.s 5) .l false, none⟩,
  ⟨some 7, .mv (.c (.int .i64 0)), none⟩] [0, 5, 6, 7])
 (.block 0 (.loop [0, 5, 6, 7] (.seq (.region [⟨some 8, .bin .lss (.s 7) (.s 6), none⟩] [0, 5, 6, 7, 8])
 (.seq (.cond (.s 8) .skip
 (.exit 0))
 (.seq (.block 1 (.seq (.region [⟨some 9, .indexSl (.s 5) (.s 7) 1, none⟩,
  ⟨some 10, .load 1 false (.s 9) 0 true, none⟩,
  ⟨some 4, .mv (.s 10), none⟩] [0, 4, 5, 6, 7])
 (.seq (.region [⟨some 11, .mv (.s 0), none⟩,
  ⟨some 12, .mv (.s 4), none⟩,
  ⟨some 13, .call (.val (.s 11)) [(.s 12)] false, none⟩,
  ⟨some 14, .un .not (.s 13), none⟩] [0, 5, 6, 7, 14])
 (.cond (.s 14) .ret
 .skip))))
 (.region [⟨some 15, .bin .add (.s 7) (.c (.int .i64 1)), none⟩,
  ⟨some 7, .mv (.s 15), none⟩] [0, 5, 6, 7]))))))) }

/-- slices.pdqsortCmpFunc[api.Row] -/
def g119 : GFun :=
 { nparams := 5, keepHeap := false, results := [], body :=
 (.seq (.region [⟨some 10, .mv (.c (.bool true)), none⟩] [0, 1, 2, 3, 4, 10])
 (.seq (.region [⟨some 11, .mv (.c (.bool true)), none⟩] [0, 1, 2, 3, 4, 10, 11])
 (.block 0 (.loop [0, 1, 2, 3, 4, 10, 11] (.block 1 (.seq (.region [⟨some 21, .mv (.s 2), none⟩,
  ⟨some 22, .mv (.s 1), none⟩,
  ⟨some 23, .bin .sub (.s 21) (.s 22), none⟩,
  ⟨some 12, .mv (.s 23), none⟩] [0, 1, 2, 3, 4, 10, 11, 12])
 (.seq (.seq (.region [⟨some 24, .mv (.s 12), none⟩,
  ⟨some 25, .bin .leq (.s 24) (.c (.int .i64 12)), none⟩] [0, 1, 2, 3, 4, 10, 11, 12, 25])
 (.cond (.s 25) (.seq (.region [⟨some 26, .mv (.s 0), none⟩,
  ⟨some 27, .mv (.s 1), none⟩,
  ⟨some 28, .mv (.s 2), none⟩,
  ⟨some 29, .mv (.s 4), none⟩,
  ⟨some 30, .call (.fn 146) [(.s 26), (.s 27), (.s 28), (.s 29)] false, none⟩] [])
 .ret)
 .skip))
 (.seq (.seq (.region [⟨some 31, .mv (.s 3), none⟩,
  ⟨some 32, .bin .eql (.s 31) (.c (.int .i64 0)), none⟩] [0, 1, 2, 3, 4, 10, 11, 12, 32])
 (.cond (.s 32) (.seq (.region [⟨some 33, .mv (.s 0), none⟩,
  ⟨some 34, .mv (.s 1), none⟩,
  ⟨some 35, .mv (.s 2), none⟩,
  ⟨some 36, .mv (.s 4), none⟩,
  ⟨some 37, .call (.fn 147) [(.s 33), (.s 34), (.s 35), (.s 36)] false, none⟩] [])
 .ret)
 .skip))
 (.seq (.seq (.region [⟨some 38, .mv (.s 10), none⟩,
  ⟨some 39, .un .not (.s 38), none⟩] [0, 1, 2, 3, 4, 10, 11, 12, 39])
 (.cond (.s 39) (.seq (.region [⟨some 40, .mv (.s 0), none⟩,
  ⟨some 41, .mv (.s 1), none⟩,
  ⟨some 42, .mv (.s 2), none⟩,
  ⟨some 43, .mv (.s 4), none⟩,
  ⟨some 44, .call (.fn 148) [(.s 40), (.s 41), (.s 42), (.s 43)] false, none⟩] [0, 1, 2, 3, 4, 10, 11, 12])
 (.region [⟨some 45, .mv (.s 3), none⟩,
  ⟨some 46, .bin .sub (.s 45) (.c (.int .i64 1)), none⟩,
  ⟨some 3, .mv (.s 46), none⟩] [0, 1, 2, 3, 4, 10, 11, 12]))
 .skip))
 (.seq (.region [⟨some 48, .mv (.s 0), none⟩,
  ⟨some 49, .mv (.s 1), none⟩,
  ⟨some 50, .mv (.s 2), none⟩,
  ⟨some 51, .mv (.s 4), none⟩,
  ⟨some 52, .call (.fn 149) [(.s 48), (.s 49), (.s 50), (.s 51)] false, none⟩,
  ⟨some 47, .mv (.s 52), none⟩,
  ⟨some 53, .extract (.s 47) 0, none⟩,
  ⟨some 54, .extract (.s 47) 1, none⟩,
  ⟨some 13, .mv (.s 53), none⟩,
  ⟨some 14, .mv (.s 54), none⟩] [0, 1, 2, 3, 4, 10, 11, 12, 13, 14])
 (.seq (.seq (.region [⟨some 55, .mv (.s 14), none⟩,
  ⟨some 56, .bin .eql (.s 55) (.c (.int .i64 2)), none⟩] [0, 1, 2, 3, 4, 10, 11, 12, 13, 14, 56])
 (.cond (.s 56) (.seq (.region [⟨some 57, .mv (.s 0), none⟩,
  ⟨some 58, .mv (.s 1), none⟩,
  ⟨some 59, .mv (.s 2), none⟩,
  ⟨some 60, .mv (.s 4), none⟩,
  ⟨some 61, .call (.fn 150) [(.s 57), (.s 58), (.s 59), (.s 60)] false, none⟩] [0, 1, 2, 3, 4, 10, 11, 12, 13])
 (.seq (.region [⟨some 62, .mv (.s 2), none⟩,
  ⟨some 63, .bin .sub (.s 62) (.c (.int .i64 1)), none⟩,
  ⟨some 64, .mv (.s 13), none⟩,
  ⟨some 65, .mv (.s 1), none⟩,
  ⟨some 66, .bin .sub (.s 64) (.s 65), none⟩,
  ⟨some 67, .bin .sub (.s 63) (.s 66), none⟩,
  ⟨some 13, .mv (.s 67), none⟩] [0, 1, 2, 3, 4, 10, 11, 12, 13])
 (.region [⟨some 14, .mv (.c (.int .i64 1)), none⟩] [0, 1, 2, 3, 4, 10, 11, 12, 13, 14])))
 .skip))
 (.seq (.seq (.region [⟨some 68, .mv (.s 10), none⟩,
  ⟨some 69, .mv (.s 68), none⟩,
  ⟨some 70, .mv (.s 11), some (69, true)⟩,
  ⟨some 71, .pick (.s 69) (.s 70) (.c (.bool false)), none⟩,
  ⟨some 72, .mv (.s 71), none⟩,
  ⟨some 73, .mv (.s 14), some (72, true)⟩,
  ⟨some 74, .bin .eql (.s 73) (.c (.int .i64 1)), some (72, true)⟩,
  ⟨some 75, .pick (.s 72) (.s 74) (.c (.bool false)), none⟩] [0, 1, 2, 3, 4, 10, 11, 12, 13, 75])
 (.cond (.s 75) (.seq (.region [⟨some 76, .mv (.s 0), none⟩,
  ⟨some 77, .mv (.s 1), none⟩,
  ⟨some 78, .mv (.s 2), none⟩,
  ⟨some 79, .mv (.s 4), none⟩,
  ⟨some 80, .call (.fn 151) [(.s 76), (.s 77), (.s 78), (.s 79)] false, none⟩] [0, 1, 2, 3, 4, 10, 11, 12, 13, 80])
 (.cond (.s 80) .ret
 .skip))
 .skip))
 (.seq (.seq (.region [⟨some 81, .mv (.s 1), none⟩,
  ⟨some 82, .bin .gtr (.s 81) (.c (.int .i64 0)), none⟩,
  ⟨some 83, .mv (.s 82), none⟩,
  ⟨some 84, .mv (.s 4), some (83, true)⟩,
  ⟨some 85, .mv (.s 0), some (83, true)⟩,
  ⟨some 86, .mv (.s 1), some (83, true)⟩,
  ⟨some 87, .bin .sub (.s 86) (.c (.int .i64 1)), some (83, true)⟩,
  ⟨some 88, .indexSl (.s 85) (.s 87) 1, some (83, true)⟩,
  ⟨some 89, .load 1 false (.s 88) 0 true, some (83, true)⟩,
  ⟨some 90, .mv (.s 0), some (83, true)⟩,
  ⟨some 91, .mv (.s 13), some (83, true)⟩,
  ⟨some 92, .indexSl (.s 90) (.s 91) 1, some (83, true)⟩,
  ⟨some 93, .load 1 false (.s 92) 0 true, some (83, true)⟩,
  ⟨some 94, .call (.val (.s 84)) [(.s 89), (.s 93)] false, some (83, true)⟩,
  ⟨some 95, .bin .lss (.s 94) (.c (.int .i64 0)), some (83, true)⟩,
  ⟨some 96, .un .not (.s 95), some (83, true)⟩,
  ⟨some 97, .pick (.s 83) (.s 96) (.c (.bool false)), none⟩] [0, 1, 2, 3, 4, 10, 11, 12, 13, 97])
 (.cond (.s 97) (.seq (.region [⟨some 98, .mv (.s 0), none⟩,
  ⟨some 99, .mv (.s 1), none⟩,
  ⟨some 100, .mv (.s 2), none⟩,
  ⟨some 101, .mv (.s 13), none⟩,
  ⟨some 102, .mv (.s 4), none⟩,
  ⟨some 103, .call (.fn 152) [(.s 98), (.s 99), (.s 100), (.s 101), (.s 102)] false, none⟩,
  ⟨some 15, .mv (.s 103), none⟩] [0, 2, 3, 4, 10, 11, 15])
 (.seq (.region [⟨some 104, .mv (.s 15), none⟩,
  ⟨some 1, .mv (.s 104), none⟩] [0, 1, 2, 3, 4, 10, 11])
 (.exit 1)))
 .skip))
 (.seq (.region [⟨some 106, .mv (.s 0), none⟩,
  ⟨some 107, .mv (.s 1), none⟩,
  ⟨some 108, .mv (.s 2), none⟩,
  ⟨some 109, .mv (.s 13), none⟩,
  ⟨some 110, .mv (.s 4), none⟩,
  ⟨some 111, .call (.fn 153) [(.s 106), (.s 107), (.s 108), (.s 109), (.s 110)] false, none⟩,
  ⟨some 105, .mv (.s 111), none⟩,
  ⟨some 112, .extract (.s 105) 0, none⟩,
  ⟨some 113, .extract (.s 105) 1, none⟩,
  ⟨some 16, .mv (.s 112), none⟩,
  ⟨some 17, .mv (.s 113), none⟩] [0, 1, 2, 3, 4, 12, 16, 17])
 (.seq (.region [⟨some 114, .mv (.s 17), none⟩,
  ⟨some 11, .mv (.s 114), none⟩] [0, 1, 2, 3, 4, 11, 12, 16])
 (.seq (.region [⟨some 115, .mv (.s 16), none⟩,
  ⟨some 116, .mv (.s 1), none⟩,
  ⟨some 117, .bin .sub (.s 115) (.s 116), none⟩,
  ⟨some 118, .mv (.s 2), none⟩,
  ⟨some 119, .mv (.s 16), none⟩,
  ⟨some 120, .bin .sub (.s 118) (.s 119), none⟩,
  ⟨some 18, .mv (.s 117), none⟩,
  ⟨some 19, .mv (.s 120), none⟩] [0, 1, 2, 3, 4, 11, 12, 16, 18, 19])
 (.seq (.region [⟨some 121, .mv (.s 12), none⟩,
  ⟨some 122, .bin .quo (.s 121) (.c (.int .i64 8)), none⟩,
  ⟨some 20, .mv (.s 122), none⟩] [0, 1, 2, 3, 4, 11, 16, 18, 19, 20])
 (.seq (.region [⟨some 123, .mv (.s 18), none⟩,
  ⟨some 124, .mv (.s 19), none⟩,
  ⟨some 125, .bin .lss (.s 123) (.s 124), none⟩] [0, 1, 2, 3, 4, 11, 16, 18, 19, 20, 125])
 (.cond (.s 125) (.seq (.region [⟨some 126, .mv (.s 18), none⟩,
  ⟨some 127, .mv (.s 20), none⟩,
  ⟨some 128, .bin .geq (.s 126) (.s 127), none⟩,
  ⟨some 10, .mv (.s 128), none⟩] [0, 1, 2, 3, 4, 10, 11, 16])
 (.seq (.region [⟨some 129, .mv (.s 0), none⟩,
  ⟨some 130, .mv (.s 1), none⟩,
  ⟨some 131, .mv (.s 16), none⟩,
  ⟨some 132, .mv (.s 3), none⟩,
  ⟨some 133, .mv (.s 4), none⟩,
  ⟨some 134, .call (.fn 119) [(.s 129), (.s 130), (.s 131), (.s 132), (.s 133)] false, none⟩] [0, 2, 3, 4, 10, 11, 16])
 (.region [⟨some 135, .mv (.s 16), none⟩,
  ⟨some 136, .bin .add (.s 135) (.c (.int .i64 1)), none⟩,
  ⟨some 1, .mv (.s 136), none⟩] [0, 1, 2, 3, 4, 10, 11])))
 (.seq (.region [⟨some 137, .mv (.s 19), none⟩,
  ⟨some 138, .mv (.s 20), none⟩,
  ⟨some 139, .bin .geq (.s 137) (.s 138), none⟩,
  ⟨some 10, .mv (.s 139), none⟩] [0, 1, 2, 3, 4, 10, 11, 16])
 (.seq (.region [⟨some 140, .mv (.s 0), none⟩,
  ⟨some 141, .mv (.s 16), none⟩,
  ⟨some 142, .bin .add (.s 141) (.c (.int .i64 1)), none⟩,
  ⟨some 143, .mv (.s 2), none⟩,
  ⟨some 144, .mv (.s 3), none⟩,
  ⟨some 145, .mv (.s 4), none⟩,
  ⟨some 146, .call (.fn 119) [(.s 140), (.s 142), (.s 143), (.s 144), (.s 145)] false, none⟩] [0, 1, 3, 4, 10, 11, 16])
 (.region [⟨some 147, .mv (.s 16), none⟩,
  ⟨some 2, .mv (.s 147), none⟩] [0, 1, 2, 3, 4, 10, 11])))))))))))))))))))))) }

/-- slices.insertionSortCmpFunc[api.Violation] -/
def g126 : GFun :=
 { nparams := 4, keepHeap := false, results := [], body :=
 (.seq (.region [⟨some 10, .mv (.s 1), none⟩,
  ⟨some 11, .bin .add (.s 10) (.c (.int .i64 1)), none⟩,
  ⟨some 8, .mv (.s 11), none⟩] [0, 1, 2, 3, 8])
 (.block 0 (.loop [0, 1, 2, 3, 8] (.seq (.seq (.region [⟨some 12, .mv (.s 8), none⟩,
  ⟨some 13, .mv (.s 2), none⟩,
  ⟨some 14, .bin .lss (.s 12) (.s 13), none⟩] [0, 1, 2, 3, 8, 14])
 (.cond (.s 14) .skip
 (.exit 0)))
 (.seq (.block 1 (.seq (.region [⟨some 17, .mv (.s 8), none⟩,
  ⟨some 9, .mv (.s 17), none⟩] [0, 1, 2, 3, 8, 9])
 (.block 2 (.loop [0, 1, 2, 3, 8, 9] (.seq (.seq (.region [⟨some 18, .mv (.s 9), none⟩,
  ⟨some 19, .mv (.s 1), none⟩,
  ⟨some 20, .bin .gtr (.s 18) (.s 19), none⟩,
  ⟨some 21, .mv (.s 20), none⟩,
  ⟨some 22, .mv (.s 3), some (21, true)⟩,
  ⟨some 23, .mv (.s 0), some (21, true)⟩,
  ⟨some 24, .mv (.s 9), some (21, true)⟩,
  ⟨some 25, .indexSl (.s 23) (.s 24) 4, some (21, true)⟩,
  ⟨some 26, .load 4 true (.s 25) 0 true, some (21, true)⟩,
  ⟨some 27, .mv (.s 0), some (21, true)⟩,
  ⟨some 28, .mv (.s 9), some (21, true)⟩,
  ⟨some 29, .bin .sub (.s 28) (.c (.int .i64 1)), some (21, true)⟩,
  ⟨some 30, .indexSl (.s 27) (.s 29) 4, some (21, true)⟩,
  ⟨some 31, .load 4 true (.s 30) 0 true, some (21, true)⟩,
  ⟨some 32, .call (.val (.s 22)) [(.s 26), (.s 31)] false, some (21, true)⟩,
  ⟨some 33, .bin .lss (.s 32) (.c (.int .i64 0)), some (21, true)⟩,
  ⟨some 34, .pick (.s 21) (.s 33) (.c (.bool false)), none⟩] [0, 1, 2, 3, 8, 9, 34])
 (.cond (.s 34) .skip
 (.exit 2)))
 (.seq (.block 3 (.region [⟨some 37, .mv (.s 0), none⟩,
  ⟨some 38, .mv (.s 9), none⟩,
  ⟨some 39, .mv (.s 0), none⟩,
  ⟨some 40, .mv (.s 9), none⟩,
  ⟨some 41, .bin .sub (.s 40) (.c (.int .i64 1)), none⟩,
  ⟨some 42, .mv (.s 0), none⟩,
  ⟨some 43, .mv (.s 9), none⟩,
  ⟨some 44, .bin .sub (.s 43) (.c (.int .i64 1)), none⟩,
  ⟨some 45, .indexSl (.s 42) (.s 44) 4, none⟩,
  ⟨some 46, .load 4 true (.s 45) 0 true, none⟩,
  ⟨some 47, .mv (.s 0), none⟩,
  ⟨some 48, .mv (.s 9), none⟩,
  ⟨some 49, .indexSl (.s 47) (.s 48) 4, none⟩,
  ⟨some 50, .load 4 true (.s 49) 0 true, none⟩,
  ⟨some 51, .indexSl (.s 37) (.s 38) 4, none⟩,
  ⟨none, .store 4 (.s 51) (.s 46) 0 true, none⟩,
  ⟨some 52, .indexSl (.s 39) (.s 41) 4, none⟩,
  ⟨none, .store 4 (.s 52) (.s 50) 0 true, none⟩] [0, 1, 2, 3, 8, 9]))
 (.region [⟨some 35, .mv (.s 9), none⟩,
  ⟨some 36, .bin .sub (.s 35) (.c (.int .i64 1)), none⟩,
  ⟨some 9, .mv (.s 36), none⟩] [0, 1, 2, 3, 8, 9])))))))
 (.region [⟨some 15, .mv (.s 8), none⟩,
  ⟨some 16, .bin .add (.s 15) (.c (.int .i64 1)), none⟩,
  ⟨some 8, .mv (.s 16), none⟩] [0, 1, 2, 3, 8])))))) }

/-- math/bits.Len64 -/
def g135 : GFun :=
 { nparams := 1, keepHeap := false, results := [.inl 2], body :=
 (.seq (.region [⟨some 2, .mv (.c (.int .i64 0)), none⟩] [0, 2])
 (.seq (.seq (.region [⟨some 3, .mv (.s 0), none⟩,
  ⟨some 4, .bin .geq (.s 3) (.c (.int .u64 4294967296)), none⟩] [0, 2, 4])
 (.cond (.s 4) (.seq (.region [⟨some 5, .mv (.s 0), none⟩,
  ⟨some 6, .bin .shr (.s 5) (.c (.int .u64 32)), none⟩,
  ⟨some 0, .mv (.s 6), none⟩] [0])
 (.region [⟨some 2, .mv (.c (.int .i64 32)), none⟩] [0, 2]))
 .skip))
 (.seq (.seq (.region [⟨some 7, .mv (.s 0), none⟩,
  ⟨some 8, .bin .geq (.s 7) (.c (.int .u64 65536)), none⟩] [0, 2, 8])
 (.cond (.s 8) (.seq (.region [⟨some 9, .mv (.s 0), none⟩,
  ⟨some 10, .bin .shr (.s 9) (.c (.int .u64 16)), none⟩,
  ⟨some 0, .mv (.s 10), none⟩] [0, 2])
 (.region [⟨some 11, .mv (.s 2), none⟩,
  ⟨some 12, .bin .add (.s 11) (.c (.int .i64 16)), none⟩,
  ⟨some 2, .mv (.s 12), none⟩] [0, 2]))
 .skip))
 (.seq (.seq (.region [⟨some 13, .mv (.s 0), none⟩,
  ⟨some 14, .bin .geq (.s 13) (.c (.int .u64 256)), none⟩] [0, 2, 14])
 (.cond (.s 14) (.seq (.region [⟨some 15, .mv (.s 0), none⟩,
  ⟨some 16, .bin .shr (.s 15) (.c (.int .u64 8)), none⟩,
  ⟨some 0, .mv (.s 16), none⟩] [0, 2])
 (.region [⟨some 17, .mv (.s 2), none⟩,
  ⟨some 18, .bin .add (.s 17) (.c (.int .i64 8)), none⟩,
  ⟨some 2, .mv (.s 18), none⟩] [0, 2]))
 .skip))
 (.seq (.region [⟨some 19, .mv (.s 2), none⟩,
  ⟨some 20, .mv (.s 0), none⟩,
  ⟨some 21, .toInt .u8 (.s 20), none⟩,
  ⟨some 22, .indexStr (.c (.str [0, 1, 2, 2, 3, 3, 3, 3, 4, 4, 4, 4, 4, 4, 4, 4, 5, 5, 5, 5, 5, 5, 5, 5, 5, 5, 5, 5, 5, 5, 5, 5, 6, 6, 6, 6, 6, 6, 6, 6, 6, 6, 6, 6, 6, 6, 6, 6, 6, 6, 6, 6, 6, 6, 6, 6, 6, 6, 6, 6, 6, 6, 6, 6, 7, 7, 7, 7, 7, 7, 7, 7, 7, 7, 7, 7, 7, 7, 7, 7, 7, 7, 7, 7, 7, 7, 7, 7, 7, 7, 7, 7, 7, 7, 7, 7, 7, 7, 7, 7, 7, 7, 7, 7, 7, 7, 7, 7, 7, 7, 7, 7, 7, 7, 7, 7, 7, 7, 7, 7, 7, 7, 7, 7, 7, 7, 7, 7, 8, 8, 8, 8, 8, 8, 8, 8, 8, 8, 8, 8, 8, 8, 8, 8, 8, 8, 8, 8, 8, 8, 8, 8, 8, 8, 8, 8, 8, 8, 8, 8, 8, 8, 8, 8, 8, 8, 8, 8, 8, 8, 8, 8, 8, 8, 8, 8, 8, 8, 8, 8, 8, 8, 8, 8, 8, 8, 8, 8, 8, 8, 8, 8, 8, 8, 8, 8, 8, 8, 8, 8, 8, 8, 8, 8, 8, 8, 8, 8, 8, 8, 8, 8, 8, 8, 8, 8, 8, 8, 8, 8, 8, 8, 8, 8, 8, 8, 8, 8, 8, 8, 8, 8, 8, 8, 8, 8, 8, 8, 8, 8, 8, 8, 8, 8, 8, 8, 8, 8, 8, 8, 8, 8, 8, 8, 8, 8])) (.s 21), none⟩,
  ⟨some 23, .toInt .i64 (.s 22), none⟩,
  ⟨some 24, .bin .add (.s 19) (.s 23), none⟩,
  ⟨some 2, .mv (.s 24), none⟩] [2])
 .ret))))) }

/-- predicate.Equal -/
def g136 : GFun :=
 { nparams := 2, keepHeap := false, results := [.inl 4], body :=
 (.seq (.region [⟨some 2, .box (.s 0), none⟩,
  ⟨some 3, .box (.s 1), none⟩,
  ⟨some 4, .mv (.c (.bool false)), none⟩] [2, 3])
 (.seq (.region [⟨some 5, .fieldAddr (.s 2) 0, none⟩,
  ⟨some 6, .load 1 false (.s 5) 2 false, none⟩,
  ⟨some 7, .fieldAddr (.s 3) 0, none⟩,
  ⟨some 8, .load 1 false (.s 7) 3 false, none⟩,
  ⟨some 9, .bin .eql (.s 6) (.s 8), none⟩,
  ⟨some 10, .mv (.s 9), none⟩,
  ⟨some 11, .fieldAddr (.s 2) 1, some (10, true)⟩,
  ⟨some 12, .load 1 false (.s 11) 2 false, some (10, true)⟩,
  ⟨some 13, .fieldAddr (.s 3) 1, some (10, true)⟩,
  ⟨some 14, .load 1 false (.s 13) 3 false, some (10, true)⟩,
  ⟨some 15, .bin .eql (.s 12) (.s 14), some (10, true)⟩,
  ⟨some 16, .pick (.s 10) (.s 15) (.c (.bool false)), none⟩,
  ⟨some 17, .mv (.s 16), none⟩,
  ⟨some 18, .fieldAddr (.s 2) 2, some (17, true)⟩,
  ⟨some 19, .load 5 true (.s 18) 2 false, some (17, true)⟩,
  ⟨some 20, .fieldAddr (.s 3) 2, some (17, true)⟩,
  ⟨some 21, .load 5 true (.s 20) 3 false, some (17, true)⟩,
  ⟨some 22, .eqv false true [.i, .i, .i, .i, .s] (.s 19) (.s 21), some (17, true)⟩,
  ⟨some 23, .pick (.s 17) (.s 22) (.c (.bool false)), none⟩,
  ⟨some 24, .mv (.s 23), none⟩,
  ⟨some 25, .fieldAddr (.s 2) 7, some (24, true)⟩,
  ⟨some 26, .load 5 true (.s 25) 2 false, some (24, true)⟩,
  ⟨some 27, .fieldAddr (.s 3) 7, some (24, true)⟩,
  ⟨some 28, .load 5 true (.s 27) 3 false, some (24, true)⟩,
  ⟨some 29, .eqv false true [.i, .i, .i, .i, .s] (.s 26) (.s 28), some (24, true)⟩,
  ⟨some 30, .pick (.s 24) (.s 29) (.c (.bool false)), none⟩,
  ⟨some 31, .mv (.s 30), none⟩,
  ⟨some 32, .fieldAddr (.s 2) 12, some (31, true)⟩,
  ⟨some 33, .load 1 false (.s 32) 2 false, some (31, true)⟩,
  ⟨some 34, .fieldAddr (.s 3) 12, some (31, true)⟩,
  ⟨some 35, .load 1 false (.s 34) 3 false, some (31, true)⟩,
  ⟨some 36, .call (.fn 159) [(.s 33), (.s 35), (.c (.func (.func 136) [] []))] false, some (31, true)⟩,
  ⟨some 37, .pick (.s 31) (.s 36) (.c (.bool false)), none⟩,
  ⟨some 4, .mv (.s 37), none⟩] [4])
 .ret)) }

/-- slices.insertionSortCmpFunc[api.Row] -/
def g146 : GFun :=
 { nparams := 4, keepHeap := false, results := [], body :=
 (.seq (.region [⟨some 10, .mv (.s 1), none⟩,
  ⟨some 11, .bin .add (.s 10) (.c (.int .i64 1)), none⟩,
  ⟨some 8, .mv (.s 11), none⟩] [0, 1, 2, 3, 8])
 (.block 0 (.loop [0, 1, 2, 3, 8] (.seq (.seq (.region [⟨some 12, .mv (.s 8), none⟩,
  ⟨some 13, .mv (.s 2), none⟩,
  ⟨some 14, .bin .lss (.s 12) (.s 13), none⟩] [0, 1, 2, 3, 8, 14])
 (.cond (.s 14) .skip
 (.exit 0)))
 (.seq (.block 1 (.seq (.region [⟨some 17, .mv (.s 8), none⟩,
  ⟨some 9, .mv (.s 17), none⟩] [0, 1, 2, 3, 8, 9])
 (.block 2 (.loop [0, 1, 2, 3, 8, 9] (.seq (.seq (.region [⟨some 18, .mv (.s 9), none⟩,
  ⟨some 19, .mv (.s 1), none⟩,
  ⟨some 20, .bin .gtr (.s 18) (.s 19), none⟩,
  ⟨some 21, .mv (.s 20), none⟩,
  ⟨some 22, .mv (.s 3), some (21, true)⟩,
  ⟨some 23, .mv (.s 0), some (21, true)⟩,
  ⟨some 24, .mv (.s 9), some (21, true)⟩,
  ⟨some 25, .indexSl (.s 23) (.s 24) 1, some (21, true)⟩,
  ⟨some 26, .load 1 false (.s 25) 0 true, some (21, true)⟩,
  ⟨some 27, .mv (.s 0), some (21, true)⟩,
  ⟨some 28, .mv (.s 9), some (21, true)⟩,
  ⟨some 29, .bin .sub (.s 28) (.c (.int .i64 1)), some (21, true)⟩,
  ⟨some 30, .indexSl (.s 27) (.s 29) 1, some (21, true)⟩,
  ⟨some 31, .load 1 false (.s 30) 0 true, some (21, true)⟩,
  ⟨some 32, .call (.val (.s 22)) [(.s 26), (.s 31)] false, some (21, true)⟩,
  ⟨some 33, .bin .lss (.s 32) (.c (.int .i64 0)), some (21, true)⟩,
  ⟨some 34, .pick (.s 21) (.s 33) (.c (.bool false)), none⟩] [0, 1, 2, 3, 8, 9, 34])
 (.cond (.s 34) .skip
 (.exit 2)))
 (.seq (.block 3 (.region [⟨some 37, .mv (.s 0), none⟩,
  ⟨some 38, .mv (.s 9), none⟩,
  ⟨some 39, .mv (.s 0), none⟩,
  ⟨some 40, .mv (.s 9), none⟩,
  ⟨some 41, .bin .sub (.s 40) (.c (.int .i64 1)), none⟩,
  ⟨some 42, .mv (.s 0), none⟩,
  ⟨some 43, .mv (.s 9), none⟩,
  ⟨some 44, .bin .sub (.s 43) (.c (.int .i64 1)), none⟩,
  ⟨some 45, .indexSl (.s 42) (.s 44) 1, none⟩,
  ⟨some 46, .load 1 false (.s 45) 0 true, none⟩,
  ⟨some 47, .mv (.s 0), none⟩,
  ⟨some 48, .mv (.s 9), none⟩,
  ⟨some 49, .indexSl (.s 47) (.s 48) 1, none⟩,
  ⟨some 50, .load 1 false (.s 49) 0 true, none⟩,
  ⟨some 51, .indexSl (.s 37) (.s 38) 1, none⟩,
  ⟨none, .store 1 (.s 51) (.s 46) 0 true, none⟩,
  ⟨some 52, .indexSl (.s 39) (.s 41) 1, none⟩,
  ⟨none, .store 1 (.s 52) (.s 50) 0 true, none⟩] [0, 1, 2, 3, 8, 9]))
 (.region [⟨some 35, .mv (.s 9), none⟩,
  ⟨some 36, .bin .sub (.s 35) (.c (.int .i64 1)), none⟩,
  ⟨some 9, .mv (.s 36), none⟩] [0, 1, 2, 3, 8, 9])))))))
 (.region [⟨some 15, .mv (.s 8), none⟩,
  ⟨some 16, .bin .add (.s 15) (.c (.int .i64 1)), none⟩,
  ⟨some 8, .mv (.s 16), none⟩] [0, 1, 2, 3, 8])))))) }

/-- slices.EqualFunc[[]api.Predicate,[]api.Predicate,api.Predicate,api.Predicate] -/
def g159 : GFun :=
 { nparams := 3, keepHeap := false, results := [.inl 6], body :=
 (.seq (.region [⟨some 6, .mv (.c (.bool false)), none⟩] [0, 1, 2])
 (.seq (.seq (.region [⟨some 10, .mv (.s 0), none⟩,
  ⟨some 11, .len (.s 10) .l false, none⟩,
  ⟨some 12, .mv (.s 1), none⟩,
  ⟨some 13, .len (.s 12) .l false, none⟩,
  ⟨some 14, .bin .neq (.s 11) (.s 13), none⟩] [0, 1, 2, 14])
 (.cond (.s 14) (.seq (.region [⟨some 6, .mv (.c (.bool false)), none⟩] [6])
 .ret)
 .skip))
 (.seq (.seq (.region [⟨some 15, .mv (.s 0), none⟩,
  ⟨some 16, .len (.s 15) .l false, none⟩,
  ⟨some 17, .mv (.c (.int .i64 0)), none⟩] [1, 2, 15, 16, 17])
 (.block 0 (.loop [1, 2, 15, 16, 17] (.seq (.region [⟨some 18, .bin .lss (.s 17) (.s 16), none⟩] [1, 2, 15, 16, 17, 18])
 (.seq (.cond (.s 18) .skip
 (.exit 0))
 (.seq (.block 1 (.seq (.region [⟨some 19, .mv (.s 17), none⟩,
  ⟨some 20, .indexSl (.s 15) (.s 17) 13, none⟩,
  ⟨some 21, .load 13 true (.s 20) 0 true, none⟩,
  ⟨some 8, .alloc [.int .i64 0, .int .i64 0, .int .i64 0, .int .i64 0, .int .i64 0, .int .i64 0, .str [], .int .i64 0, .int .i64 0, .int .i64 0, .int .i64 0, .str [], .sl 0 true .exact []], none⟩,
  ⟨some 7, .mv (.s 19), none⟩,
  ⟨none, .store 13 (.s 8) (.s 21) 8 false, none⟩] [1, 2, 7, 8, 15, 16, 17])
 (.seq (.region [⟨some 22, .mv (.s 1), none⟩,
  ⟨some 23, .mv (.s 7), none⟩,
  ⟨some 24, .indexSl (.s 22) (.s 23) 13, none⟩,
  ⟨some 25, .load 13 true (.s 24) 0 true, none⟩,
  ⟨some 9, .alloc [.int .i64 0, .int .i64 0, .int .i64 0, .int .i64 0, .int .i64 0, .int .i64 0, .str [], .int .i64 0, .int .i64 0, .int .i64 0, .int .i64 0, .str [], .sl 0 true .exact []], none⟩,
  ⟨none, .store 13 (.s 9) (.s 25) 9 false, none⟩] [1, 2, 8, 9, 15, 16, 17])
 (.seq (.region [⟨some 26, .mv (.s 2), none⟩,
  ⟨some 27, .load 13 true (.s 8) 8 false, none⟩,
  ⟨some 28, .load 13 true (.s 9) 9 false, none⟩,
  ⟨some 29, .call (.val (.s 26)) [(.s 27), (.s 28)] false, none⟩,
  ⟨some 30, .un .not (.s 29), none⟩] [1, 2, 15, 16, 17, 30])
 (.cond (.s 30) (.seq (.region [⟨some 6, .mv (.c (.bool false)), none⟩] [6])
 .ret)
 .skip)))))
 (.region [⟨some 31, .bin .add (.s 17) (.c (.int .i64 1)), none⟩,
  ⟨some 17, .mv (.s 31), none⟩] [1, 2, 15, 16, 17])))))))
 (.seq (.region [⟨some 6, .mv (.c (.bool true)), none⟩] [6])
 .ret)))) }

/-- (transaction.refused).refusal -/
def g212 : GFun :=
 { nparams := 1, keepHeap := false, results := [.inr (2, 4, true)], body :=
 (.seq (.region [⟨some 1, .box (.s 0), none⟩,
  ⟨some 2, .alloc [.int .i64 0, .int .i64 0, .int .i64 0, .sl 0 true .exact []], none⟩] [1, 2])
 (.seq (.region [⟨some 3, .fieldAddr (.s 1) 0, none⟩,
  ⟨some 4, .load 4 true (.s 3) 1 false, none⟩,
  ⟨none, .store 4 (.s 2) (.s 4) 2 false, none⟩] [2])
 .ret)) }

def funTab : List (Nat × GFun) := [(3, g3), (4, g4), (5, g5), (6, g6), (7, g7), (8, g8), (9, g9), (10, g10), (11, g11), (12, g12), (13, g13), (14, g14), (15, g15), (16, g16), (18, g18), (19, g19), (20, g20), (21, g21), (22, g22), (23, g23), (24, g24), (25, g25), (26, g26), (27, g27), (28, g28), (29, g29), (30, g30), (31, g31), (32, g32), (33, g33), (34, g34), (35, g35), (36, g36), (37, g37), (38, g38), (39, g39), (40, g40), (41, g41), (42, g42), (44, g44), (45, g45), (46, g46), (47, g47), (48, g48), (49, g49), (50, g50), (51, g51), (52, g52), (53, g53), (54, g54), (55, g55), (56, g56), (57, g57), (59, g59), (60, g60), (61, g61), (62, g62), (63, g63), (64, g64), (65, g65), (66, g66), (68, g68), (69, g69), (70, g70), (71, g71), (73, g73), (74, g74), (75, g75), (76, g76), (77, g77), (78, g78), (79, g79), (80, g80), (81, g81), (82, g82), (83, g83), (84, g84), (85, g85), (86, g86), (87, g87), (88, g88), (91, g91), (92, g92), (93, g93), (95, g95), (96, g96), (97, g97), (98, g98), (99, g99), (100, g100), (103, g103), (104, g104), (105, g105), (106, g106), (109, g109), (112, g112), (113, g113), (114, g114), (115, g115), (118, g118), (119, g119), (126, g126), (135, g135), (136, g136), (146, g146), (159, g159), (212, g212)]
def funs (k : Nat) : Option GFun := match funTab.find? (fun p => p.1 == k) with
  | some p => some p.2
  | none => none
end Go.Proofs.YtghfcfmgnfhgbaaGreatDoor
