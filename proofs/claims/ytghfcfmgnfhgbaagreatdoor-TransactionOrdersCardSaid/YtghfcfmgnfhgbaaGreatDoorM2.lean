/- The code of the functions, by a program of mine (gen.py). -/
import Derived.Test.YtghfcfmgnfhgbaaGreatDoorM1
set_option linter.unusedSectionVars false
set_option linter.unusedVariables false
set_option linter.unusedSimpArgs false
namespace Go.Proofs.YtghfcfmgnfhgbaaGreatDoor
/-- partsynclaw27.TransactionOrders -/
def g3 : GFun :=
 { nparams := 2, keepHeap := false, results := [.inl 4], body :=
 (.seq (.region [⟨some 4, .mv (.c (.bool false)), none⟩] [0, 1])
 (.seq (.region [⟨some 12, .call (.fn 4) [(.c (.int .i64 1))] false, none⟩,
  ⟨some 13, .bsl 3 1 [.int .i64 0, .int .i64 0, .str []] [(0, (.s 12))] false, none⟩,
  ⟨some 14, .bsl 1 1 [.sl 0 true .exact []] [(0, (.s 13))] false, none⟩,
  ⟨some 15, .call (.fn 4) [(.c (.int .i64 7))] false, none⟩,
  ⟨some 16, .call (.fn 4) [(.c (.int .i64 1))] false, none⟩,
  ⟨some 17, .bsl 3 2 [.int .i64 0, .int .i64 0, .str []] [(0, (.s 15)), (1, (.s 16))] false, none⟩,
  ⟨some 18, .bsl 1 1 [.sl 0 true .exact []] [(0, (.s 17))] false, none⟩,
  ⟨some 19, .bsl 1 2 [.sl 0 true .exact []] [(0, (.s 14)), (1, (.s 18))] false, none⟩,
  ⟨some 20, .build [.sl 0 true .exact []] [(0, 1, (.s 19))], none⟩,
  ⟨some 5, .alloc [.sl 0 true .exact []], none⟩,
  ⟨none, .store 1 (.s 5) (.s 20) 5 false, none⟩] [0, 1, 5])
 (.seq (.region [⟨some 21, .call (.fn 5) [] false, none⟩,
  ⟨some 6, .alloc [.sl 0 true .exact [], .sl 0 true .exact []], none⟩,
  ⟨none, .store 2 (.s 6) (.s 21) 6 false, none⟩] [0, 1, 5, 6])
 (.seq (.seq (.region [⟨some 22, .mv (.s 1), none⟩] [0, 1, 5, 6, 22])
 (.cond (.s 22) (.region [⟨some 23, .fieldAddr (.s 6) 1, none⟩,
  ⟨none, .store 1 (.s 23) (.c (.sl 0 true .exact [])) 6 false, none⟩] [0, 1, 5, 6])
 .skip))
 (.seq (.region [⟨some 24, .call (.fn 4) [(.c (.int .i64 1))] false, none⟩,
  ⟨some 25, .bsl 3 1 [.int .i64 0, .int .i64 0, .str []] [(0, (.s 24))] false, none⟩,
  ⟨some 26, .build [.int .i64 0, .int .i64 0, .sl 0 true .exact [], .sl 0 true .exact [], .sl 0 true .exact []] [(0, 1, (.c (.int .i64 3))), (2, 1, (.s 25))], none⟩,
  ⟨some 7, .alloc [.int .i64 0, .int .i64 0, .sl 0 true .exact [], .sl 0 true .exact [], .sl 0 true .exact []], none⟩,
  ⟨none, .store 5 (.s 7) (.s 26) 7 false, none⟩] [0, 1, 5, 6, 7])
 (.seq (.region [⟨some 27, .mv (.s 0), none⟩,
  ⟨some 28, .call (.fn 4) [(.s 27)] false, none⟩,
  ⟨some 29, .bsl 3 1 [.int .i64 0, .int .i64 0, .str []] [(0, (.s 28))] false, none⟩,
  ⟨some 30, .mv (.s 0), none⟩,
  ⟨some 31, .call (.fn 4) [(.s 30)] false, none⟩,
  ⟨some 32, .call (.fn 4) [(.c (.int .i64 3))] false, none⟩,
  ⟨some 33, .bsl 3 2 [.int .i64 0, .int .i64 0, .str []] [(0, (.s 31)), (1, (.s 32))] false, none⟩,
  ⟨some 34, .build [.int .i64 0, .int .i64 0, .sl 0 true .exact [], .sl 0 true .exact [], .sl 0 true .exact []] [(0, 1, (.c (.int .i64 1))), (1, 1, (.c (.int .i64 1))), (2, 1, (.s 29)), (4, 1, (.s 33))], none⟩,
  ⟨some 8, .alloc [.int .i64 0, .int .i64 0, .sl 0 true .exact [], .sl 0 true .exact [], .sl 0 true .exact []], none⟩,
  ⟨none, .store 5 (.s 8) (.s 34) 8 false, none⟩] [0, 1, 5, 6, 7, 8])
 (.seq (.region [⟨some 36, .call (.fn 7) [] false, none⟩,
  ⟨some 37, .load 2 true (.s 6) 6 false, none⟩,
  ⟨some 38, .load 1 true (.s 5) 5 false, none⟩,
  ⟨some 39, .load 5 true (.s 7) 7 false, none⟩,
  ⟨some 40, .load 5 true (.s 8) 8 false, none⟩,
  ⟨some 41, .bsl 5 2 [.int .i64 0, .int .i64 0, .sl 0 true .exact [], .sl 0 true .exact [], .sl 0 true .exact []] [(0, (.s 39)), (1, (.s 40))] false, none⟩,
  ⟨some 42, .call (.fn 6) [(.s 36), (.s 37), (.c (.sl 0 true .exact [])), (.s 38), (.s 41)] false, none⟩,
  ⟨some 35, .mv (.s 42), none⟩,
  ⟨some 43, .extract (.s 35) 0, none⟩,
  ⟨some 44, .extract (.s 35) 1, none⟩,
  ⟨some 45, .extract (.s 35) 2, none⟩,
  ⟨some 10, .alloc [.int .i64 0, .int .i64 0, .int .i64 0, .sl 0 true .exact []], none⟩,
  ⟨some 9, .mv (.s 43), none⟩,
  ⟨none, .store 4 (.s 10) (.s 44) 10 false, none⟩,
  ⟨some 11, .mv (.s 45), none⟩] [0, 1, 10, 11])
 (.seq (.seq (.region [⟨some 46, .mv (.s 11), none⟩,
  ⟨some 47, .bin .neq (.s 46) (.c (.int .i64 0)), none⟩] [0, 1, 10, 47])
 (.cond (.s 47) (.seq (.region [⟨some 4, .mv (.c (.bool false)), none⟩] [4])
 .ret)
 .skip))
 (.seq (.block 0 (.seq (.region [⟨some 49, .mv (.s 0), none⟩,
  ⟨some 50, .bin .eql (.s 49) (.c (.int .i64 7)), none⟩,
  ⟨some 48, .mv (.s 50), none⟩] [0, 1, 10, 48])
 (.cond (.s 48) (.seq (.region [⟨some 51, .fieldAddr (.s 10) 0, none⟩,
  ⟨some 52, .load 1 false (.s 51) 10 false, none⟩,
  ⟨some 53, .bin .eql (.s 52) (.c (.int .i64 4)), none⟩,
  ⟨some 54, .mv (.s 53), none⟩,
  ⟨some 55, .fieldAddr (.s 10) 2, some (54, true)⟩,
  ⟨some 56, .load 1 false (.s 55) 10 false, some (54, true)⟩,
  ⟨some 57, .bin .eql (.s 56) (.c (.int .i64 1)), some (54, true)⟩,
  ⟨some 58, .pick (.s 54) (.s 57) (.c (.bool false)), none⟩,
  ⟨some 59, .mv (.s 58), none⟩,
  ⟨some 60, .fieldAddr (.s 10) 3, some (59, true)⟩,
  ⟨some 61, .load 1 false (.s 60) 10 false, some (59, true)⟩,
  ⟨some 62, .len (.s 61) .l false, some (59, true)⟩,
  ⟨some 63, .bin .eql (.s 62) (.c (.int .i64 1)), some (59, true)⟩,
  ⟨some 64, .pick (.s 59) (.s 63) (.c (.bool false)), none⟩,
  ⟨some 65, .mv (.s 64), none⟩,
  ⟨some 66, .fieldAddr (.s 10) 3, some (65, true)⟩,
  ⟨some 67, .load 1 false (.s 66) 10 false, some (65, true)⟩,
  ⟨some 68, .indexSl (.s 67) (.c (.int .i64 0)) 3, some (65, true)⟩,
  ⟨some 69, .load 3 true (.s 68) 0 true, some (65, true)⟩,
  ⟨some 70, .call (.fn 4) [(.c (.int .i64 7))] true, some (65, true)⟩,
  ⟨some 71, .eqv false true [.i, .i, .s] (.s 69) (.s 70), some (65, true)⟩,
  ⟨some 72, .pick (.s 65) (.s 71) (.c (.bool false)), none⟩,
  ⟨some 73, .mv (.s 72), none⟩,
  ⟨some 74, .call (.fn 8) [] false, some (73, true)⟩,
  ⟨some 75, .pick (.s 73) (.s 74) (.c (.bool false)), none⟩,
  ⟨some 4, .mv (.s 75), none⟩] [4])
 .ret)
 (.seq (.region [⟨some 77, .mv (.s 1), none⟩,
  ⟨some 76, .mv (.s 77), none⟩] [0, 10, 76])
 (.cond (.s 76) (.seq (.region [⟨some 78, .fieldAddr (.s 10) 0, none⟩,
  ⟨some 79, .load 1 false (.s 78) 10 false, none⟩,
  ⟨some 80, .bin .eql (.s 79) (.c (.int .i64 7)), none⟩,
  ⟨some 81, .mv (.s 80), none⟩,
  ⟨some 82, .fieldAddr (.s 10) 2, some (81, true)⟩,
  ⟨some 83, .load 1 false (.s 82) 10 false, some (81, true)⟩,
  ⟨some 84, .bin .eql (.s 83) (.c (.int .i64 0)), some (81, true)⟩,
  ⟨some 85, .pick (.s 81) (.s 84) (.c (.bool false)), none⟩,
  ⟨some 86, .mv (.s 85), none⟩,
  ⟨some 87, .fieldAddr (.s 10) 3, some (86, true)⟩,
  ⟨some 88, .load 1 false (.s 87) 10 false, some (86, true)⟩,
  ⟨some 89, .len (.s 88) .l false, some (86, true)⟩,
  ⟨some 90, .bin .eql (.s 89) (.c (.int .i64 1)), some (86, true)⟩,
  ⟨some 91, .pick (.s 86) (.s 90) (.c (.bool false)), none⟩,
  ⟨some 92, .mv (.s 91), none⟩,
  ⟨some 93, .fieldAddr (.s 10) 3, some (92, true)⟩,
  ⟨some 94, .load 1 false (.s 93) 10 false, some (92, true)⟩,
  ⟨some 95, .indexSl (.s 94) (.c (.int .i64 0)) 3, some (92, true)⟩,
  ⟨some 96, .load 3 true (.s 95) 0 true, some (92, true)⟩,
  ⟨some 97, .call (.fn 4) [(.c (.int .i64 1))] true, some (92, true)⟩,
  ⟨some 98, .eqv false true [.i, .i, .s] (.s 96) (.s 97), some (92, true)⟩,
  ⟨some 99, .pick (.s 92) (.s 98) (.c (.bool false)), none⟩,
  ⟨some 100, .mv (.s 99), none⟩,
  ⟨some 101, .call (.fn 8) [] false, some (100, true)⟩,
  ⟨some 102, .pick (.s 100) (.s 101) (.c (.bool false)), none⟩,
  ⟨some 4, .mv (.s 102), none⟩] [4])
 .ret)
 (.seq (.region [⟨some 104, .mv (.s 0), none⟩,
  ⟨some 105, .bin .lss (.s 104) (.c (.int .i64 7)), none⟩,
  ⟨some 103, .mv (.s 105), none⟩] [0, 10, 103])
 (.cond (.s 103) (.seq (.region [⟨some 106, .fieldAddr (.s 10) 0, none⟩,
  ⟨some 107, .load 1 false (.s 106) 10 false, none⟩,
  ⟨some 108, .bin .eql (.s 107) (.c (.int .i64 8)), none⟩,
  ⟨some 109, .mv (.s 108), none⟩,
  ⟨some 110, .fieldAddr (.s 10) 1, some (109, true)⟩,
  ⟨some 111, .load 1 false (.s 110) 10 false, some (109, true)⟩,
  ⟨some 112, .bin .eql (.s 111) (.c (.int .i64 10)), some (109, true)⟩,
  ⟨some 113, .pick (.s 109) (.s 112) (.c (.bool false)), none⟩,
  ⟨some 114, .mv (.s 113), none⟩,
  ⟨some 115, .fieldAddr (.s 10) 2, some (114, true)⟩,
  ⟨some 116, .load 1 false (.s 115) 10 false, some (114, true)⟩,
  ⟨some 117, .bin .eql (.s 116) (.c (.int .i64 1)), some (114, true)⟩,
  ⟨some 118, .pick (.s 114) (.s 117) (.c (.bool false)), none⟩,
  ⟨some 119, .mv (.s 118), none⟩,
  ⟨some 120, .fieldAddr (.s 10) 3, some (119, true)⟩,
  ⟨some 121, .load 1 false (.s 120) 10 false, some (119, true)⟩,
  ⟨some 122, .len (.s 121) .l false, some (119, true)⟩,
  ⟨some 123, .bin .eql (.s 122) (.c (.int .i64 1)), some (119, true)⟩,
  ⟨some 124, .pick (.s 119) (.s 123) (.c (.bool false)), none⟩,
  ⟨some 125, .mv (.s 124), none⟩,
  ⟨some 126, .fieldAddr (.s 10) 3, some (125, true)⟩,
  ⟨some 127, .load 1 false (.s 126) 10 false, some (125, true)⟩,
  ⟨some 128, .indexSl (.s 127) (.c (.int .i64 0)) 3, some (125, true)⟩,
  ⟨some 129, .load 3 true (.s 128) 0 true, some (125, true)⟩,
  ⟨some 130, .mv (.s 0), some (125, true)⟩,
  ⟨some 131, .call (.fn 4) [(.s 130)] true, some (125, true)⟩,
  ⟨some 132, .eqv false true [.i, .i, .s] (.s 129) (.s 131), some (125, true)⟩,
  ⟨some 133, .pick (.s 125) (.s 132) (.c (.bool false)), none⟩,
  ⟨some 134, .mv (.s 133), none⟩,
  ⟨some 135, .call (.fn 8) [] false, some (134, true)⟩,
  ⟨some 136, .pick (.s 134) (.s 135) (.c (.bool false)), none⟩,
  ⟨some 4, .mv (.s 136), none⟩] [4])
 .ret)
 .skip)))))))
 (.seq (.region [⟨some 137, .fieldAddr (.s 10) 0, none⟩,
  ⟨some 138, .load 1 false (.s 137) 10 false, none⟩,
  ⟨some 139, .bin .eql (.s 138) (.c (.int .i64 8)), none⟩,
  ⟨some 140, .mv (.s 139), none⟩,
  ⟨some 141, .fieldAddr (.s 10) 1, some (140, true)⟩,
  ⟨some 142, .load 1 false (.s 141) 10 false, some (140, true)⟩,
  ⟨some 143, .bin .eql (.s 142) (.c (.int .i64 10)), some (140, true)⟩,
  ⟨some 144, .pick (.s 140) (.s 143) (.c (.bool false)), none⟩,
  ⟨some 145, .mv (.s 144), none⟩,
  ⟨some 146, .fieldAddr (.s 10) 2, some (145, true)⟩,
  ⟨some 147, .load 1 false (.s 146) 10 false, some (145, true)⟩,
  ⟨some 148, .bin .eql (.s 147) (.c (.int .i64 0)), some (145, true)⟩,
  ⟨some 149, .pick (.s 145) (.s 148) (.c (.bool false)), none⟩,
  ⟨some 150, .mv (.s 149), none⟩,
  ⟨some 151, .fieldAddr (.s 10) 3, some (150, true)⟩,
  ⟨some 152, .load 1 false (.s 151) 10 false, some (150, true)⟩,
  ⟨some 153, .len (.s 152) .l false, some (150, true)⟩,
  ⟨some 154, .bin .eql (.s 153) (.c (.int .i64 0)), some (150, true)⟩,
  ⟨some 155, .pick (.s 150) (.s 154) (.c (.bool false)), none⟩,
  ⟨some 156, .mv (.s 155), none⟩,
  ⟨some 157, .call (.fn 8) [] false, some (156, true)⟩,
  ⟨some 158, .pick (.s 156) (.s 157) (.c (.bool false)), none⟩,
  ⟨some 4, .mv (.s 158), none⟩] [4])
 .ret)))))))))) }

/-- partsynclaw27.num -/
def g4 : GFun :=
 { nparams := 1, keepHeap := false, results := [.inr (2, 3, true)], body :=
 (.seq (.region [⟨some 2, .alloc [.int .i64 0, .int .i64 0, .str []], none⟩] [0, 2])
 (.seq (.region [⟨some 3, .mv (.s 0), none⟩,
  ⟨some 4, .build [.int .i64 0, .int .i64 0, .str []] [(0, 1, (.c (.int .i64 4))), (1, 1, (.s 3))], none⟩,
  ⟨none, .store 3 (.s 2) (.s 4) 2 false, none⟩] [2])
 .ret)) }

/-- partsynclaw27.free -/
def g5 : GFun :=
 { nparams := 0, keepHeap := false, results := [.inr (0, 2, true)], body :=
 (.seq (.region [⟨some 0, .alloc [.sl 0 true .exact [], .sl 0 true .exact []], none⟩] [0])
 (.seq (.region [⟨some 1, .alloc [.sl 0 true .exact [], .sl 0 true .exact []], none⟩] [0, 1])
 (.seq (.seq (.region [⟨some 2, .mv (.c (.int .i64 0)), none⟩] [0, 1, 2])
 (.block 0 (.loop [0, 1, 2] (.seq (.seq (.region [⟨some 4, .mv (.s 2), none⟩,
  ⟨some 5, .bin .lss (.s 4) (.c (.int .i64 2)), none⟩] [0, 1, 2, 5])
 (.cond (.s 5) .skip
 (.exit 0)))
 (.seq (.block 1 (.seq (.region [⟨some 8, .mv (.s 2), none⟩,
  ⟨some 9, .bsl 1 1 [.int .i64 0] [(0, (.c (.int .i64 0)))] false, none⟩,
  ⟨some 10, .mv (.s 2), none⟩,
  ⟨some 11, .build [.int .i64 0, .int .i64 0, .int .i64 0, .int .i64 0, .int .i64 0, .int .i64 0, .int .i64 0, .int .i64 0, .str [], .int .i64 0, .int .i64 0, .int .i64 0, .int .i64 0, .str [], .sl 0 true .exact [], .sl 0 true .exact [], .sl 0 true .exact [], .sl 0 true .exact [], .sl 0 true .exact [], .int .i64 0, .sl 0 true .exact []] [(0, 1, (.c (.int .i64 1))), (1, 1, (.s 10))], none⟩,
  ⟨some 12, .bsl 21 1 [.int .i64 0, .int .i64 0, .int .i64 0, .int .i64 0, .int .i64 0, .int .i64 0, .int .i64 0, .int .i64 0, .str [], .int .i64 0, .int .i64 0, .int .i64 0, .int .i64 0, .str [], .sl 0 true .exact [], .sl 0 true .exact [], .sl 0 true .exact [], .sl 0 true .exact [], .sl 0 true .exact [], .int .i64 0, .sl 0 true .exact []] [(0, (.s 11))] false, none⟩,
  ⟨some 13, .build [.int .i64 0, .int .i64 0, .int .i64 0, .int .i64 0, .int .i64 0, .int .i64 0, .int .i64 0, .int .i64 0, .str [], .int .i64 0, .int .i64 0, .int .i64 0, .int .i64 0, .str [], .sl 0 true .exact [], .sl 0 true .exact [], .sl 0 true .exact [], .sl 0 true .exact [], .sl 0 true .exact [], .int .i64 0, .sl 0 true .exact []] [(0, 1, (.c (.int .i64 3))), (15, 1, (.s 9)), (20, 1, (.s 12))], none⟩,
  ⟨some 14, .build [.int .i64 0, .int .i64 0, .sl 0 true .exact [], .int .i64 0, .int .i64 0, .int .i64 0, .int .i64 0, .int .i64 0, .int .i64 0, .int .i64 0, .int .i64 0, .str [], .int .i64 0, .int .i64 0, .int .i64 0, .int .i64 0, .str [], .sl 0 true .exact [], .sl 0 true .exact [], .sl 0 true .exact [], .sl 0 true .exact [], .sl 0 true .exact [], .int .i64 0, .sl 0 true .exact []] [(0, 1, (.c (.int .i64 2))), (1, 1, (.s 8)), (3, 21, (.s 13))], none⟩,
  ⟨some 3, .alloc [.int .i64 0, .int .i64 0, .sl 0 true .exact [], .int .i64 0, .int .i64 0, .int .i64 0, .int .i64 0, .int .i64 0, .int .i64 0, .int .i64 0, .int .i64 0, .str [], .int .i64 0, .int .i64 0, .int .i64 0, .int .i64 0, .str [], .sl 0 true .exact [], .sl 0 true .exact [], .sl 0 true .exact [], .sl 0 true .exact [], .sl 0 true .exact [], .int .i64 0, .sl 0 true .exact []], none⟩,
  ⟨none, .store 24 (.s 3) (.s 14) 3 false, none⟩] [0, 1, 2, 3])
 (.seq (.seq (.region [⟨some 15, .mv (.s 2), none⟩,
  ⟨some 16, .bin .eql (.s 15) (.c (.int .i64 1)), none⟩] [0, 1, 2, 3, 16])
 (.cond (.s 16) (.region [⟨some 17, .bsl 1 1 [.int .i64 0] [(0, (.c (.int .i64 1)))] false, none⟩,
  ⟨some 18, .fieldAddr (.s 3) 2, none⟩,
  ⟨none, .store 1 (.s 18) (.s 17) 3 false, none⟩] [0, 1, 2, 3])
 .skip))
 (.region [⟨some 19, .fieldAddr (.s 1) 1, none⟩,
  ⟨some 20, .loadTake (.s 19) 1 false, none⟩,
  ⟨some 21, .load 24 true (.s 3) 3 false, none⟩,
  ⟨some 22, .bsl 24 1 [.int .i64 0, .int .i64 0, .sl 0 true .exact [], .int .i64 0, .int .i64 0, .int .i64 0, .int .i64 0, .int .i64 0, .int .i64 0, .int .i64 0, .int .i64 0, .str [], .int .i64 0, .int .i64 0, .int .i64 0, .int .i64 0, .str [], .sl 0 true .exact [], .sl 0 true .exact [], .sl 0 true .exact [], .sl 0 true .exact [], .sl 0 true .exact [], .int .i64 0, .sl 0 true .exact []] [(0, (.s 21))] false, none⟩,
  ⟨some 23, .append (.s 20) (.s 22) 24 320 false false, none⟩,
  ⟨some 24, .fieldAddr (.s 1) 1, none⟩,
  ⟨none, .storeTake (.s 24) 23 1 false, none⟩] [0, 1, 2]))))
 (.region [⟨some 6, .mv (.s 2), none⟩,
  ⟨some 7, .bin .add (.s 6) (.c (.int .i64 1)), none⟩,
  ⟨some 2, .mv (.s 7), none⟩] [0, 1, 2]))))))
 (.seq (.region [⟨some 25, .load 2 true (.s 1) 1 false, none⟩,
  ⟨none, .store 2 (.s 0) (.s 25) 0 false, none⟩] [0])
 .ret)))) }

/-- transaction.Execute -/
def g6 : GFun :=
 { nparams := 5, keepHeap := false, results := [.inl 10, .inr (11, 4, true), .inl 12], body :=
 (.seq (.region [⟨some 5, .box (.s 0), none⟩,
  ⟨some 6, .box (.s 1), none⟩,
  ⟨some 8, .box (.s 3), none⟩,
  ⟨some 10, .mv (.c (.sl 0 true .exact [])), none⟩,
  ⟨some 11, .alloc [.int .i64 0, .int .i64 0, .int .i64 0, .sl 0 true .exact []], none⟩,
  ⟨some 12, .mv (.c (.int .i64 0)), none⟩] [2, 4, 5, 6, 8, 11])
 (.seq (.seq (.region [⟨some 25, .load 2 true (.s 5) 5 false, none⟩,
  ⟨some 26, .load 2 true (.s 6) 6 false, none⟩,
  ⟨some 27, .call (.fn 9) [(.s 25), (.s 26)] false, none⟩,
  ⟨some 13, .mv (.s 27), none⟩] [2, 4, 5, 6, 8, 11, 13])
 (.seq (.region [⟨some 28, .mv (.s 13), none⟩,
  ⟨some 29, .bin .neq (.s 28) (.c (.int .i64 0)), none⟩] [2, 4, 5, 6, 8, 11, 13, 29])
 (.cond (.s 29) (.seq (.region [⟨some 30, .build [.int .i64 0, .int .i64 0, .int .i64 0, .sl 0 true .exact []] [], none⟩,
  ⟨some 31, .mv (.s 13), none⟩,
  ⟨some 10, .mv (.c (.sl 0 true .exact [])), none⟩,
  ⟨none, .store 4 (.s 11) (.s 30) 11 false, none⟩,
  ⟨some 12, .mv (.s 31), none⟩] [10, 11, 12])
 .ret)
 .skip)))
 (.seq (.seq (.region [⟨some 32, .mv (.s 2), none⟩,
  ⟨some 33, .len (.s 32) .l false, none⟩,
  ⟨some 34, .fieldAddr (.s 6) 0, none⟩,
  ⟨some 35, .load 1 false (.s 34) 6 false, none⟩,
  ⟨some 36, .len (.s 35) .l false, none⟩,
  ⟨some 37, .bin .neq (.s 33) (.s 36), none⟩] [2, 4, 5, 6, 8, 11, 37])
 (.cond (.s 37) (.seq (.region [⟨some 38, .build [.int .i64 0, .int .i64 0, .int .i64 0, .sl 0 true .exact []] [], none⟩,
  ⟨some 10, .mv (.c (.sl 0 true .exact [])), none⟩,
  ⟨none, .store 4 (.s 11) (.s 38) 11 false, none⟩,
  ⟨some 12, .mv (.c (.int .i64 1)), none⟩] [10, 11, 12])
 .ret)
 .skip))
 (.seq (.seq (.region [⟨some 39, .mv (.s 2), none⟩,
  ⟨some 40, .len (.s 39) .l false, none⟩,
  ⟨some 41, .mv (.c (.int .i64 0)), none⟩] [2, 4, 5, 6, 8, 11, 39, 40, 41])
 (.block 0 (.loop [2, 4, 5, 6, 8, 11, 39, 40, 41] (.seq (.region [⟨some 42, .bin .lss (.s 41) (.s 40), none⟩] [2, 4, 5, 6, 8, 11, 39, 40, 41, 42])
 (.seq (.cond (.s 42) .skip
 (.exit 0))
 (.seq (.block 1 (.seq (.region [⟨some 43, .mv (.s 41), none⟩,
  ⟨some 44, .indexSl (.s 39) (.s 41) 3, none⟩,
  ⟨some 45, .load 3 true (.s 44) 0 true, none⟩,
  ⟨some 15, .alloc [.int .i64 0, .int .i64 0, .str []], none⟩,
  ⟨some 14, .mv (.s 43), none⟩,
  ⟨none, .store 3 (.s 15) (.s 45) 15 false, none⟩] [2, 4, 5, 6, 8, 11, 14, 15, 39, 40, 41])
 (.seq (.region [⟨some 46, .load 3 true (.s 15) 15 false, none⟩,
  ⟨some 47, .call (.fn 10) [(.s 46)] false, none⟩,
  ⟨some 48, .un .not (.s 47), none⟩,
  ⟨some 49, .mv (.s 48), none⟩,
  ⟨some 50, .fieldAddr (.s 15) 0, some (49, false)⟩,
  ⟨some 51, .load 1 false (.s 50) 15 false, some (49, false)⟩,
  ⟨some 52, .fieldAddr (.s 6) 0, some (49, false)⟩,
  ⟨some 53, .load 1 false (.s 52) 6 false, some (49, false)⟩,
  ⟨some 54, .mv (.s 14), some (49, false)⟩,
  ⟨some 55, .indexSl (.s 53) (.s 54) 1, some (49, false)⟩,
  ⟨some 56, .load 1 false (.s 55) 0 true, some (49, false)⟩,
  ⟨some 57, .bin .neq (.s 51) (.s 56), some (49, false)⟩,
  ⟨some 58, .pick (.s 49) (.c (.bool true)) (.s 57), none⟩] [2, 4, 5, 6, 8, 11, 39, 40, 41, 58])
 (.cond (.s 58) (.seq (.region [⟨some 59, .build [.int .i64 0, .int .i64 0, .int .i64 0, .sl 0 true .exact []] [], none⟩,
  ⟨some 10, .mv (.c (.sl 0 true .exact [])), none⟩,
  ⟨none, .store 4 (.s 11) (.s 59) 11 false, none⟩,
  ⟨some 12, .mv (.c (.int .i64 1)), none⟩] [10, 11, 12])
 .ret)
 .skip))))
 (.region [⟨some 60, .bin .add (.s 41) (.c (.int .i64 1)), none⟩,
  ⟨some 41, .mv (.s 60), none⟩] [2, 4, 5, 6, 8, 11, 39, 40, 41])))))))
 (.seq (.region [⟨some 62, .load 2 true (.s 5) 5 false, none⟩,
  ⟨some 63, .load 1 true (.s 8) 8 false, none⟩,
  ⟨some 64, .mv (.s 4), none⟩,
  ⟨some 65, .call (.fn 11) [(.s 62), (.s 63), (.s 64)] false, none⟩,
  ⟨some 61, .mv (.s 65), none⟩,
  ⟨some 66, .extract (.s 61) 0, none⟩,
  ⟨some 67, .extract (.s 61) 1, none⟩,
  ⟨some 68, .extract (.s 61) 2, none⟩,
  ⟨some 17, .alloc [.int .i64 0, .int .i64 0, .int .i64 0, .sl 0 true .exact []], none⟩,
  ⟨some 16, .mv (.s 66), none⟩,
  ⟨none, .store 4 (.s 17) (.s 67) 17 false, none⟩,
  ⟨some 18, .mv (.s 68), none⟩] [2, 4, 5, 6, 8, 11, 16, 17, 18])
 (.seq (.seq (.region [⟨some 69, .mv (.s 18), none⟩,
  ⟨some 70, .bin .neq (.s 69) (.c (.int .i64 0)), none⟩,
  ⟨some 71, .mv (.s 70), none⟩,
  ⟨some 72, .fieldAddr (.s 17) 0, some (71, false)⟩,
  ⟨some 73, .load 1 false (.s 72) 17 false, some (71, false)⟩,
  ⟨some 74, .bin .neq (.s 73) (.c (.int .i64 0)), some (71, false)⟩,
  ⟨some 75, .pick (.s 71) (.c (.bool true)) (.s 74), none⟩] [2, 4, 5, 6, 8, 11, 16, 17, 18, 75])
 (.cond (.s 75) (.seq (.region [⟨some 76, .load 4 true (.s 17) 17 false, none⟩,
  ⟨some 77, .mv (.s 18), none⟩,
  ⟨some 10, .mv (.c (.sl 0 true .exact [])), none⟩,
  ⟨none, .store 4 (.s 11) (.s 76) 11 false, none⟩,
  ⟨some 12, .mv (.s 77), none⟩] [10, 11, 12])
 .ret)
 .skip))
 (.seq (.region [⟨some 78, .load 2 true (.s 5) 5 false, none⟩,
  ⟨some 79, .load 2 true (.s 6) 6 false, none⟩,
  ⟨some 80, .mv (.s 2), none⟩,
  ⟨some 81, .load 1 true (.s 8) 8 false, none⟩,
  ⟨some 82, .mv (.s 4), none⟩,
  ⟨some 83, .mv (.s 16), none⟩,
  ⟨some 84, .bsl 1 3 [.nilfunc] [(0, (.c (.func (.func 12) [] []))), (1, (.c (.func (.func 13) [] []))), (2, (.c (.func (.func 14) [] [])))] false, none⟩,
  ⟨some 85, .build [.int .i64 0, .sl 0 true .exact [], .sl 0 true .exact [], .sl 0 true .exact [], .sl 0 true .exact [], .sl 0 true .exact [], .sl 0 true .exact [], .sl 0 true .exact [], .sl 0 true .exact []] [(0, 2, (.s 78)), (2, 2, (.s 79)), (4, 1, (.s 80)), (5, 1, (.s 81)), (6, 1, (.s 82)), (7, 1, (.s 83)), (8, 1, (.s 84))], none⟩,
  ⟨some 86, .hbox (.s 85), none⟩,
  ⟨some 19, .mv (.s 86), none⟩] [11, 16, 19])
 (.seq (.seq (.region [⟨some 87, .mv (.s 19), none⟩,
  ⟨some 88, .nilCheck (.s 87), none⟩,
  ⟨some 89, .fieldAddr (.s 88) 8, none⟩,
  ⟨some 90, .load 1 false (.s 89) 0 true, none⟩,
  ⟨some 91, .len (.s 90) .l false, none⟩,
  ⟨some 92, .mv (.c (.int .i64 0)), none⟩] [11, 16, 19, 90, 91, 92])
 (.block 2 (.loop [11, 16, 19, 90, 91, 92] (.seq (.region [⟨some 93, .bin .lss (.s 92) (.s 91), none⟩] [11, 16, 19, 90, 91, 92, 93])
 (.seq (.cond (.s 93) .skip
 (.exit 2))
 (.seq (.block 3 (.seq (.region [⟨some 94, .indexSl (.s 90) (.s 92) 1, none⟩,
  ⟨some 95, .load 1 false (.s 94) 0 true, none⟩,
  ⟨some 21, .mv (.s 95), none⟩] [11, 16, 19, 21, 90, 91, 92])
 (.seq (.region [⟨some 96, .mv (.s 21), none⟩,
  ⟨some 97, .mv (.s 19), none⟩,
  ⟨some 98, .call (.val (.s 96)) [(.s 97)] false, none⟩,
  ⟨some 22, .mv (.s 98), none⟩] [11, 16, 19, 22, 90, 91, 92])
 (.seq (.region [⟨some 99, .mv (.s 22), none⟩,
  ⟨some 100, .eqv true false [.n] (.s 99) (.c (.niliface)), none⟩] [11, 16, 19, 22, 90, 91, 92, 100])
 (.cond (.s 100) (.seq (.region [⟨some 102, .mv (.s 22), none⟩,
  ⟨some 103, .call (.fn 15) [(.s 102)] false, none⟩,
  ⟨some 101, .mv (.s 103), none⟩,
  ⟨some 104, .extract (.s 101) 0, none⟩,
  ⟨some 105, .extract (.s 101) 1, none⟩,
  ⟨some 23, .alloc [.int .i64 0, .int .i64 0, .int .i64 0, .sl 0 true .exact []], none⟩,
  ⟨none, .store 4 (.s 23) (.s 104) 23 false, none⟩,
  ⟨some 24, .mv (.s 105), none⟩] [11, 23, 24])
 (.seq (.region [⟨some 106, .load 4 true (.s 23) 23 false, none⟩,
  ⟨some 107, .mv (.s 24), none⟩,
  ⟨some 10, .mv (.c (.sl 0 true .exact [])), none⟩,
  ⟨none, .store 4 (.s 11) (.s 106) 11 false, none⟩,
  ⟨some 12, .mv (.s 107), none⟩] [10, 11, 12])
 .ret))
 .skip)))))
 (.region [⟨some 108, .bin .add (.s 92) (.c (.int .i64 1)), none⟩,
  ⟨some 92, .mv (.s 108), none⟩] [11, 16, 19, 90, 91, 92])))))))
 (.seq (.region [⟨some 109, .mv (.s 16), none⟩,
  ⟨some 110, .build [.int .i64 0, .int .i64 0, .int .i64 0, .sl 0 true .exact []] [], none⟩,
  ⟨some 10, .mv (.s 109), none⟩,
  ⟨none, .store 4 (.s 11) (.s 110) 11 false, none⟩,
  ⟨some 12, .mv (.c (.int .i64 0)), none⟩] [10, 11, 12])
 .ret))))))))) }

/-- partsynclaw27.projects -/
def g7 : GFun :=
 { nparams := 0, keepHeap := false, results := [.inr (0, 2, true)], body :=
 (.seq (.region [⟨some 0, .alloc [.int .i64 0, .sl 0 true .exact []], none⟩] [0])
 (.seq (.region [⟨some 2, .build [.str [], .int .i64 0] [(0, 1, (.c (.str [105, 100]))), (1, 1, (.c (.int .i64 4)))], none⟩,
  ⟨some 1, .alloc [.str [], .int .i64 0], none⟩,
  ⟨none, .store 2 (.s 1) (.s 2) 1 false, none⟩] [0, 1])
 (.seq (.region [⟨some 3, .load 2 true (.s 1) 1 false, none⟩,
  ⟨some 4, .bsl 2 1 [.str [], .int .i64 0] [(0, (.s 3))] false, none⟩,
  ⟨some 5, .build [.str [], .sl 0 true .exact [], .int .i64 0, .sl 0 true .exact [], .sl 0 true .exact []] [(0, 1, (.c (.str [112, 114, 111, 106, 101, 99, 116, 115]))), (2, 1, (.c (.int .i64 1))), (1, 1, (.s 4))], none⟩,
  ⟨some 6, .load 2 true (.s 1) 1 false, none⟩,
  ⟨some 7, .build [.str [], .int .i64 0] [(0, 1, (.c (.str [112, 114, 111, 106, 101, 99, 116]))), (1, 1, (.c (.int .i64 4)))], none⟩,
  ⟨some 8, .bsl 2 2 [.str [], .int .i64 0] [(0, (.s 6)), (1, (.s 7))] false, none⟩,
  ⟨some 9, .bsl 1 1 [.int .i64 0] [(0, (.c (.int .i64 1)))] false, none⟩,
  ⟨some 10, .build [.sl 0 true .exact [], .int .i64 0] [(0, 1, (.s 9)), (1, 1, (.c (.int .i64 0)))], none⟩,
  ⟨some 11, .bsl 2 1 [.sl 0 true .exact [], .int .i64 0] [(0, (.s 10))] false, none⟩,
  ⟨some 12, .build [.str [], .sl 0 true .exact [], .int .i64 0, .sl 0 true .exact [], .sl 0 true .exact []] [(0, 1, (.c (.str [116, 97, 115, 107, 115]))), (2, 1, (.c (.int .i64 1))), (1, 1, (.s 8)), (3, 1, (.s 11))], none⟩,
  ⟨some 13, .bsl 5 2 [.str [], .sl 0 true .exact [], .int .i64 0, .sl 0 true .exact [], .sl 0 true .exact []] [(0, (.s 5)), (1, (.s 12))] false, none⟩,
  ⟨some 14, .build [.int .i64 0, .sl 0 true .exact []] [(1, 1, (.s 13))], none⟩,
  ⟨none, .store 2 (.s 0) (.s 14) 0 false, none⟩] [0])
 .ret))) }

/-- partsynclaw27.begun -/
def g8 : GFun :=
 { nparams := 0, keepHeap := false, results := [.inl 0], body :=
 (.seq (.region [⟨some 0, .mv (.c (.bool false)), none⟩] [])
 (.seq (.region [⟨some 8, .call (.fn 4) [(.c (.int .i64 1))] false, none⟩,
  ⟨some 9, .bsl 3 1 [.int .i64 0, .int .i64 0, .str []] [(0, (.s 8))] false, none⟩,
  ⟨some 10, .bsl 1 1 [.sl 0 true .exact []] [(0, (.s 9))] false, none⟩,
  ⟨some 11, .call (.fn 4) [(.c (.int .i64 7))] false, none⟩,
  ⟨some 12, .call (.fn 4) [(.c (.int .i64 1))] false, none⟩,
  ⟨some 13, .bsl 3 2 [.int .i64 0, .int .i64 0, .str []] [(0, (.s 11)), (1, (.s 12))] false, none⟩,
  ⟨some 14, .bsl 1 1 [.sl 0 true .exact []] [(0, (.s 13))] false, none⟩,
  ⟨some 15, .bsl 1 2 [.sl 0 true .exact []] [(0, (.s 10)), (1, (.s 14))] false, none⟩,
  ⟨some 16, .build [.sl 0 true .exact []] [(0, 1, (.s 15))], none⟩,
  ⟨some 1, .alloc [.sl 0 true .exact []], none⟩,
  ⟨none, .store 1 (.s 1) (.s 16) 1 false, none⟩] [1])
 (.seq (.region [⟨some 18, .call (.fn 7) [] false, none⟩,
  ⟨some 19, .call (.fn 5) [] false, none⟩,
  ⟨some 20, .load 1 true (.s 1) 1 false, none⟩,
  ⟨some 21, .call (.fn 4) [(.c (.int .i64 1))] false, none⟩,
  ⟨some 22, .bsl 3 1 [.int .i64 0, .int .i64 0, .str []] [(0, (.s 21))] false, none⟩,
  ⟨some 23, .build [.int .i64 0, .int .i64 0, .sl 0 true .exact [], .sl 0 true .exact [], .sl 0 true .exact []] [(0, 1, (.c (.int .i64 3))), (2, 1, (.s 22))], none⟩,
  ⟨some 24, .bsl 5 1 [.int .i64 0, .int .i64 0, .sl 0 true .exact [], .sl 0 true .exact [], .sl 0 true .exact []] [(0, (.s 23))] false, none⟩,
  ⟨some 25, .call (.fn 6) [(.s 18), (.s 19), (.c (.sl 0 true .exact [])), (.s 20), (.s 24)] false, none⟩,
  ⟨some 17, .mv (.s 25), none⟩,
  ⟨some 26, .extract (.s 17) 0, none⟩,
  ⟨some 27, .extract (.s 17) 1, none⟩,
  ⟨some 28, .extract (.s 17) 2, none⟩,
  ⟨some 3, .alloc [.int .i64 0, .int .i64 0, .int .i64 0, .sl 0 true .exact []], none⟩,
  ⟨some 2, .mv (.s 26), none⟩,
  ⟨none, .store 4 (.s 3) (.s 27) 3 false, none⟩,
  ⟨some 4, .mv (.s 28), none⟩] [1, 3, 4])
 (.seq (.region [⟨some 30, .call (.fn 7) [] false, none⟩,
  ⟨some 31, .call (.fn 5) [] false, none⟩,
  ⟨some 32, .load 1 true (.s 1) 1 false, none⟩,
  ⟨some 33, .call (.fn 4) [(.c (.int .i64 8))] false, none⟩,
  ⟨some 34, .bsl 3 1 [.int .i64 0, .int .i64 0, .str []] [(0, (.s 33))] false, none⟩,
  ⟨some 35, .call (.fn 4) [(.c (.int .i64 8))] false, none⟩,
  ⟨some 36, .call (.fn 4) [(.c (.int .i64 1))] false, none⟩,
  ⟨some 37, .bsl 3 2 [.int .i64 0, .int .i64 0, .str []] [(0, (.s 35)), (1, (.s 36))] false, none⟩,
  ⟨some 38, .build [.int .i64 0, .int .i64 0, .sl 0 true .exact [], .sl 0 true .exact [], .sl 0 true .exact []] [(0, 1, (.c (.int .i64 1))), (1, 1, (.c (.int .i64 1))), (2, 1, (.s 34)), (4, 1, (.s 37))], none⟩,
  ⟨some 39, .bsl 5 1 [.int .i64 0, .int .i64 0, .sl 0 true .exact [], .sl 0 true .exact [], .sl 0 true .exact []] [(0, (.s 38))] false, none⟩,
  ⟨some 40, .call (.fn 6) [(.s 30), (.s 31), (.c (.sl 0 true .exact [])), (.s 32), (.s 39)] false, none⟩,
  ⟨some 29, .mv (.s 40), none⟩,
  ⟨some 41, .extract (.s 29) 0, none⟩,
  ⟨some 42, .extract (.s 29) 1, none⟩,
  ⟨some 43, .extract (.s 29) 2, none⟩,
  ⟨some 6, .alloc [.int .i64 0, .int .i64 0, .int .i64 0, .sl 0 true .exact []], none⟩,
  ⟨some 5, .mv (.s 41), none⟩,
  ⟨none, .store 4 (.s 6) (.s 42) 6 false, none⟩,
  ⟨some 7, .mv (.s 43), none⟩] [3, 4, 5, 6, 7])
 (.seq (.region [⟨some 44, .mv (.s 4), none⟩,
  ⟨some 45, .bin .eql (.s 44) (.c (.int .i64 0)), none⟩,
  ⟨some 46, .mv (.s 45), none⟩,
  ⟨some 47, .fieldAddr (.s 3) 0, some (46, true)⟩,
  ⟨some 48, .load 1 false (.s 47) 3 false, some (46, true)⟩,
  ⟨some 49, .bin .eql (.s 48) (.c (.int .i64 8)), some (46, true)⟩,
  ⟨some 50, .pick (.s 46) (.s 49) (.c (.bool false)), none⟩,
  ⟨some 51, .mv (.s 50), none⟩,
  ⟨some 52, .fieldAddr (.s 3) 1, some (51, true)⟩,
  ⟨some 53, .load 1 false (.s 52) 3 false, some (51, true)⟩,
  ⟨some 54, .bin .eql (.s 53) (.c (.int .i64 10)), some (51, true)⟩,
  ⟨some 55, .pick (.s 51) (.s 54) (.c (.bool false)), none⟩,
  ⟨some 56, .mv (.s 55), none⟩,
  ⟨some 57, .fieldAddr (.s 3) 3, some (56, true)⟩,
  ⟨some 58, .load 1 false (.s 57) 3 false, some (56, true)⟩,
  ⟨some 59, .len (.s 58) .l false, some (56, true)⟩,
  ⟨some 60, .bin .eql (.s 59) (.c (.int .i64 0)), some (56, true)⟩,
  ⟨some 61, .pick (.s 56) (.s 60) (.c (.bool false)), none⟩,
  ⟨some 62, .mv (.s 61), none⟩,
  ⟨some 63, .mv (.s 7), some (62, true)⟩,
  ⟨some 64, .bin .eql (.s 63) (.c (.int .i64 0)), some (62, true)⟩,
  ⟨some 65, .pick (.s 62) (.s 64) (.c (.bool false)), none⟩,
  ⟨some 66, .mv (.s 65), none⟩,
  ⟨some 67, .fieldAddr (.s 6) 0, some (66, true)⟩,
  ⟨some 68, .load 1 false (.s 67) 6 false, some (66, true)⟩,
  ⟨some 69, .bin .eql (.s 68) (.c (.int .i64 0)), some (66, true)⟩,
  ⟨some 70, .pick (.s 66) (.s 69) (.c (.bool false)), none⟩,
  ⟨some 71, .mv (.s 70), none⟩,
  ⟨some 72, .mv (.s 5), some (71, true)⟩,
  ⟨some 73, .len (.s 72) .l false, some (71, true)⟩,
  ⟨some 74, .bin .eql (.s 73) (.c (.int .i64 1)), some (71, true)⟩,
  ⟨some 75, .pick (.s 71) (.s 74) (.c (.bool false)), none⟩,
  ⟨some 0, .mv (.s 75), none⟩] [0])
 .ret))))) }

/-- policy.Check -/
def g9 : GFun :=
 { nparams := 2, keepHeap := false, results := [.inl 4], body :=
 (.seq (.region [⟨some 2, .box (.s 0), none⟩,
  ⟨some 3, .box (.s 1), none⟩,
  ⟨some 4, .mv (.c (.int .i64 0)), none⟩] [2, 3])
 (.seq (.seq (.region [⟨some 15, .load 2 true (.s 2) 2 false, none⟩,
  ⟨some 16, .call (.fn 16) [(.s 15)] false, none⟩,
  ⟨some 5, .mv (.s 16), none⟩] [2, 3, 5])
 (.seq (.region [⟨some 17, .mv (.s 5), none⟩,
  ⟨some 18, .bin .neq (.s 17) (.c (.int .i64 0)), none⟩] [2, 3, 5, 18])
 (.cond (.s 18) (.seq (.region [⟨some 19, .mv (.s 5), none⟩,
  ⟨some 4, .mv (.s 19), none⟩] [4])
 .ret)
 .skip)))
 (.seq (.seq (.region [⟨some 20, .fieldAddr (.s 3) 1, none⟩,
  ⟨some 21, .load 1 false (.s 20) 3 false, none⟩,
  ⟨some 22, .len (.s 21) .l false, none⟩,
  ⟨some 23, .bin .gtr (.s 22) (.c (.int .i64 16)), none⟩,
  ⟨some 24, .mv (.s 23), none⟩,
  ⟨some 25, .fieldAddr (.s 3) 0, some (24, false)⟩,
  ⟨some 26, .load 1 false (.s 25) 3 false, some (24, false)⟩,
  ⟨some 27, .len (.s 26) .l false, some (24, false)⟩,
  ⟨some 28, .bin .gtr (.s 27) (.c (.int .i64 8)), some (24, false)⟩,
  ⟨some 29, .pick (.s 24) (.c (.bool true)) (.s 28), none⟩] [2, 3, 29])
 (.cond (.s 29) (.seq (.region [⟨some 4, .mv (.c (.int .i64 2)), none⟩] [4])
 .ret)
 .skip))
 (.seq (.seq (.region [⟨some 30, .fieldAddr (.s 3) 0, none⟩,
  ⟨some 31, .load 1 false (.s 30) 3 false, none⟩,
  ⟨some 32, .len (.s 31) .l false, none⟩,
  ⟨some 33, .mv (.c (.int .i64 0)), none⟩] [2, 3, 31, 32, 33])
 (.block 0 (.loop [2, 3, 31, 32, 33] (.seq (.region [⟨some 34, .bin .lss (.s 33) (.s 32), none⟩] [2, 3, 31, 32, 33, 34])
 (.seq (.cond (.s 34) .skip
 (.exit 0))
 (.seq (.block 1 (.seq (.region [⟨some 35, .indexSl (.s 31) (.s 33) 1, none⟩,
  ⟨some 36, .load 1 false (.s 35) 0 true, none⟩,
  ⟨some 7, .mv (.s 36), none⟩] [2, 3, 7, 31, 32, 33])
 (.seq (.region [⟨some 37, .mv (.s 7), none⟩,
  ⟨some 38, .call (.fn 17) [(.s 37)] false, none⟩,
  ⟨some 39, .un .not (.s 38), none⟩] [2, 3, 31, 32, 33, 39])
 (.cond (.s 39) (.seq (.region [⟨some 4, .mv (.c (.int .i64 160)), none⟩] [4])
 .ret)
 .skip))))
 (.region [⟨some 40, .bin .add (.s 33) (.c (.int .i64 1)), none⟩,
  ⟨some 33, .mv (.s 40), none⟩] [2, 3, 31, 32, 33])))))))
 (.seq (.seq (.region [⟨some 41, .fieldAddr (.s 3) 1, none⟩,
  ⟨some 42, .load 1 false (.s 41) 3 false, none⟩,
  ⟨some 43, .len (.s 42) .l false, none⟩,
  ⟨some 44, .mv (.c (.int .i64 0)), none⟩] [2, 3, 42, 43, 44])
 (.block 2 (.loop [2, 3, 42, 43, 44] (.seq (.region [⟨some 45, .bin .lss (.s 44) (.s 43), none⟩] [2, 3, 42, 43, 44, 45])
 (.seq (.cond (.s 45) .skip
 (.exit 2))
 (.seq (.block 3 (.seq (.region [⟨some 46, .indexSl (.s 42) (.s 44) 24, none⟩,
  ⟨some 47, .load 24 true (.s 46) 0 true, none⟩,
  ⟨some 9, .alloc [.int .i64 0, .int .i64 0, .sl 0 true .exact [], .int .i64 0, .int .i64 0, .int .i64 0, .int .i64 0, .int .i64 0, .int .i64 0, .int .i64 0, .int .i64 0, .str [], .int .i64 0, .int .i64 0, .int .i64 0, .int .i64 0, .str [], .sl 0 true .exact [], .sl 0 true .exact [], .sl 0 true .exact [], .sl 0 true .exact [], .sl 0 true .exact [], .int .i64 0, .sl 0 true .exact []], none⟩,
  ⟨none, .store 24 (.s 9) (.s 47) 9 false, none⟩] [2, 3, 9, 42, 43, 44])
 (.seq (.seq (.region [⟨some 48, .fieldAddr (.s 9) 0, none⟩,
  ⟨some 49, .load 1 false (.s 48) 9 false, none⟩,
  ⟨some 50, .bin .neq (.s 49) (.c (.int .i64 1)), none⟩,
  ⟨some 51, .mv (.s 50), none⟩,
  ⟨some 52, .fieldAddr (.s 9) 0, some (51, true)⟩,
  ⟨some 53, .load 1 false (.s 52) 9 false, some (51, true)⟩,
  ⟨some 54, .bin .neq (.s 53) (.c (.int .i64 2)), some (51, true)⟩,
  ⟨some 55, .pick (.s 51) (.s 54) (.c (.bool false)), none⟩,
  ⟨some 56, .mv (.s 55), none⟩,
  ⟨some 57, .fieldAddr (.s 9) 1, some (56, false)⟩,
  ⟨some 58, .load 1 false (.s 57) 9 false, some (56, false)⟩,
  ⟨some 59, .bin .lss (.s 58) (.c (.int .i64 0)), some (56, false)⟩,
  ⟨some 60, .pick (.s 56) (.c (.bool true)) (.s 59), none⟩,
  ⟨some 61, .mv (.s 60), none⟩,
  ⟨some 62, .fieldAddr (.s 9) 1, some (61, false)⟩,
  ⟨some 63, .load 1 false (.s 62) 9 false, some (61, false)⟩,
  ⟨some 64, .fieldAddr (.s 2) 1, some (61, false)⟩,
  ⟨some 65, .load 1 false (.s 64) 2 false, some (61, false)⟩,
  ⟨some 66, .len (.s 65) .l false, some (61, false)⟩,
  ⟨some 67, .bin .geq (.s 63) (.s 66), some (61, false)⟩,
  ⟨some 68, .pick (.s 61) (.c (.bool true)) (.s 67), none⟩] [2, 3, 9, 42, 43, 44, 68])
 (.cond (.s 68) (.seq (.region [⟨some 4, .mv (.c (.int .i64 160)), none⟩] [4])
 .ret)
 .skip))
 (.seq (.region [⟨some 69, .fieldAddr (.s 2) 1, none⟩,
  ⟨some 70, .load 1 false (.s 69) 2 false, none⟩,
  ⟨some 71, .fieldAddr (.s 9) 1, none⟩,
  ⟨some 72, .load 1 false (.s 71) 9 false, none⟩,
  ⟨some 73, .indexSl (.s 70) (.s 72) 5, none⟩,
  ⟨some 74, .load 5 true (.s 73) 0 true, none⟩,
  ⟨some 10, .alloc [.str [], .sl 0 true .exact [], .int .i64 0, .sl 0 true .exact [], .sl 0 true .exact []], none⟩,
  ⟨none, .store 5 (.s 10) (.s 74) 10 false, none⟩] [2, 3, 9, 10, 42, 43, 44])
 (.seq (.seq (.region [⟨some 75, .fieldAddr (.s 9) 2, none⟩,
  ⟨some 76, .load 1 false (.s 75) 9 false, none⟩,
  ⟨some 77, .len (.s 76) .l false, none⟩,
  ⟨some 78, .mv (.c (.int .i64 0)), none⟩] [2, 3, 9, 10, 42, 43, 44, 76, 77, 78])
 (.block 4 (.loop [2, 3, 9, 10, 42, 43, 44, 76, 77, 78] (.seq (.region [⟨some 79, .bin .lss (.s 78) (.s 77), none⟩] [2, 3, 9, 10, 42, 43, 44, 76, 77, 78, 79])
 (.seq (.cond (.s 79) .skip
 (.exit 4))
 (.seq (.block 5 (.seq (.region [⟨some 80, .mv (.s 78), none⟩,
  ⟨some 81, .indexSl (.s 76) (.s 78) 1, none⟩,
  ⟨some 82, .load 1 false (.s 81) 0 true, none⟩,
  ⟨some 11, .mv (.s 80), none⟩,
  ⟨some 12, .mv (.s 82), none⟩] [2, 3, 9, 10, 11, 12, 42, 43, 44, 76, 77, 78])
 (.seq (.region [⟨some 83, .mv (.s 12), none⟩,
  ⟨some 84, .fieldAddr (.s 10) 2, none⟩,
  ⟨some 85, .load 1 false (.s 84) 10 false, none⟩,
  ⟨some 86, .bin .lss (.s 83) (.s 85), none⟩,
  ⟨some 87, .mv (.s 86), none⟩,
  ⟨some 88, .mv (.s 12), some (87, false)⟩,
  ⟨some 89, .fieldAddr (.s 10) 1, some (87, false)⟩,
  ⟨some 90, .load 1 false (.s 89) 10 false, some (87, false)⟩,
  ⟨some 91, .len (.s 90) .l false, some (87, false)⟩,
  ⟨some 92, .bin .geq (.s 88) (.s 91), some (87, false)⟩,
  ⟨some 93, .pick (.s 87) (.c (.bool true)) (.s 92), none⟩,
  ⟨some 94, .mv (.s 93), none⟩,
  ⟨some 95, .mv (.s 11), some (94, false)⟩,
  ⟨some 96, .bin .gtr (.s 95) (.c (.int .i64 0)), some (94, false)⟩,
  ⟨some 97, .mv (.s 96), some (94, false)⟩,
  ⟨some 98, .mv (.s 12), some (97, true)⟩,
  ⟨some 99, .fieldAddr (.s 9) 2, some (97, true)⟩,
  ⟨some 100, .load 1 false (.s 99) 9 false, some (97, true)⟩,
  ⟨some 101, .mv (.s 11), some (97, true)⟩,
  ⟨some 102, .bin .sub (.s 101) (.c (.int .i64 1)), some (97, true)⟩,
  ⟨some 103, .indexSl (.s 100) (.s 102) 1, some (97, true)⟩,
  ⟨some 104, .load 1 false (.s 103) 0 true, some (97, true)⟩,
  ⟨some 105, .bin .leq (.s 98) (.s 104), some (97, true)⟩,
  ⟨some 106, .pick (.s 97) (.s 105) (.c (.bool false)), some (94, false)⟩,
  ⟨some 107, .pick (.s 94) (.c (.bool true)) (.s 106), none⟩] [2, 3, 9, 10, 42, 43, 44, 76, 77, 78, 107])
 (.cond (.s 107) (.seq (.region [⟨some 4, .mv (.c (.int .i64 160)), none⟩] [4])
 .ret)
 .skip))))
 (.region [⟨some 108, .bin .add (.s 78) (.c (.int .i64 1)), none⟩,
  ⟨some 78, .mv (.s 108), none⟩] [2, 3, 9, 10, 42, 43, 44, 76, 77, 78])))))))
 (.seq (.region [⟨some 110, .load 2 true (.s 2) 2 false, none⟩,
  ⟨some 111, .fieldAddr (.s 3) 0, none⟩,
  ⟨some 112, .load 1 false (.s 111) 3 false, none⟩,
  ⟨some 113, .fieldAddr (.s 9) 3, none⟩,
  ⟨some 114, .load 21 true (.s 113) 9 false, none⟩,
  ⟨some 115, .call (.fn 18) [(.s 110), (.s 112), (.s 114)] false, none⟩,
  ⟨some 109, .mv (.s 115), none⟩,
  ⟨some 116, .extract (.s 109) 0, none⟩,
  ⟨some 117, .extract (.s 109) 1, none⟩,
  ⟨some 13, .mv (.s 116), none⟩,
  ⟨some 14, .mv (.s 117), none⟩] [2, 3, 9, 13, 14, 42, 43, 44])
 (.seq (.seq (.region [⟨some 118, .mv (.s 14), none⟩,
  ⟨some 119, .bin .neq (.s 118) (.c (.int .i64 0)), none⟩] [2, 3, 9, 13, 14, 42, 43, 44, 119])
 (.cond (.s 119) (.seq (.region [⟨some 120, .mv (.s 14), none⟩,
  ⟨some 4, .mv (.s 120), none⟩] [4])
 .ret)
 .skip))
 (.seq (.region [⟨some 121, .mv (.s 13), none⟩,
  ⟨some 122, .load 2 true (.s 2) 2 false, none⟩,
  ⟨some 123, .fieldAddr (.s 9) 1, none⟩,
  ⟨some 124, .load 1 false (.s 123) 9 false, none⟩,
  ⟨some 125, .call (.fn 20) [(.s 122), (.s 124)] false, none⟩,
  ⟨some 126, .call (.fn 19) [(.s 121), (.s 125)] false, none⟩,
  ⟨some 127, .un .not (.s 126), none⟩] [2, 3, 42, 43, 44, 127])
 (.cond (.s 127) (.seq (.region [⟨some 4, .mv (.c (.int .i64 160)), none⟩] [4])
 .ret)
 .skip)))))))))
 (.region [⟨some 128, .bin .add (.s 44) (.c (.int .i64 1)), none⟩,
  ⟨some 44, .mv (.s 128), none⟩] [2, 3, 42, 43, 44])))))))
 (.seq (.region [⟨some 4, .mv (.c (.int .i64 0)), none⟩] [4])
 .ret)))))) }

/-- value.Real -/
def g10 : GFun :=
 { nparams := 1, keepHeap := false, results := [.inl 2], body :=
 (.seq (.region [⟨some 1, .box (.s 0), none⟩,
  ⟨some 2, .mv (.c (.bool false)), none⟩] [1])
 (.seq (.region [⟨some 3, .load 3 true (.s 1) 1 false, none⟩,
  ⟨some 4, .call (.fn 21) [(.s 3)] false, none⟩,
  ⟨some 5, .mv (.s 4), none⟩,
  ⟨some 6, .fieldAddr (.s 1) 0, some (5, true)⟩,
  ⟨some 7, .load 1 false (.s 6) 1 false, some (5, true)⟩,
  ⟨some 8, .bin .geq (.s 7) (.c (.int .i64 3)), some (5, true)⟩,
  ⟨some 9, .pick (.s 5) (.s 8) (.c (.bool false)), none⟩,
  ⟨some 2, .mv (.s 9), none⟩] [2])
 .ret)) }

/-- transaction.Changes -/
def g11 : GFun :=
 { nparams := 3, keepHeap := false, results := [.inl 6, .inr (7, 4, true), .inl 8], body :=
 (.seq (.region [⟨some 3, .box (.s 0), none⟩,
  ⟨some 4, .box (.s 1), none⟩,
  ⟨some 6, .mv (.c (.sl 0 true .exact [])), none⟩,
  ⟨some 7, .alloc [.int .i64 0, .int .i64 0, .int .i64 0, .sl 0 true .exact []], none⟩,
  ⟨some 8, .mv (.c (.int .i64 0)), none⟩] [2, 3, 4, 7])
 (.seq (.seq (.region [⟨some 15, .load 2 true (.s 3) 3 false, none⟩,
  ⟨some 16, .mv (.s 2), none⟩,
  ⟨some 17, .call (.fn 22) [(.s 15), (.s 16)] false, none⟩,
  ⟨some 9, .mv (.s 17), none⟩] [2, 3, 4, 7, 9])
 (.seq (.region [⟨some 18, .mv (.s 9), none⟩,
  ⟨some 19, .bin .neq (.s 18) (.c (.int .i64 0)), none⟩] [2, 3, 4, 7, 9, 19])
 (.cond (.s 19) (.seq (.region [⟨some 20, .build [.int .i64 0, .int .i64 0, .int .i64 0, .sl 0 true .exact []] [], none⟩,
  ⟨some 21, .mv (.s 9), none⟩,
  ⟨some 6, .mv (.c (.sl 0 true .exact [])), none⟩,
  ⟨none, .store 4 (.s 7) (.s 20) 7 false, none⟩,
  ⟨some 8, .mv (.s 21), none⟩] [6, 7, 8])
 .ret)
 .skip)))
 (.seq (.seq (.region [⟨some 22, .load 2 true (.s 3) 3 false, none⟩,
  ⟨some 23, .load 1 true (.s 4) 4 false, none⟩,
  ⟨some 24, .call (.fn 23) [(.s 22), (.c (.int .i64 1)), (.s 23)] false, none⟩,
  ⟨some 10, .mv (.s 24), none⟩] [2, 3, 4, 7, 10])
 (.seq (.region [⟨some 25, .mv (.s 10), none⟩,
  ⟨some 26, .bin .neq (.s 25) (.c (.int .i64 0)), none⟩] [2, 3, 4, 7, 10, 26])
 (.cond (.s 26) (.seq (.region [⟨some 27, .build [.int .i64 0, .int .i64 0, .int .i64 0, .sl 0 true .exact []] [], none⟩,
  ⟨some 28, .mv (.s 10), none⟩,
  ⟨some 6, .mv (.c (.sl 0 true .exact [])), none⟩,
  ⟨none, .store 4 (.s 7) (.s 27) 7 false, none⟩,
  ⟨some 8, .mv (.s 28), none⟩] [6, 7, 8])
 .ret)
 .skip)))
 (.seq (.region [⟨some 30, .load 2 true (.s 3) 3 false, none⟩,
  ⟨some 31, .load 1 true (.s 4) 4 false, none⟩,
  ⟨some 32, .mv (.s 2), none⟩,
  ⟨some 33, .call (.fn 24) [(.s 30), (.s 31), (.s 32)] false, none⟩,
  ⟨some 29, .mv (.s 33), none⟩,
  ⟨some 34, .extract (.s 29) 0, none⟩,
  ⟨some 35, .extract (.s 29) 1, none⟩,
  ⟨some 11, .mv (.s 34), none⟩,
  ⟨some 12, .mv (.s 35), none⟩] [7, 11, 12])
 (.seq (.region [⟨some 37, .mv (.s 12), none⟩,
  ⟨some 38, .call (.fn 15) [(.s 37)] false, none⟩,
  ⟨some 36, .mv (.s 38), none⟩,
  ⟨some 39, .extract (.s 36) 0, none⟩,
  ⟨some 40, .extract (.s 36) 1, none⟩,
  ⟨some 13, .alloc [.int .i64 0, .int .i64 0, .int .i64 0, .sl 0 true .exact []], none⟩,
  ⟨none, .store 4 (.s 13) (.s 39) 13 false, none⟩,
  ⟨some 14, .mv (.s 40), none⟩] [7, 11, 13, 14])
 (.seq (.region [⟨some 41, .mv (.s 11), none⟩,
  ⟨some 42, .load 4 true (.s 13) 13 false, none⟩,
  ⟨some 43, .mv (.s 14), none⟩,
  ⟨some 6, .mv (.s 41), none⟩,
  ⟨none, .store 4 (.s 7) (.s 42) 7 false, none⟩,
  ⟨some 8, .mv (.s 43), none⟩] [6, 7, 8])
 .ret)))))) }

/-- transaction.room -/
def g12 : GFun :=
 { nparams := 1, keepHeap := false, results := [.inl 2], body :=
 (.seq (.region [⟨some 2, .mv (.c (.niliface)), none⟩] [0])
 (.seq (.region [⟨some 6, .mv (.s 0), none⟩,
  ⟨some 7, .nilCheck (.s 6), none⟩,
  ⟨some 8, .fieldAddr (.s 7) 0, none⟩,
  ⟨some 9, .load 2 true (.s 8) 0 true, none⟩,
  ⟨some 10, .mv (.s 0), none⟩,
  ⟨some 11, .nilCheck (.s 10), none⟩,
  ⟨some 12, .fieldAddr (.s 11) 5, none⟩,
  ⟨some 13, .load 1 true (.s 12) 0 true, none⟩,
  ⟨some 14, .mv (.s 0), none⟩,
  ⟨some 15, .nilCheck (.s 14), none⟩,
  ⟨some 16, .fieldAddr (.s 15) 7, none⟩,
  ⟨some 17, .load 1 false (.s 16) 0 true, none⟩,
  ⟨some 18, .call (.fn 25) [(.s 9), (.c (.int .i64 1)), (.s 13), (.s 17)] false, none⟩,
  ⟨some 5, .mv (.s 18), none⟩,
  ⟨some 19, .extract (.s 5) 0, none⟩,
  ⟨some 20, .extract (.s 5) 1, none⟩,
  ⟨some 3, .alloc [.sl 0 true .exact []], none⟩,
  ⟨none, .store 1 (.s 3) (.s 19) 3 false, none⟩,
  ⟨some 4, .mv (.s 20), none⟩] [4])
 (.seq (.seq (.region [⟨some 21, .mv (.s 4), none⟩,
  ⟨some 22, .bin .eql (.s 21) (.c (.int .i64 2)), none⟩] [4, 22])
 (.cond (.s 22) (.seq (.region [⟨some 23, .build [.int .i64 0, .int .i64 0, .int .i64 0, .sl 0 true .exact []] [(0, 1, (.c (.int .i64 6)))], none⟩,
  ⟨some 24, .build [.int .i64 0, .int .i64 0, .int .i64 0, .sl 0 true .exact []] [(0, 4, (.s 23))], none⟩,
  ⟨some 25, .mkIface 96 (.s 24), none⟩,
  ⟨some 2, .mv (.s 25), none⟩] [2])
 .ret)
 .skip))
 (.seq (.seq (.region [⟨some 26, .mv (.s 4), none⟩,
  ⟨some 27, .bin .neq (.s 26) (.c (.int .i64 0)), none⟩] [4, 27])
 (.cond (.s 27) (.seq (.region [⟨some 28, .mv (.s 4), none⟩,
  ⟨some 29, .mkIface 41 (.s 28), none⟩,
  ⟨some 2, .mv (.s 29), none⟩] [2])
 .ret)
 .skip))
 (.seq (.region [⟨some 2, .mv (.c (.niliface)), none⟩] [2])
 .ret))))) }

/-- transaction.permitted -/
def g13 : GFun :=
 { nparams := 1, keepHeap := false, results := [.inl 2], body :=
 (.seq (.region [⟨some 2, .mv (.c (.niliface)), none⟩] [0])
 (.seq (.region [⟨some 6, .mv (.s 0), none⟩,
  ⟨some 7, .nilCheck (.s 6), none⟩,
  ⟨some 8, .fieldAddr (.s 7) 0, none⟩,
  ⟨some 9, .load 2 true (.s 8) 0 true, none⟩,
  ⟨some 10, .mv (.s 0), none⟩,
  ⟨some 11, .nilCheck (.s 10), none⟩,
  ⟨some 12, .fieldAddr (.s 11) 2, none⟩,
  ⟨some 13, .load 2 true (.s 12) 0 true, none⟩,
  ⟨some 14, .mv (.s 0), none⟩,
  ⟨some 15, .nilCheck (.s 14), none⟩,
  ⟨some 16, .fieldAddr (.s 15) 4, none⟩,
  ⟨some 17, .load 1 false (.s 16) 0 true, none⟩,
  ⟨some 18, .mv (.s 0), none⟩,
  ⟨some 19, .nilCheck (.s 18), none⟩,
  ⟨some 20, .fieldAddr (.s 19) 5, none⟩,
  ⟨some 21, .load 1 true (.s 20) 0 true, none⟩,
  ⟨some 22, .mv (.s 0), none⟩,
  ⟨some 23, .nilCheck (.s 22), none⟩,
  ⟨some 24, .fieldAddr (.s 23) 7, none⟩,
  ⟨some 25, .load 1 false (.s 24) 0 true, none⟩,
  ⟨some 26, .call (.fn 26) [(.s 9), (.s 13), (.s 17), (.s 21), (.s 25)] false, none⟩,
  ⟨some 5, .mv (.s 26), none⟩,
  ⟨some 27, .extract (.s 5) 0, none⟩,
  ⟨some 28, .extract (.s 5) 1, none⟩,
  ⟨some 3, .mv (.s 27), none⟩,
  ⟨some 4, .mv (.s 28), none⟩] [3, 4])
 (.seq (.seq (.region [⟨some 29, .mv (.s 4), none⟩,
  ⟨some 30, .bin .neq (.s 29) (.c (.int .i64 0)), none⟩] [3, 4, 30])
 (.cond (.s 30) (.seq (.region [⟨some 31, .mv (.s 4), none⟩,
  ⟨some 32, .mkIface 41 (.s 31), none⟩,
  ⟨some 2, .mv (.s 32), none⟩] [2])
 .ret)
 .skip))
 (.seq (.seq (.region [⟨some 33, .mv (.s 3), none⟩,
  ⟨some 34, .len (.s 33) .l false, none⟩,
  ⟨some 35, .bin .gtr (.s 34) (.c (.int .i64 0)), none⟩] [3, 35])
 (.cond (.s 35) (.seq (.region [⟨some 36, .mv (.s 3), none⟩,
  ⟨some 37, .indexSl (.s 36) (.c (.int .i64 0)) 5, none⟩,
  ⟨some 38, .fieldAddr (.s 37) 2, none⟩,
  ⟨some 39, .load 1 false (.s 38) 0 true, none⟩,
  ⟨some 40, .mv (.s 3), none⟩,
  ⟨some 41, .indexSl (.s 40) (.c (.int .i64 0)) 5, none⟩,
  ⟨some 42, .fieldAddr (.s 41) 3, none⟩,
  ⟨some 43, .load 1 false (.s 42) 0 true, none⟩,
  ⟨some 44, .call (.fn 27) [(.c (.int .i64 7)), (.c (.int .i64 0)), (.s 39), (.s 43)] false, none⟩,
  ⟨some 2, .mv (.s 44), none⟩] [2])
 .ret)
 .skip))
 (.seq (.region [⟨some 2, .mv (.c (.niliface)), none⟩] [2])
 .ret))))) }

/-- transaction.consistent -/
def g14 : GFun :=
 { nparams := 1, keepHeap := false, results := [.inl 2], body :=
 (.seq (.region [⟨some 2, .mv (.c (.niliface)), none⟩] [0])
 (.seq (.region [⟨some 9, .mv (.s 0), none⟩,
  ⟨some 10, .nilCheck (.s 9), none⟩,
  ⟨some 11, .fieldAddr (.s 10) 0, none⟩,
  ⟨some 12, .load 2 true (.s 11) 0 true, none⟩,
  ⟨some 13, .mv (.s 0), none⟩,
  ⟨some 14, .nilCheck (.s 13), none⟩,
  ⟨some 15, .fieldAddr (.s 14) 5, none⟩,
  ⟨some 16, .load 1 true (.s 15) 0 true, none⟩,
  ⟨some 17, .mv (.s 0), none⟩,
  ⟨some 18, .nilCheck (.s 17), none⟩,
  ⟨some 19, .fieldAddr (.s 18) 7, none⟩,
  ⟨some 20, .load 1 false (.s 19) 0 true, none⟩,
  ⟨some 21, .call (.fn 28) [(.s 12), (.s 16), (.s 20)] false, none⟩,
  ⟨some 8, .mv (.s 21), none⟩,
  ⟨some 22, .extract (.s 8) 0, none⟩,
  ⟨some 23, .extract (.s 8) 1, none⟩,
  ⟨some 3, .mv (.s 22), none⟩,
  ⟨some 4, .mv (.s 23), none⟩] [0, 3, 4])
 (.seq (.seq (.region [⟨some 24, .mv (.s 4), none⟩,
  ⟨some 25, .bin .neq (.s 24) (.c (.int .i64 0)), none⟩] [0, 3, 4, 25])
 (.cond (.s 25) (.seq (.region [⟨some 26, .mv (.s 4), none⟩,
  ⟨some 27, .mkIface 41 (.s 26), none⟩,
  ⟨some 2, .mv (.s 27), none⟩] [2])
 .ret)
 .skip))
 (.seq (.seq (.region [⟨some 28, .mv (.s 3), none⟩,
  ⟨some 29, .len (.s 28) .l false, none⟩,
  ⟨some 30, .bin .eql (.s 29) (.c (.int .i64 0)), none⟩] [0, 3, 30])
 (.cond (.s 30) (.seq (.region [⟨some 2, .mv (.c (.niliface)), none⟩] [2])
 .ret)
 .skip))
 (.seq (.region [⟨some 31, .mv (.s 3), none⟩,
  ⟨some 32, .indexSl (.s 31) (.c (.int .i64 0)) 4, none⟩,
  ⟨some 33, .fieldAddr (.s 32) 0, none⟩,
  ⟨some 34, .load 1 false (.s 33) 0 true, none⟩,
  ⟨some 35, .bin .mul (.c (.int .i64 10)) (.s 34), none⟩,
  ⟨some 36, .mv (.s 3), none⟩,
  ⟨some 37, .indexSl (.s 36) (.c (.int .i64 0)) 4, none⟩,
  ⟨some 38, .fieldAddr (.s 37) 3, none⟩,
  ⟨some 39, .load 1 false (.s 38) 0 true, none⟩,
  ⟨some 40, .bin .add (.s 35) (.s 39), none⟩,
  ⟨some 5, .mv (.s 40), none⟩] [0, 3, 5])
 (.seq (.seq (.region [⟨some 41, .mv (.s 0), none⟩,
  ⟨some 42, .nilCheck (.s 41), none⟩,
  ⟨some 43, .fieldAddr (.s 42) 6, none⟩,
  ⟨some 44, .load 1 false (.s 43) 0 true, none⟩,
  ⟨some 45, .len (.s 44) .l false, none⟩,
  ⟨some 46, .mv (.c (.int .i64 0)), none⟩] [3, 5, 44, 45, 46])
 (.block 0 (.loop [3, 5, 44, 45, 46] (.seq (.region [⟨some 47, .bin .lss (.s 46) (.s 45), none⟩] [3, 5, 44, 45, 46, 47])
 (.seq (.cond (.s 47) .skip
 (.exit 0))
 (.seq (.block 1 (.seq (.region [⟨some 48, .indexSl (.s 44) (.s 46) 5, none⟩,
  ⟨some 49, .load 5 true (.s 48) 0 true, none⟩,
  ⟨some 7, .alloc [.int .i64 0, .int .i64 0, .sl 0 true .exact [], .sl 0 true .exact [], .sl 0 true .exact []], none⟩,
  ⟨none, .store 5 (.s 7) (.s 49) 7 false, none⟩] [3, 5, 7, 44, 45, 46])
 (.seq (.region [⟨some 50, .fieldAddr (.s 7) 1, none⟩,
  ⟨some 51, .load 1 false (.s 50) 7 false, none⟩,
  ⟨some 52, .mv (.s 3), none⟩,
  ⟨some 53, .indexSl (.s 52) (.c (.int .i64 0)) 4, none⟩,
  ⟨some 54, .fieldAddr (.s 53) 1, none⟩,
  ⟨some 55, .load 1 false (.s 54) 0 true, none⟩,
  ⟨some 56, .bin .eql (.s 51) (.s 55), none⟩,
  ⟨some 57, .mv (.s 56), none⟩,
  ⟨some 58, .fieldAddr (.s 7) 2, some (57, true)⟩,
  ⟨some 59, .load 1 false (.s 58) 7 false, some (57, true)⟩,
  ⟨some 60, .mv (.s 3), some (57, true)⟩,
  ⟨some 61, .indexSl (.s 60) (.c (.int .i64 0)) 4, some (57, true)⟩,
  ⟨some 62, .fieldAddr (.s 61) 2, some (57, true)⟩,
  ⟨some 63, .load 1 false (.s 62) 0 true, some (57, true)⟩,
  ⟨some 64, .call (.fn 29) [(.s 59), (.s 63)] false, some (57, true)⟩,
  ⟨some 65, .bin .eql (.s 64) (.c (.int .i64 0)), some (57, true)⟩,
  ⟨some 66, .pick (.s 57) (.s 65) (.c (.bool false)), none⟩] [3, 5, 7, 44, 45, 46, 66])
 (.cond (.s 66) (.seq (.region [⟨some 67, .mv (.s 5), none⟩,
  ⟨some 68, .fieldAddr (.s 7) 1, none⟩,
  ⟨some 69, .load 1 false (.s 68) 7 false, none⟩,
  ⟨some 70, .fieldAddr (.s 7) 2, none⟩,
  ⟨some 71, .load 1 false (.s 70) 7 false, none⟩,
  ⟨some 72, .call (.fn 27) [(.c (.int .i64 8)), (.s 67), (.s 69), (.s 71)] false, none⟩,
  ⟨some 2, .mv (.s 72), none⟩] [2])
 .ret)
 .skip))))
 (.region [⟨some 73, .bin .add (.s 46) (.c (.int .i64 1)), none⟩,
  ⟨some 46, .mv (.s 73), none⟩] [3, 5, 44, 45, 46])))))))
 (.seq (.region [⟨some 74, .mv (.s 5), none⟩,
  ⟨some 75, .call (.fn 27) [(.c (.int .i64 8)), (.s 74), (.c (.int .i64 0)), (.c (.sl 0 true .exact []))] false, none⟩,
  ⟨some 2, .mv (.s 75), none⟩] [2])
 .ret))))))) }

/-- transaction.taken -/
def g15 : GFun :=
 { nparams := 1, keepHeap := false, results := [.inr (2, 4, true), .inl 3], body :=
 (.seq (.region [⟨some 2, .alloc [.int .i64 0, .int .i64 0, .int .i64 0, .sl 0 true .exact []], none⟩,
  ⟨some 3, .mv (.c (.int .i64 0)), none⟩] [0, 2])
 (.seq (.seq (.region [⟨some 6, .mv (.s 0), none⟩] [2, 6])
 (.block 0 (.seq (.region [⟨some 7, .assertTo (.s 6) [(9, false), (41, false), (96, true)] true (.niliface) true, none⟩,
  ⟨some 8, .extract (.s 7) 1, none⟩,
  ⟨some 9, .extract (.s 7) 0, none⟩] [2, 6, 8, 9])
 (.cond (.s 8) (.seq (.region [⟨some 4, .mv (.s 9), none⟩] [2, 4])
 (.seq (.region [⟨some 10, .mv (.s 4), none⟩,
  ⟨some 11, .call (.inv (.s 10) [(96, 212)]) [] false, none⟩,
  ⟨none, .store 4 (.s 2) (.s 11) 2 false, none⟩,
  ⟨some 3, .mv (.c (.int .i64 0)), none⟩] [2, 3])
 .ret))
 (.seq (.region [⟨some 12, .assertTo (.s 6) [(41, true)] false (.int .i64 0) true, none⟩,
  ⟨some 13, .extract (.s 12) 1, none⟩,
  ⟨some 14, .extract (.s 12) 0, none⟩] [2, 13, 14])
 (.cond (.s 13) (.seq (.region [⟨some 5, .mv (.s 14), none⟩] [2, 5])
 (.seq (.region [⟨some 15, .build [.int .i64 0, .int .i64 0, .int .i64 0, .sl 0 true .exact []] [], none⟩,
  ⟨some 16, .mv (.s 5), none⟩,
  ⟨none, .store 4 (.s 2) (.s 15) 2 false, none⟩,
  ⟨some 3, .mv (.s 16), none⟩] [2, 3])
 .ret))
 .skip))))))
 (.seq (.region [⟨some 17, .build [.int .i64 0, .int .i64 0, .int .i64 0, .sl 0 true .exact []] [], none⟩,
  ⟨none, .store 4 (.s 2) (.s 17) 2 false, none⟩,
  ⟨some 3, .mv (.c (.int .i64 0)), none⟩] [2, 3])
 .ret))) }

/-- schema.Check -/
def g16 : GFun :=
 { nparams := 1, keepHeap := false, results := [.inl 2], body :=
 (.seq (.region [⟨some 1, .box (.s 0), none⟩,
  ⟨some 2, .mv (.c (.int .i64 0)), none⟩] [1])
 (.seq (.seq (.region [⟨some 8, .load 2 true (.s 1) 1 false, none⟩,
  ⟨some 9, .call (.fn 30) [(.s 8)] false, none⟩,
  ⟨some 10, .un .not (.s 9), none⟩] [1, 10])
 (.cond (.s 10) (.seq (.region [⟨some 2, .mv (.c (.int .i64 2)), none⟩] [2])
 .ret)
 .skip))
 (.seq (.seq (.region [⟨some 11, .load 2 true (.s 1) 1 false, none⟩,
  ⟨some 12, .call (.fn 31) [(.s 11)] false, none⟩,
  ⟨some 13, .un .not (.s 12), none⟩] [1, 13])
 (.cond (.s 13) (.seq (.region [⟨some 2, .mv (.c (.int .i64 70)), none⟩] [2])
 .ret)
 .skip))
 (.seq (.seq (.region [⟨some 14, .fieldAddr (.s 1) 1, none⟩,
  ⟨some 15, .load 1 false (.s 14) 1 false, none⟩,
  ⟨some 16, .len (.s 15) .l false, none⟩,
  ⟨some 17, .mv (.c (.int .i64 0)), none⟩] [1, 15, 16, 17])
 (.block 0 (.loop [1, 15, 16, 17] (.seq (.region [⟨some 18, .bin .lss (.s 17) (.s 16), none⟩] [1, 15, 16, 17, 18])
 (.seq (.cond (.s 18) .skip
 (.exit 0))
 (.seq (.block 1 (.seq (.region [⟨some 19, .mv (.s 17), none⟩,
  ⟨some 20, .indexSl (.s 15) (.s 17) 5, none⟩,
  ⟨some 21, .load 5 true (.s 20) 0 true, none⟩,
  ⟨some 4, .alloc [.str [], .sl 0 true .exact [], .int .i64 0, .sl 0 true .exact [], .sl 0 true .exact []], none⟩,
  ⟨some 3, .mv (.s 19), none⟩,
  ⟨none, .store 5 (.s 4) (.s 21) 4 false, none⟩] [1, 3, 4, 15, 16, 17])
 (.seq (.region [⟨some 22, .fieldAddr (.s 4) 4, none⟩,
  ⟨some 23, .load 1 false (.s 22) 4 false, none⟩,
  ⟨some 24, .len (.s 23) .l false, none⟩,
  ⟨some 25, .mv (.c (.int .i64 0)), none⟩] [1, 3, 15, 16, 17, 23, 24, 25])
 (.block 2 (.loop [1, 3, 15, 16, 17, 23, 24, 25] (.seq (.region [⟨some 26, .bin .lss (.s 25) (.s 24), none⟩] [1, 3, 15, 16, 17, 23, 24, 25, 26])
 (.seq (.cond (.s 26) .skip
 (.exit 2))
 (.seq (.block 3 (.seq (.region [⟨some 27, .indexSl (.s 23) (.s 25) 13, none⟩,
  ⟨some 28, .load 13 true (.s 27) 0 true, none⟩,
  ⟨some 6, .alloc [.int .i64 0, .int .i64 0, .int .i64 0, .int .i64 0, .int .i64 0, .int .i64 0, .str [], .int .i64 0, .int .i64 0, .int .i64 0, .int .i64 0, .str [], .sl 0 true .exact []], none⟩,
  ⟨none, .store 13 (.s 6) (.s 28) 6 false, none⟩] [1, 3, 6, 15, 16, 17, 23, 24, 25])
 (.seq (.region [⟨some 29, .load 2 true (.s 1) 1 false, none⟩,
  ⟨some 30, .mv (.s 3), none⟩,
  ⟨some 31, .call (.fn 33) [(.s 29), (.s 30)] false, none⟩,
  ⟨some 32, .load 13 true (.s 6) 6 false, none⟩,
  ⟨some 33, .call (.fn 32) [(.s 31), (.c (.sl 0 true .exact [])), (.s 32)] false, none⟩,
  ⟨some 7, .mv (.s 33), none⟩] [1, 3, 7, 15, 16, 17, 23, 24, 25])
 (.seq (.region [⟨some 34, .mv (.s 7), none⟩,
  ⟨some 35, .bin .neq (.s 34) (.c (.int .i64 0)), none⟩] [1, 3, 7, 15, 16, 17, 23, 24, 25, 35])
 (.cond (.s 35) (.seq (.region [⟨some 36, .mv (.s 7), none⟩,
  ⟨some 2, .mv (.s 36), none⟩] [2])
 .ret)
 .skip)))))
 (.region [⟨some 37, .bin .add (.s 25) (.c (.int .i64 1)), none⟩,
  ⟨some 25, .mv (.s 37), none⟩] [1, 3, 15, 16, 17, 23, 24, 25])))))))))
 (.region [⟨some 38, .bin .add (.s 17) (.c (.int .i64 1)), none⟩,
  ⟨some 17, .mv (.s 38), none⟩] [1, 15, 16, 17])))))))
 (.seq (.region [⟨some 2, .mv (.c (.int .i64 0)), none⟩] [2])
 .ret))))) }

/-- query.Check -/
def g18 : GFun :=
 { nparams := 3, keepHeap := false, results := [.inr (6, 1, false), .inr (7, 1, false)], body :=
 (.seq (.region [⟨some 3, .hbox (.s 0), none⟩,
  ⟨some 4, .hbox (.s 1), none⟩,
  ⟨some 5, .hbox (.s 2), none⟩,
  ⟨some 6, .halloc [.sl 0 true .exact []], none⟩,
  ⟨some 7, .halloc [.int .i64 0], none⟩] [3, 4, 5, 6, 7])
 (.seq (.seq (.region [⟨some 17, .load 2 true (.s 3) 0 true, none⟩,
  ⟨some 18, .call (.fn 16) [(.s 17)] false, none⟩,
  ⟨some 8, .mv (.s 18), none⟩] [3, 4, 5, 6, 7, 8])
 (.seq (.region [⟨some 19, .mv (.s 8), none⟩,
  ⟨some 20, .bin .neq (.s 19) (.c (.int .i64 0)), none⟩] [3, 4, 5, 6, 7, 8, 20])
 (.cond (.s 20) (.seq (.region [⟨some 21, .mv (.s 8), none⟩,
  ⟨none, .store 1 (.s 6) (.c (.sl 0 true .exact [])) 0 true, none⟩,
  ⟨none, .store 1 (.s 7) (.s 21) 0 true, none⟩] [6, 7])
 .ret)
 .skip)))
 (.seq (.seq (.region [⟨some 22, .load 1 false (.s 4) 0 true, none⟩,
  ⟨some 23, .build [.int .i64 0, .int .i64 0, .int .i64 0, .int .i64 0, .int .i64 0, .int .i64 0, .str [], .int .i64 0, .int .i64 0, .int .i64 0, .int .i64 0, .str [], .sl 0 true .exact []] [(0, 1, (.c (.int .i64 1)))], none⟩,
  ⟨some 24, .call (.fn 32) [(.c (.sl 0 true .exact [])), (.s 22), (.s 23)] false, none⟩,
  ⟨some 9, .mv (.s 24), none⟩] [3, 4, 5, 6, 7, 9])
 (.seq (.region [⟨some 25, .mv (.s 9), none⟩,
  ⟨some 26, .bin .neq (.s 25) (.c (.int .i64 0)), none⟩] [3, 4, 5, 6, 7, 9, 26])
 (.cond (.s 26) (.seq (.region [⟨some 27, .mv (.s 9), none⟩,
  ⟨none, .store 1 (.s 6) (.c (.sl 0 true .exact [])) 0 true, none⟩,
  ⟨none, .store 1 (.s 7) (.s 27) 0 true, none⟩] [6, 7])
 .ret)
 .skip)))
 (.seq (.region [⟨some 10, .halloc [.int .i64 0], none⟩,
  ⟨none, .store 1 (.s 10) (.c (.int .i64 0)) 0 true, none⟩] [3, 4, 5, 6, 7, 10])
 (.seq (.seq (.region [⟨some 28, .load 21 true (.s 5) 0 true, none⟩,
  ⟨some 29, .call (.fn 34) [(.s 28), (.c (.int .i64 1)), (.s 10)] false, none⟩,
  ⟨some 30, .un .not (.s 29), none⟩] [3, 4, 5, 6, 7, 30])
 (.cond (.s 30) (.seq (.region [⟨none, .store 1 (.s 6) (.c (.sl 0 true .exact [])) 0 true, none⟩,
  ⟨none, .store 1 (.s 7) (.c (.int .i64 2)) 0 true, none⟩] [6, 7])
 .ret)
 .skip))
 (.seq (.region [⟨some 31, .call (.fn 35) [] false, none⟩,
  ⟨some 11, .halloc [.nilfunc, .nilfunc, .nilfunc], none⟩,
  ⟨none, .store 3 (.s 11) (.s 31) 0 true, none⟩] [3, 4, 5, 6, 7, 11])
 (.seq (.region [⟨some 12, .halloc [.sl 0 true .exact []], none⟩] [3, 4, 5, 6, 7, 11, 12])
 (.seq (.seq (.region [⟨some 32, .load 21 true (.s 5) 0 true, none⟩,
  ⟨some 33, .call (.fn 36) [(.s 32)] false, none⟩] [3, 4, 6, 7, 11, 12, 33])
 (.block 0 (.rangeFunc (.s 33) [34] (.region [⟨some 13, .halloc [.int .i64 0, .int .i64 0, .int .i64 0, .int .i64 0, .int .i64 0, .int .i64 0, .int .i64 0, .int .i64 0, .str [], .int .i64 0, .int .i64 0, .int .i64 0, .int .i64 0, .str [], .sl 0 true .exact [], .sl 0 true .exact [], .sl 0 true .exact [], .sl 0 true .exact [], .sl 0 true .exact [], .int .i64 0, .sl 0 true .exact []], none⟩,
  ⟨none, .store 21 (.s 13) (.s 34) 0 true, none⟩] [3, 4, 6, 7, 11, 12, 13]) (.block 1 (.seq (.region [⟨some 35, .load 1 false (.s 12) 0 true, none⟩,
  ⟨some 36, .load 1 false (.s 12) 0 true, none⟩,
  ⟨some 37, .len (.s 36) .l false, none⟩,
  ⟨some 38, .fieldAddr (.s 13) 20, none⟩,
  ⟨some 39, .load 1 false (.s 38) 0 true, none⟩,
  ⟨some 40, .len (.s 39) .l false, none⟩,
  ⟨some 41, .bin .sub (.s 37) (.s 40), none⟩,
  ⟨some 42, .slice false (.s 35) (some (.s 41)) none none 1, none⟩,
  ⟨some 14, .mv (.s 42), none⟩] [3, 4, 6, 7, 11, 12, 13, 14])
 (.seq (.region [⟨some 43, .load 1 false (.s 12) 0 true, none⟩,
  ⟨some 44, .load 1 false (.s 12) 0 true, none⟩,
  ⟨some 45, .len (.s 44) .l false, none⟩,
  ⟨some 46, .fieldAddr (.s 13) 20, none⟩,
  ⟨some 47, .load 1 false (.s 46) 0 true, none⟩,
  ⟨some 48, .len (.s 47) .l false, none⟩,
  ⟨some 49, .bin .sub (.s 45) (.s 48), none⟩,
  ⟨some 50, .slice false (.s 43) none (some (.s 49)) none 1, none⟩,
  ⟨none, .store 1 (.s 12) (.s 50) 0 true, none⟩] [3, 4, 6, 7, 11, 12, 13, 14])
 (.seq (.seq (.region [⟨some 51, .fieldAddr (.s 13) 0, none⟩,
  ⟨some 52, .load 1 false (.s 51) 0 true, none⟩,
  ⟨some 53, .call (.fn 37) [(.s 52)] true, none⟩,
  ⟨some 54, .fieldAddr (.s 13) 20, none⟩,
  ⟨some 55, .load 1 false (.s 54) 0 true, none⟩,
  ⟨some 56, .len (.s 55) .l false, none⟩,
  ⟨some 57, .bin .neq (.s 53) (.s 56), none⟩] [3, 4, 6, 7, 11, 12, 13, 14, 57])
 (.cond (.s 57) (.seq (.region [⟨none, .store 1 (.s 6) (.c (.sl 0 true .exact [])) 0 true, none⟩,
  ⟨none, .store 1 (.s 7) (.c (.int .i64 100)) 0 true, none⟩] [])
 .ret)
 .skip))
 (.seq (.region [⟨some 59, .fieldAddr (.s 13) 20, none⟩,
  ⟨some 60, .load 1 false (.s 59) 0 true, none⟩,
  ⟨some 61, .len (.s 60) .l false, none⟩,
  ⟨some 62, .indexArr (.s 11) (.s 61) 3 1, none⟩,
  ⟨some 63, .load 1 false (.s 62) 0 true, none⟩,
  ⟨some 64, .load 2 true (.s 3) 0 true, none⟩,
  ⟨some 65, .load 1 false (.s 4) 0 true, none⟩,
  ⟨some 66, .load 21 true (.s 13) 0 true, none⟩,
  ⟨some 67, .call (.fn 38) [(.s 66)] true, none⟩,
  ⟨some 68, .mv (.s 14), none⟩,
  ⟨some 69, .build [.int .i64 0, .sl 0 true .exact [], .sl 0 true .exact [], .int .i64 0, .int .i64 0, .int .i64 0, .int .i64 0, .int .i64 0, .int .i64 0, .int .i64 0, .int .i64 0, .str [], .int .i64 0, .int .i64 0, .int .i64 0, .int .i64 0, .str [], .sl 0 true .exact [], .sl 0 true .exact [], .sl 0 true .exact [], .sl 0 true .exact [], .sl 0 true .exact [], .int .i64 0, .int .i64 0, .int .i64 0, .sl 0 true .exact []] [(0, 2, (.s 64)), (2, 1, (.s 65)), (3, 22, (.s 67)), (25, 1, (.s 68))], none⟩,
  ⟨some 70, .call (.val (.s 63)) [(.s 69)] false, none⟩,
  ⟨some 58, .mv (.s 70), none⟩,
  ⟨some 71, .extract (.s 58) 0, none⟩,
  ⟨some 72, .extract (.s 58) 1, none⟩,
  ⟨some 15, .mv (.s 71), none⟩,
  ⟨some 16, .mv (.s 72), none⟩] [6, 7, 12, 15, 16])
 (.seq (.seq (.region [⟨some 73, .mv (.s 16), none⟩,
  ⟨some 74, .bin .neq (.s 73) (.c (.int .i64 0)), none⟩] [6, 7, 12, 15, 16, 74])
 (.cond (.s 74) (.seq (.region [⟨some 75, .mv (.s 16), none⟩,
  ⟨none, .store 1 (.s 6) (.c (.sl 0 true .exact [])) 0 true, none⟩,
  ⟨none, .store 1 (.s 7) (.s 75) 0 true, none⟩] [])
 .ret)
 .skip))
 (.region [⟨some 76, .loadTake (.s 12) 0 true, none⟩,
  ⟨some 77, .mv (.s 15), none⟩,
  ⟨some 78, .bsl 1 1 [.sl 0 true .exact []] [(0, (.s 77))] false, none⟩,
  ⟨some 79, .append (.s 76) (.s 78) 1 24 true true, none⟩,
  ⟨none, .storeTake (.s 12) 79 0 true, none⟩] []))))))))))
 (.seq (.region [⟨some 80, .load 1 false (.s 12) 0 true, none⟩,
  ⟨some 81, .indexSl (.s 80) (.c (.int .i64 0)) 1, none⟩,
  ⟨some 82, .load 1 false (.s 81) 0 true, none⟩,
  ⟨none, .store 1 (.s 6) (.s 82) 0 true, none⟩,
  ⟨none, .store 1 (.s 7) (.c (.int .i64 0)) 0 true, none⟩] [6, 7])
 .ret))))))))) }

/-- slices.Equal[[]int,int] -/
def g19 : GFun :=
 { nparams := 2, keepHeap := false, results := [.inl 4], body :=
 (.seq (.region [⟨some 4, .mv (.c (.bool false)), none⟩] [0, 1])
 (.seq (.seq (.region [⟨some 6, .mv (.s 0), none⟩,
  ⟨some 7, .len (.s 6) .l false, none⟩,
  ⟨some 8, .mv (.s 1), none⟩,
  ⟨some 9, .len (.s 8) .l false, none⟩,
  ⟨some 10, .bin .neq (.s 7) (.s 9), none⟩] [0, 1, 10])
 (.cond (.s 10) (.seq (.region [⟨some 4, .mv (.c (.bool false)), none⟩] [4])
 .ret)
 .skip))
 (.seq (.seq (.region [⟨some 11, .mv (.s 0), none⟩,
  ⟨some 12, .len (.s 11) .l false, none⟩,
  ⟨some 13, .mv (.c (.int .i64 0)), none⟩] [0, 1, 12, 13])
 (.block 0 (.loop [0, 1, 12, 13] (.seq (.region [⟨some 14, .bin .lss (.s 13) (.s 12), none⟩] [0, 1, 12, 13, 14])
 (.seq (.cond (.s 14) .skip
 (.exit 0))
 (.seq (.block 1 (.seq (.region [⟨some 15, .mv (.s 13), none⟩,
  ⟨some 5, .mv (.s 15), none⟩] [0, 1, 5, 12, 13])
 (.seq (.region [⟨some 16, .mv (.s 0), none⟩,
  ⟨some 17, .mv (.s 5), none⟩,
  ⟨some 18, .indexSl (.s 16) (.s 17) 1, none⟩,
  ⟨some 19, .load 1 false (.s 18) 0 true, none⟩,
  ⟨some 20, .mv (.s 1), none⟩,
  ⟨some 21, .mv (.s 5), none⟩,
  ⟨some 22, .indexSl (.s 20) (.s 21) 1, none⟩,
  ⟨some 23, .load 1 false (.s 22) 0 true, none⟩,
  ⟨some 24, .bin .neq (.s 19) (.s 23), none⟩] [0, 1, 12, 13, 24])
 (.cond (.s 24) (.seq (.region [⟨some 4, .mv (.c (.bool false)), none⟩] [4])
 .ret)
 .skip))))
 (.region [⟨some 25, .bin .add (.s 13) (.c (.int .i64 1)), none⟩,
  ⟨some 13, .mv (.s 25), none⟩] [0, 1, 12, 13])))))))
 (.seq (.region [⟨some 4, .mv (.c (.bool true)), none⟩] [4])
 .ret)))) }

/-- schema.KeyKinds -/
def g20 : GFun :=
 { nparams := 2, keepHeap := false, results := [.inl 4], body :=
 (.seq (.region [⟨some 2, .box (.s 0), none⟩,
  ⟨some 4, .mv (.c (.sl 0 true .exact [])), none⟩] [1, 2])
 (.seq (.region [⟨some 6, .load 2 true (.s 2) 2 false, none⟩,
  ⟨some 7, .mv (.s 1), none⟩,
  ⟨some 8, .call (.fn 33) [(.s 6), (.s 7)] false, none⟩,
  ⟨some 5, .mv (.s 8), none⟩] [1, 2, 5])
 (.seq (.seq (.region [⟨some 9, .load 2 true (.s 2) 2 false, none⟩,
  ⟨some 10, .mv (.s 1), none⟩,
  ⟨some 11, .call (.fn 39) [(.s 9), (.s 10)] false, none⟩,
  ⟨some 12, .un .not (.s 11), none⟩,
  ⟨some 13, .mv (.s 12), none⟩,
  ⟨some 14, .fieldAddr (.s 2) 1, some (13, false)⟩,
  ⟨some 15, .load 1 false (.s 14) 2 false, some (13, false)⟩,
  ⟨some 16, .mv (.s 1), some (13, false)⟩,
  ⟨some 17, .indexSl (.s 15) (.s 16) 5, some (13, false)⟩,
  ⟨some 18, .fieldAddr (.s 17) 2, some (13, false)⟩,
  ⟨some 19, .load 1 false (.s 18) 0 true, some (13, false)⟩,
  ⟨some 20, .bin .lss (.s 19) (.c (.int .i64 0)), some (13, false)⟩,
  ⟨some 21, .pick (.s 13) (.c (.bool true)) (.s 20), none⟩] [1, 2, 5, 21])
 (.cond (.s 21) (.seq (.region [⟨some 4, .mv (.c (.sl 0 true .exact [])), none⟩] [4])
 .ret)
 .skip))
 (.seq (.region [⟨some 22, .mv (.s 5), none⟩,
  ⟨some 23, .mv (.s 5), none⟩,
  ⟨some 24, .len (.s 23) .l false, none⟩,
  ⟨some 25, .fieldAddr (.s 2) 1, none⟩,
  ⟨some 26, .load 1 false (.s 25) 2 false, none⟩,
  ⟨some 27, .mv (.s 1), none⟩,
  ⟨some 28, .indexSl (.s 26) (.s 27) 5, none⟩,
  ⟨some 29, .fieldAddr (.s 28) 2, none⟩,
  ⟨some 30, .load 1 false (.s 29) 0 true, none⟩,
  ⟨some 31, .minmax false [(.s 24), (.s 30)], none⟩,
  ⟨some 32, .slice false (.s 22) none (some (.s 31)) none 1, none⟩,
  ⟨some 4, .mv (.s 32), none⟩] [4])
 .ret)))) }

/-- value.Valid -/
def g21 : GFun :=
 { nparams := 1, keepHeap := false, results := [.inl 2], body :=
 (.seq (.region [⟨some 1, .box (.s 0), none⟩,
  ⟨some 2, .mv (.c (.bool false)), none⟩] [1])
 (.seq (.seq (.region [⟨some 3, .fieldAddr (.s 1) 0, none⟩,
  ⟨some 4, .load 1 false (.s 3) 1 false, none⟩] [1, 4])
 (.block 0 (.seq (.seq (.region [⟨some 6, .bin .eql (.s 4) (.c (.int .i64 1)), none⟩,
  ⟨some 5, .mv (.s 6), none⟩] [1, 4, 5])
 (.cond (.s 5) .skip
 (.region [⟨some 7, .bin .eql (.s 4) (.c (.int .i64 2)), none⟩,
  ⟨some 5, .mv (.s 7), none⟩] [1, 4, 5])))
 (.cond (.s 5) (.seq (.region [⟨some 8, .load 3 true (.s 1) 1 false, none⟩,
  ⟨some 9, .fieldAddr (.s 1) 0, none⟩,
  ⟨some 10, .load 1 false (.s 9) 1 false, none⟩,
  ⟨some 11, .build [.int .i64 0, .int .i64 0, .str []] [(0, 1, (.s 10))], none⟩,
  ⟨some 12, .eqv false true [.i, .i, .s] (.s 8) (.s 11), none⟩,
  ⟨some 2, .mv (.s 12), none⟩] [2])
 .ret)
 (.seq (.region [⟨some 14, .bin .eql (.s 4) (.c (.int .i64 3)), none⟩,
  ⟨some 13, .mv (.s 14), none⟩] [1, 4, 13])
 (.cond (.s 13) (.seq (.region [⟨some 15, .fieldAddr (.s 1) 1, none⟩,
  ⟨some 16, .load 1 false (.s 15) 1 false, none⟩,
  ⟨some 17, .bin .eql (.s 16) (.c (.int .i64 0)), none⟩,
  ⟨some 18, .mv (.s 17), none⟩,
  ⟨some 19, .fieldAddr (.s 1) 1, some (18, false)⟩,
  ⟨some 20, .load 1 false (.s 19) 1 false, some (18, false)⟩,
  ⟨some 21, .bin .eql (.s 20) (.c (.int .i64 1)), some (18, false)⟩,
  ⟨some 22, .pick (.s 18) (.c (.bool true)) (.s 21), none⟩,
  ⟨some 23, .mv (.s 22), none⟩,
  ⟨some 24, .fieldAddr (.s 1) 2, some (23, true)⟩,
  ⟨some 25, .load 1 false (.s 24) 1 false, some (23, true)⟩,
  ⟨some 26, .bin .eql (.s 25) (.c (.str [])), some (23, true)⟩,
  ⟨some 27, .pick (.s 23) (.s 26) (.c (.bool false)), none⟩,
  ⟨some 2, .mv (.s 27), none⟩] [2])
 .ret)
 (.seq (.region [⟨some 29, .bin .eql (.s 4) (.c (.int .i64 4)), none⟩,
  ⟨some 28, .mv (.s 29), none⟩] [1, 4, 28])
 (.cond (.s 28) (.seq (.region [⟨some 30, .fieldAddr (.s 1) 2, none⟩,
  ⟨some 31, .load 1 false (.s 30) 1 false, none⟩,
  ⟨some 32, .bin .eql (.s 31) (.c (.str [])), none⟩,
  ⟨some 2, .mv (.s 32), none⟩] [2])
 .ret)
 (.seq (.region [⟨some 34, .bin .eql (.s 4) (.c (.int .i64 5)), none⟩,
  ⟨some 33, .mv (.s 34), none⟩] [1, 33])
 (.cond (.s 33) (.seq (.region [⟨some 35, .fieldAddr (.s 1) 1, none⟩,
  ⟨some 36, .load 1 false (.s 35) 1 false, none⟩,
  ⟨some 37, .bin .eql (.s 36) (.c (.int .i64 0)), none⟩,
  ⟨some 38, .mv (.s 37), none⟩,
  ⟨some 39, .fieldAddr (.s 1) 2, some (38, true)⟩,
  ⟨some 40, .load 1 false (.s 39) 1 false, some (38, true)⟩,
  ⟨some 41, .len (.s 40) .s false, some (38, true)⟩,
  ⟨some 42, .bin .leq (.s 41) (.c (.int .i64 64)), some (38, true)⟩,
  ⟨some 43, .pick (.s 38) (.s 42) (.c (.bool false)), none⟩,
  ⟨some 2, .mv (.s 43), none⟩] [2])
 .ret)
 .skip))))))))))
 (.seq (.region [⟨some 2, .mv (.c (.bool false)), none⟩] [2])
 .ret))) }

/-- transaction.Check -/
def g22 : GFun :=
 { nparams := 2, keepHeap := false, results := [.inl 4], body :=
 (.seq (.region [⟨some 2, .box (.s 0), none⟩,
  ⟨some 4, .mv (.c (.int .i64 0)), none⟩] [1, 2])
 (.seq (.seq (.region [⟨some 9, .load 2 true (.s 2) 2 false, none⟩,
  ⟨some 10, .call (.fn 16) [(.s 9)] false, none⟩,
  ⟨some 5, .mv (.s 10), none⟩] [1, 2, 5])
 (.seq (.region [⟨some 11, .mv (.s 5), none⟩,
  ⟨some 12, .bin .neq (.s 11) (.c (.int .i64 0)), none⟩] [1, 2, 5, 12])
 (.cond (.s 12) (.seq (.region [⟨some 13, .mv (.s 5), none⟩,
  ⟨some 4, .mv (.s 13), none⟩] [4])
 .ret)
 .skip)))
 (.seq (.seq (.region [⟨some 14, .mv (.s 1), none⟩,
  ⟨some 15, .len (.s 14) .l false, none⟩,
  ⟨some 16, .bin .gtr (.s 15) (.c (.int .i64 64)), none⟩] [1, 2, 16])
 (.cond (.s 16) (.seq (.region [⟨some 4, .mv (.c (.int .i64 2)), none⟩] [4])
 .ret)
 .skip))
 (.seq (.seq (.region [⟨some 17, .mv (.s 1), none⟩,
  ⟨some 18, .len (.s 17) .l false, none⟩,
  ⟨some 19, .mv (.c (.int .i64 0)), none⟩] [1, 2, 17, 18, 19])
 (.block 0 (.loop [1, 2, 17, 18, 19] (.seq (.region [⟨some 20, .bin .lss (.s 19) (.s 18), none⟩] [1, 2, 17, 18, 19, 20])
 (.seq (.cond (.s 20) .skip
 (.exit 0))
 (.seq (.block 1 (.seq (.region [⟨some 21, .mv (.s 19), none⟩,
  ⟨some 22, .indexSl (.s 17) (.s 19) 5, none⟩,
  ⟨some 23, .load 5 true (.s 22) 0 true, none⟩,
  ⟨some 7, .alloc [.int .i64 0, .int .i64 0, .sl 0 true .exact [], .sl 0 true .exact [], .sl 0 true .exact []], none⟩,
  ⟨some 6, .mv (.s 21), none⟩,
  ⟨none, .store 5 (.s 7) (.s 23) 7 false, none⟩] [1, 2, 6, 7, 17, 18, 19])
 (.seq (.seq (.region [⟨some 24, .fieldAddr (.s 7) 0, none⟩,
  ⟨some 25, .load 1 false (.s 24) 7 false, none⟩,
  ⟨some 26, .bin .lss (.s 25) (.c (.int .i64 1)), none⟩,
  ⟨some 27, .mv (.s 26), none⟩,
  ⟨some 28, .fieldAddr (.s 7) 0, some (27, false)⟩,
  ⟨some 29, .load 1 false (.s 28) 7 false, some (27, false)⟩,
  ⟨some 30, .bin .gtr (.s 29) (.c (.int .i64 3)), some (27, false)⟩,
  ⟨some 31, .pick (.s 27) (.c (.bool true)) (.s 30), none⟩,
  ⟨some 32, .mv (.s 31), none⟩,
  ⟨some 33, .fieldAddr (.s 7) 1, some (32, false)⟩,
  ⟨some 34, .load 1 false (.s 33) 7 false, some (32, false)⟩,
  ⟨some 35, .bin .lss (.s 34) (.c (.int .i64 0)), some (32, false)⟩,
  ⟨some 36, .pick (.s 32) (.c (.bool true)) (.s 35), none⟩,
  ⟨some 37, .mv (.s 36), none⟩,
  ⟨some 38, .fieldAddr (.s 7) 1, some (37, false)⟩,
  ⟨some 39, .load 1 false (.s 38) 7 false, some (37, false)⟩,
  ⟨some 40, .fieldAddr (.s 2) 1, some (37, false)⟩,
  ⟨some 41, .load 1 false (.s 40) 2 false, some (37, false)⟩,
  ⟨some 42, .len (.s 41) .l false, some (37, false)⟩,
  ⟨some 43, .bin .geq (.s 39) (.s 42), some (37, false)⟩,
  ⟨some 44, .pick (.s 37) (.c (.bool true)) (.s 43), none⟩] [1, 2, 6, 7, 17, 18, 19, 44])
 (.cond (.s 44) (.seq (.region [⟨some 4, .mv (.c (.int .i64 1)), none⟩] [4])
 .ret)
 .skip))
 (.seq (.seq (.region [⟨some 45, .load 2 true (.s 2) 2 false, none⟩,
  ⟨some 46, .fieldAddr (.s 7) 1, none⟩,
  ⟨some 47, .load 1 false (.s 46) 7 false, none⟩,
  ⟨some 48, .fieldAddr (.s 7) 2, none⟩,
  ⟨some 49, .load 1 false (.s 48) 7 false, none⟩,
  ⟨some 50, .call (.fn 40) [(.s 45), (.s 47), (.s 49)] false, none⟩,
  ⟨some 51, .un .not (.s 50), none⟩] [1, 2, 6, 7, 17, 18, 19, 51])
 (.cond (.s 51) (.seq (.region [⟨some 4, .mv (.c (.int .i64 270)), none⟩] [4])
 .ret)
 .skip))
 (.seq (.region [⟨some 8, .mv (.c (.bool false)), none⟩] [1, 2, 6, 7, 8, 17, 18, 19])
 (.seq (.seq (.region [⟨some 52, .fieldAddr (.s 7) 0, none⟩,
  ⟨some 53, .load 1 false (.s 52) 7 false, none⟩] [1, 2, 6, 7, 8, 17, 18, 19, 53])
 (.block 2 (.seq (.region [⟨some 55, .bin .eql (.s 53) (.c (.int .i64 1)), none⟩,
  ⟨some 54, .mv (.s 55), none⟩] [1, 2, 6, 7, 8, 17, 18, 19, 53, 54])
 (.cond (.s 54) (.region [⟨some 56, .fieldAddr (.s 7) 3, none⟩,
  ⟨some 57, .load 1 false (.s 56) 7 false, none⟩,
  ⟨some 58, .len (.s 57) .l false, none⟩,
  ⟨some 59, .bin .eql (.s 58) (.c (.int .i64 0)), none⟩,
  ⟨some 60, .mv (.s 59), none⟩,
  ⟨some 61, .load 2 true (.s 2) 2 false, some (60, true)⟩,
  ⟨some 62, .fieldAddr (.s 7) 1, some (60, true)⟩,
  ⟨some 63, .load 1 false (.s 62) 7 false, some (60, true)⟩,
  ⟨some 64, .fieldAddr (.s 7) 4, some (60, true)⟩,
  ⟨some 65, .load 1 false (.s 64) 7 false, some (60, true)⟩,
  ⟨some 66, .call (.fn 41) [(.s 61), (.s 63), (.s 65), (.c (.int .i64 1))] false, some (60, true)⟩,
  ⟨some 67, .pick (.s 60) (.s 66) (.c (.bool false)), none⟩,
  ⟨some 68, .mv (.s 67), none⟩,
  ⟨some 69, .load 2 true (.s 2) 2 false, some (68, true)⟩,
  ⟨some 70, .fieldAddr (.s 7) 1, some (68, true)⟩,
  ⟨some 71, .load 1 false (.s 70) 7 false, some (68, true)⟩,
  ⟨some 72, .fieldAddr (.s 7) 4, some (68, true)⟩,
  ⟨some 73, .load 1 false (.s 72) 7 false, some (68, true)⟩,
  ⟨some 74, .call (.fn 42) [(.s 69), (.s 71), (.s 73)] false, some (68, true)⟩,
  ⟨some 75, .fieldAddr (.s 7) 2, some (68, true)⟩,
  ⟨some 76, .load 1 false (.s 75) 7 false, some (68, true)⟩,
  ⟨some 77, .call (.fn 29) [(.s 74), (.s 76)] false, some (68, true)⟩,
  ⟨some 78, .bin .eql (.s 77) (.c (.int .i64 0)), some (68, true)⟩,
  ⟨some 79, .pick (.s 68) (.s 78) (.c (.bool false)), none⟩,
  ⟨some 8, .mv (.s 79), none⟩] [1, 2, 6, 7, 8, 17, 18, 19])
 (.seq (.region [⟨some 81, .bin .eql (.s 53) (.c (.int .i64 2)), none⟩,
  ⟨some 80, .mv (.s 81), none⟩] [1, 2, 6, 7, 8, 17, 18, 19, 53, 80])
 (.cond (.s 80) (.region [⟨some 82, .fieldAddr (.s 2) 1, none⟩,
  ⟨some 83, .load 1 false (.s 82) 2 false, none⟩,
  ⟨some 84, .fieldAddr (.s 7) 1, none⟩,
  ⟨some 85, .load 1 false (.s 84) 7 false, none⟩,
  ⟨some 86, .indexSl (.s 83) (.s 85) 5, none⟩,
  ⟨some 87, .load 5 true (.s 86) 0 true, none⟩,
  ⟨some 88, .fieldAddr (.s 7) 3, none⟩,
  ⟨some 89, .load 1 false (.s 88) 7 false, none⟩,
  ⟨some 90, .fieldAddr (.s 7) 4, none⟩,
  ⟨some 91, .load 1 false (.s 90) 7 false, none⟩,
  ⟨some 92, .call (.fn 43) [(.s 87), (.s 89), (.s 91)] false, none⟩,
  ⟨some 8, .mv (.s 92), none⟩] [1, 2, 6, 7, 8, 17, 18, 19])
 (.seq (.region [⟨some 94, .bin .eql (.s 53) (.c (.int .i64 3)), none⟩,
  ⟨some 93, .mv (.s 94), none⟩] [1, 2, 6, 7, 8, 17, 18, 19, 93])
 (.cond (.s 93) (.region [⟨some 95, .fieldAddr (.s 7) 3, none⟩,
  ⟨some 96, .load 1 false (.s 95) 7 false, none⟩,
  ⟨some 97, .len (.s 96) .l false, none⟩,
  ⟨some 98, .bin .eql (.s 97) (.c (.int .i64 0)), none⟩,
  ⟨some 99, .mv (.s 98), none⟩,
  ⟨some 100, .fieldAddr (.s 7) 4, some (99, true)⟩,
  ⟨some 101, .load 1 false (.s 100) 7 false, some (99, true)⟩,
  ⟨some 102, .len (.s 101) .l false, some (99, true)⟩,
  ⟨some 103, .bin .eql (.s 102) (.c (.int .i64 0)), some (99, true)⟩,
  ⟨some 104, .pick (.s 99) (.s 103) (.c (.bool false)), none⟩,
  ⟨some 8, .mv (.s 104), none⟩] [1, 2, 6, 7, 8, 17, 18, 19])
 .skip))))))))
 (.seq (.region [⟨some 105, .mv (.s 8), none⟩,
  ⟨some 106, .un .not (.s 105), none⟩,
  ⟨some 107, .mv (.s 106), none⟩,
  ⟨some 108, .mv (.s 6), some (107, false)⟩,
  ⟨some 109, .bin .gtr (.s 108) (.c (.int .i64 0)), some (107, false)⟩,
  ⟨some 110, .mv (.s 109), some (107, false)⟩,
  ⟨some 111, .mv (.s 1), some (110, true)⟩,
  ⟨some 112, .mv (.s 6), some (110, true)⟩,
  ⟨some 113, .bin .sub (.s 112) (.c (.int .i64 1)), some (110, true)⟩,
  ⟨some 114, .indexSl (.s 111) (.s 113) 5, some (110, true)⟩,
  ⟨some 115, .load 5 true (.s 114) 0 true, some (110, true)⟩,
  ⟨some 116, .load 5 true (.s 7) 7 false, some (110, true)⟩,
  ⟨some 117, .call (.fn 44) [(.s 115), (.s 116)] false, some (110, true)⟩,
  ⟨some 118, .bin .geq (.s 117) (.c (.int .i64 0)), some (110, true)⟩,
  ⟨some 119, .pick (.s 110) (.s 118) (.c (.bool false)), some (107, false)⟩,
  ⟨some 120, .pick (.s 107) (.c (.bool true)) (.s 119), none⟩] [1, 2, 17, 18, 19, 120])
 (.cond (.s 120) (.seq (.region [⟨some 4, .mv (.c (.int .i64 270)), none⟩] [4])
 .ret)
 .skip))))))))
 (.region [⟨some 121, .bin .add (.s 19) (.c (.int .i64 1)), none⟩,
  ⟨some 19, .mv (.s 121), none⟩] [1, 2, 17, 18, 19])))))))
 (.seq (.region [⟨some 4, .mv (.c (.int .i64 0)), none⟩] [4])
 .ret))))) }

/-- table.Check -/
def g23 : GFun :=
 { nparams := 3, keepHeap := false, results := [.inl 6], body :=
 (.seq (.region [⟨some 3, .box (.s 0), none⟩,
  ⟨some 5, .box (.s 2), none⟩,
  ⟨some 6, .mv (.c (.int .i64 0)), none⟩] [1, 3, 5])
 (.seq (.seq (.region [⟨some 12, .load 2 true (.s 3) 3 false, none⟩,
  ⟨some 13, .call (.fn 16) [(.s 12)] false, none⟩,
  ⟨some 7, .mv (.s 13), none⟩] [1, 3, 5, 7])
 (.seq (.region [⟨some 14, .mv (.s 7), none⟩,
  ⟨some 15, .bin .neq (.s 14) (.c (.int .i64 0)), none⟩] [1, 3, 5, 7, 15])
 (.cond (.s 15) (.seq (.region [⟨some 16, .mv (.s 7), none⟩,
  ⟨some 6, .mv (.s 16), none⟩] [6])
 .ret)
 .skip)))
 (.seq (.seq (.region [⟨some 17, .mv (.s 1), none⟩,
  ⟨some 18, .bin .lss (.s 17) (.c (.int .i64 1)), none⟩,
  ⟨some 19, .mv (.s 18), none⟩,
  ⟨some 20, .mv (.s 1), some (19, false)⟩,
  ⟨some 21, .bin .gtr (.s 20) (.c (.int .i64 3)), some (19, false)⟩,
  ⟨some 22, .pick (.s 19) (.c (.bool true)) (.s 21), none⟩] [1, 3, 5, 22])
 (.cond (.s 22) (.seq (.region [⟨some 6, .mv (.c (.int .i64 1)), none⟩] [6])
 .ret)
 .skip))
 (.seq (.seq (.region [⟨some 23, .load 1 true (.s 5) 5 false, none⟩,
  ⟨some 24, .call (.fn 45) [(.s 23)] false, none⟩,
  ⟨some 25, .bin .gtr (.s 24) (.c (.int .i64 512)), none⟩] [1, 3, 5, 25])
 (.cond (.s 25) (.seq (.region [⟨some 6, .mv (.c (.int .i64 2)), none⟩] [6])
 .ret)
 .skip))
 (.seq (.seq (.region [⟨some 26, .fieldAddr (.s 5) 0, none⟩,
  ⟨some 27, .load 1 false (.s 26) 5 false, none⟩,
  ⟨some 28, .len (.s 27) .l false, none⟩,
  ⟨some 29, .fieldAddr (.s 3) 1, none⟩,
  ⟨some 30, .load 1 false (.s 29) 3 false, none⟩,
  ⟨some 31, .len (.s 30) .l false, none⟩,
  ⟨some 32, .bin .neq (.s 28) (.s 31), none⟩] [1, 3, 5, 32])
 (.cond (.s 32) (.seq (.region [⟨some 6, .mv (.c (.int .i64 80)), none⟩] [6])
 .ret)
 .skip))
 (.seq (.seq (.region [⟨some 33, .fieldAddr (.s 5) 0, none⟩,
  ⟨some 34, .load 1 false (.s 33) 5 false, none⟩,
  ⟨some 35, .len (.s 34) .l false, none⟩,
  ⟨some 36, .mv (.c (.int .i64 0)), none⟩] [1, 3, 34, 35, 36])
 (.block 0 (.loop [1, 3, 34, 35, 36] (.seq (.region [⟨some 37, .bin .lss (.s 36) (.s 35), none⟩] [1, 3, 34, 35, 36, 37])
 (.seq (.cond (.s 37) .skip
 (.exit 0))
 (.seq (.block 1 (.seq (.region [⟨some 38, .mv (.s 36), none⟩,
  ⟨some 39, .indexSl (.s 34) (.s 36) 1, none⟩,
  ⟨some 40, .load 1 false (.s 39) 0 true, none⟩,
  ⟨some 8, .mv (.s 38), none⟩,
  ⟨some 9, .mv (.s 40), none⟩] [1, 3, 8, 9, 34, 35, 36])
 (.seq (.region [⟨some 41, .mv (.s 9), none⟩,
  ⟨some 42, .len (.s 41) .l false, none⟩,
  ⟨some 43, .mv (.c (.int .i64 0)), none⟩] [1, 3, 8, 9, 34, 35, 36, 41, 42, 43])
 (.block 2 (.loop [1, 3, 8, 9, 34, 35, 36, 41, 42, 43] (.seq (.region [⟨some 44, .bin .lss (.s 43) (.s 42), none⟩] [1, 3, 8, 9, 34, 35, 36, 41, 42, 43, 44])
 (.seq (.cond (.s 44) .skip
 (.exit 2))
 (.seq (.block 3 (.seq (.region [⟨some 45, .mv (.s 43), none⟩,
  ⟨some 46, .indexSl (.s 41) (.s 43) 1, none⟩,
  ⟨some 47, .load 1 false (.s 46) 0 true, none⟩,
  ⟨some 10, .mv (.s 45), none⟩,
  ⟨some 11, .mv (.s 47), none⟩] [1, 3, 8, 9, 10, 11, 34, 35, 36, 41, 42, 43])
 (.seq (.seq (.region [⟨some 48, .load 2 true (.s 3) 3 false, none⟩,
  ⟨some 49, .mv (.s 8), none⟩,
  ⟨some 50, .mv (.s 11), none⟩,
  ⟨some 51, .mv (.s 1), none⟩,
  ⟨some 52, .call (.fn 41) [(.s 48), (.s 49), (.s 50), (.s 51)] false, none⟩,
  ⟨some 53, .un .not (.s 52), none⟩] [1, 3, 8, 9, 10, 11, 34, 35, 36, 41, 42, 43, 53])
 (.cond (.s 53) (.seq (.region [⟨some 6, .mv (.c (.int .i64 80)), none⟩] [6])
 .ret)
 .skip))
 (.seq (.region [⟨some 54, .mv (.s 10), none⟩,
  ⟨some 55, .bin .gtr (.s 54) (.c (.int .i64 0)), none⟩,
  ⟨some 56, .mv (.s 55), none⟩,
  ⟨some 57, .load 2 true (.s 3) 3 false, some (56, true)⟩,
  ⟨some 58, .mv (.s 8), some (56, true)⟩,
  ⟨some 59, .mv (.s 9), some (56, true)⟩,
  ⟨some 60, .mv (.s 10), some (56, true)⟩,
  ⟨some 61, .bin .sub (.s 60) (.c (.int .i64 1)), some (56, true)⟩,
  ⟨some 62, .indexSl (.s 59) (.s 61) 1, some (56, true)⟩,
  ⟨some 63, .load 1 false (.s 62) 0 true, some (56, true)⟩,
  ⟨some 64, .call (.fn 42) [(.s 57), (.s 58), (.s 63)] false, some (56, true)⟩,
  ⟨some 65, .load 2 true (.s 3) 3 false, some (56, true)⟩,
  ⟨some 66, .mv (.s 8), some (56, true)⟩,
  ⟨some 67, .mv (.s 11), some (56, true)⟩,
  ⟨some 68, .call (.fn 42) [(.s 65), (.s 66), (.s 67)] false, some (56, true)⟩,
  ⟨some 69, .call (.fn 29) [(.s 64), (.s 68)] false, some (56, true)⟩,
  ⟨some 70, .bin .geq (.s 69) (.c (.int .i64 0)), some (56, true)⟩,
  ⟨some 71, .pick (.s 56) (.s 70) (.c (.bool false)), none⟩] [1, 3, 8, 9, 34, 35, 36, 41, 42, 43, 71])
 (.cond (.s 71) (.seq (.region [⟨some 6, .mv (.c (.int .i64 80)), none⟩] [6])
 .ret)
 .skip)))))
 (.region [⟨some 72, .bin .add (.s 43) (.c (.int .i64 1)), none⟩,
  ⟨some 43, .mv (.s 72), none⟩] [1, 3, 8, 9, 34, 35, 36, 41, 42, 43])))))))))
 (.region [⟨some 73, .bin .add (.s 36) (.c (.int .i64 1)), none⟩,
  ⟨some 36, .mv (.s 73), none⟩] [1, 3, 34, 35, 36])))))))
 (.seq (.region [⟨some 6, .mv (.c (.int .i64 0)), none⟩] [6])
 .ret))))))) }

/-- transaction.changes -/
def g24 : GFun :=
 { nparams := 3, keepHeap := false, results := [.inl 6, .inl 7], body :=
 (.seq (.region [⟨some 3, .box (.s 0), none⟩,
  ⟨some 4, .box (.s 1), none⟩,
  ⟨some 6, .mv (.c (.sl 0 true .exact [])), none⟩,
  ⟨some 7, .mv (.c (.niliface)), none⟩] [2, 3, 4])
 (.seq (.region [⟨some 8, .mv (.c (.sl 0 true .exact [])), none⟩] [2, 3, 4, 8])
 (.seq (.seq (.region [⟨some 14, .mv (.s 2), none⟩,
  ⟨some 15, .len (.s 14) .l false, none⟩,
  ⟨some 16, .mv (.c (.int .i64 0)), none⟩] [3, 4, 8, 14, 15, 16])
 (.block 0 (.loop [3, 4, 8, 14, 15, 16] (.seq (.region [⟨some 17, .bin .lss (.s 16) (.s 15), none⟩] [3, 4, 8, 14, 15, 16, 17])
 (.seq (.cond (.s 17) .skip
 (.exit 0))
 (.seq (.block 1 (.seq (.region [⟨some 18, .indexSl (.s 14) (.s 16) 5, none⟩,
  ⟨some 19, .load 5 true (.s 18) 0 true, none⟩,
  ⟨some 10, .alloc [.int .i64 0, .int .i64 0, .sl 0 true .exact [], .sl 0 true .exact [], .sl 0 true .exact []], none⟩,
  ⟨none, .store 5 (.s 10) (.s 19) 10 false, none⟩] [3, 4, 8, 10, 14, 15, 16])
 (.seq (.region [⟨some 21, .load 2 true (.s 3) 3 false, none⟩,
  ⟨some 22, .load 1 true (.s 4) 4 false, none⟩,
  ⟨some 23, .fieldAddr (.s 10) 1, none⟩,
  ⟨some 24, .load 1 false (.s 23) 10 false, none⟩,
  ⟨some 25, .fieldAddr (.s 10) 2, none⟩,
  ⟨some 26, .load 1 false (.s 25) 10 false, none⟩,
  ⟨some 27, .call (.fn 46) [(.s 21), (.s 22), (.s 24), (.s 26)] false, none⟩,
  ⟨some 20, .mv (.s 27), none⟩,
  ⟨some 28, .extract (.s 20) 0, none⟩,
  ⟨some 29, .extract (.s 20) 1, none⟩,
  ⟨some 11, .mv (.s 28), none⟩,
  ⟨some 12, .mv (.s 29), none⟩] [3, 4, 8, 10, 11, 12, 14, 15, 16])
 (.seq (.seq (.region [⟨some 30, .mv (.s 12), none⟩,
  ⟨some 31, .mv (.s 30), none⟩,
  ⟨some 32, .fieldAddr (.s 10) 0, some (31, true)⟩,
  ⟨some 33, .load 1 false (.s 32) 10 false, some (31, true)⟩,
  ⟨some 34, .bin .eql (.s 33) (.c (.int .i64 1)), some (31, true)⟩,
  ⟨some 35, .pick (.s 31) (.s 34) (.c (.bool false)), none⟩] [3, 4, 8, 10, 11, 12, 14, 15, 16, 35])
 (.cond (.s 35) (.seq (.region [⟨some 36, .fieldAddr (.s 10) 1, none⟩,
  ⟨some 37, .load 1 false (.s 36) 10 false, none⟩,
  ⟨some 38, .fieldAddr (.s 10) 2, none⟩,
  ⟨some 39, .load 1 false (.s 38) 10 false, none⟩,
  ⟨some 40, .call (.fn 27) [(.c (.int .i64 4)), (.c (.int .i64 0)), (.s 37), (.s 39)] false, none⟩,
  ⟨some 6, .mv (.c (.sl 0 true .exact [])), none⟩,
  ⟨some 7, .mv (.s 40), none⟩] [6, 7])
 .ret)
 .skip))
 (.seq (.seq (.region [⟨some 41, .mv (.s 12), none⟩,
  ⟨some 42, .un .not (.s 41), none⟩,
  ⟨some 43, .mv (.s 42), none⟩,
  ⟨some 44, .fieldAddr (.s 10) 0, some (43, true)⟩,
  ⟨some 45, .load 1 false (.s 44) 10 false, some (43, true)⟩,
  ⟨some 46, .bin .neq (.s 45) (.c (.int .i64 1)), some (43, true)⟩,
  ⟨some 47, .pick (.s 43) (.s 46) (.c (.bool false)), none⟩] [3, 4, 8, 10, 11, 14, 15, 16, 47])
 (.cond (.s 47) (.seq (.region [⟨some 48, .fieldAddr (.s 10) 1, none⟩,
  ⟨some 49, .load 1 false (.s 48) 10 false, none⟩,
  ⟨some 50, .fieldAddr (.s 10) 2, none⟩,
  ⟨some 51, .load 1 false (.s 50) 10 false, none⟩,
  ⟨some 52, .call (.fn 27) [(.c (.int .i64 5)), (.c (.int .i64 0)), (.s 49), (.s 51)] false, none⟩,
  ⟨some 6, .mv (.c (.sl 0 true .exact [])), none⟩,
  ⟨some 7, .mv (.s 52), none⟩] [6, 7])
 .ret)
 .skip))
 (.seq (.region [⟨some 53, .load 5 true (.s 10) 10 false, none⟩,
  ⟨some 54, .mv (.s 11), none⟩,
  ⟨some 55, .call (.fn 47) [(.s 53), (.s 54)] false, none⟩,
  ⟨some 13, .alloc [.int .i64 0, .sl 0 true .exact [], .sl 0 true .exact []], none⟩,
  ⟨none, .store 3 (.s 13) (.s 55) 13 false, none⟩] [3, 4, 8, 13, 14, 15, 16])
 (.seq (.region [⟨some 56, .fieldAddr (.s 13) 1, none⟩,
  ⟨some 57, .load 1 false (.s 56) 13 false, none⟩,
  ⟨some 58, .fieldAddr (.s 13) 2, none⟩,
  ⟨some 59, .load 1 false (.s 58) 13 false, none⟩,
  ⟨some 60, .call (.fn 29) [(.s 57), (.s 59)] false, none⟩,
  ⟨some 61, .bin .neq (.s 60) (.c (.int .i64 0)), none⟩] [3, 4, 8, 13, 14, 15, 16, 61])
 (.cond (.s 61) (.region [⟨some 62, .take 8, none⟩,
  ⟨some 63, .load 3 true (.s 13) 13 false, none⟩,
  ⟨some 64, .bsl 3 1 [.int .i64 0, .sl 0 true .exact [], .sl 0 true .exact []] [(0, (.s 63))] false, none⟩,
  ⟨some 65, .append (.s 62) (.s 64) 3 56 false false, none⟩,
  ⟨some 8, .take 65, none⟩] [3, 4, 8, 14, 15, 16])
 .skip))))))))
 (.region [⟨some 66, .bin .add (.s 16) (.c (.int .i64 1)), none⟩,
  ⟨some 16, .mv (.s 66), none⟩] [3, 4, 8, 14, 15, 16])))))))
 (.seq (.region [⟨some 67, .mv (.s 8), none⟩,
  ⟨some 6, .mv (.s 67), none⟩,
  ⟨some 7, .mv (.c (.niliface)), none⟩] [6, 7])
 .ret)))) }

/-- table.Apply -/
def g25 : GFun :=
 { nparams := 4, keepHeap := false, results := [.inr (8, 1, true), .inl 9], body :=
 (.seq (.region [⟨some 4, .box (.s 0), none⟩,
  ⟨some 6, .box (.s 2), none⟩,
  ⟨some 8, .alloc [.sl 0 true .exact []], none⟩,
  ⟨some 9, .mv (.c (.int .i64 0)), none⟩] [1, 3, 4, 6, 8])
 (.seq (.seq (.region [⟨some 19, .load 2 true (.s 4) 4 false, none⟩,
  ⟨some 20, .mv (.s 1), none⟩,
  ⟨some 21, .load 1 true (.s 6) 6 false, none⟩,
  ⟨some 22, .call (.fn 23) [(.s 19), (.s 20), (.s 21)] false, none⟩,
  ⟨some 10, .mv (.s 22), none⟩] [1, 3, 4, 6, 8, 10])
 (.seq (.region [⟨some 23, .mv (.s 10), none⟩,
  ⟨some 24, .bin .neq (.s 23) (.c (.int .i64 0)), none⟩] [1, 3, 4, 6, 8, 10, 24])
 (.cond (.s 24) (.seq (.region [⟨some 25, .build [.sl 0 true .exact []] [], none⟩,
  ⟨some 26, .mv (.s 10), none⟩,
  ⟨none, .store 1 (.s 8) (.s 25) 8 false, none⟩,
  ⟨some 9, .mv (.s 26), none⟩] [8, 9])
 .ret)
 .skip)))
 (.seq (.region [⟨some 27, .load 1 true (.s 6) 6 false, none⟩,
  ⟨some 28, .call (.fn 48) [(.s 27)] false, none⟩,
  ⟨some 11, .alloc [.sl 0 true .exact []], none⟩,
  ⟨none, .store 1 (.s 11) (.s 28) 11 false, none⟩] [1, 3, 4, 8, 11])
 (.seq (.region [⟨some 29, .load 1 true (.s 11) 11 false, none⟩,
  ⟨some 30, .call (.fn 45) [(.s 29)] false, none⟩,
  ⟨some 12, .mv (.s 30), none⟩] [1, 3, 4, 8, 11, 12])
 (.seq (.seq (.region [⟨some 31, .mv (.s 3), none⟩,
  ⟨some 32, .len (.s 31) .l false, none⟩,
  ⟨some 33, .mv (.c (.int .i64 0)), none⟩] [1, 4, 8, 11, 12, 31, 32, 33])
 (.block 0 (.loop [1, 4, 8, 11, 12, 31, 32, 33] (.seq (.region [⟨some 34, .bin .lss (.s 33) (.s 32), none⟩] [1, 4, 8, 11, 12, 31, 32, 33, 34])
 (.seq (.cond (.s 34) .skip
 (.exit 0))
 (.seq (.block 1 (.seq (.region [⟨some 35, .indexSl (.s 31) (.s 33) 3, none⟩,
  ⟨some 36, .load 3 true (.s 35) 0 true, none⟩,
  ⟨some 14, .alloc [.int .i64 0, .sl 0 true .exact [], .sl 0 true .exact []], none⟩,
  ⟨none, .store 3 (.s 14) (.s 36) 14 false, none⟩] [1, 4, 8, 11, 12, 14, 31, 32, 33])
 (.seq (.seq (.region [⟨some 37, .load 2 true (.s 4) 4 false, none⟩,
  ⟨some 38, .mv (.s 1), none⟩,
  ⟨some 39, .load 3 true (.s 14) 14 false, none⟩,
  ⟨some 40, .call (.fn 49) [(.s 37), (.s 38), (.s 39)] false, none⟩,
  ⟨some 41, .un .not (.s 40), none⟩] [1, 4, 8, 11, 12, 14, 31, 32, 33, 41])
 (.cond (.s 41) (.seq (.region [⟨some 42, .build [.sl 0 true .exact []] [], none⟩,
  ⟨none, .store 1 (.s 8) (.s 42) 8 false, none⟩,
  ⟨some 9, .mv (.c (.int .i64 71)), none⟩] [8, 9])
 .ret)
 .skip))
 (.seq (.region [⟨some 43, .fieldAddr (.s 11) 0, none⟩,
  ⟨some 44, .load 1 false (.s 43) 11 false, none⟩,
  ⟨some 45, .fieldAddr (.s 14) 0, none⟩,
  ⟨some 46, .load 1 false (.s 45) 14 false, none⟩,
  ⟨some 47, .indexSl (.s 44) (.s 46) 1, none⟩,
  ⟨some 48, .load 1 false (.s 47) 0 true, none⟩,
  ⟨some 15, .mv (.s 48), none⟩] [1, 4, 8, 11, 12, 14, 15, 31, 32, 33])
 (.seq (.region [⟨some 50, .load 2 true (.s 4) 4 false, none⟩,
  ⟨some 51, .fieldAddr (.s 14) 0, none⟩,
  ⟨some 52, .load 1 false (.s 51) 14 false, none⟩,
  ⟨some 53, .mv (.s 15), none⟩,
  ⟨some 54, .load 2 true (.s 4) 4 false, none⟩,
  ⟨some 55, .load 3 true (.s 14) 14 false, none⟩,
  ⟨some 56, .call (.fn 51) [(.s 54), (.s 55)] false, none⟩,
  ⟨some 57, .call (.fn 50) [(.s 50), (.s 52), (.s 53), (.s 56)] false, none⟩,
  ⟨some 49, .mv (.s 57), none⟩,
  ⟨some 58, .extract (.s 49) 0, none⟩,
  ⟨some 59, .extract (.s 49) 1, none⟩,
  ⟨some 16, .mv (.s 58), none⟩,
  ⟨some 17, .mv (.s 59), none⟩] [1, 4, 8, 11, 12, 14, 15, 16, 17, 31, 32, 33])
 (.seq (.seq (.region [⟨some 60, .mv (.s 17), none⟩,
  ⟨some 61, .fieldAddr (.s 14) 1, none⟩,
  ⟨some 62, .load 1 false (.s 61) 14 false, none⟩,
  ⟨some 63, .len (.s 62) .l false, none⟩,
  ⟨some 64, .bin .gtr (.s 63) (.c (.int .i64 0)), none⟩,
  ⟨some 65, .eqv true false [.b] (.s 60) (.s 64), none⟩,
  ⟨some 66, .mv (.s 65), none⟩,
  ⟨some 67, .mv (.s 17), some (66, false)⟩,
  ⟨some 68, .mv (.s 67), some (66, false)⟩,
  ⟨some 69, .mv (.s 15), some (68, true)⟩,
  ⟨some 70, .mv (.s 16), some (68, true)⟩,
  ⟨some 71, .indexSl (.s 69) (.s 70) 1, some (68, true)⟩,
  ⟨some 72, .load 1 false (.s 71) 0 true, some (68, true)⟩,
  ⟨some 73, .fieldAddr (.s 14) 1, some (68, true)⟩,
  ⟨some 74, .load 1 false (.s 73) 14 false, some (68, true)⟩,
  ⟨some 75, .call (.fn 29) [(.s 72), (.s 74)] false, some (68, true)⟩,
  ⟨some 76, .bin .neq (.s 75) (.c (.int .i64 0)), some (68, true)⟩,
  ⟨some 77, .pick (.s 68) (.s 76) (.c (.bool false)), some (66, false)⟩,
  ⟨some 78, .pick (.s 66) (.c (.bool true)) (.s 77), none⟩] [1, 4, 8, 11, 12, 14, 15, 16, 17, 31, 32, 33, 78])
 (.cond (.s 78) (.seq (.region [⟨some 79, .build [.sl 0 true .exact []] [], none⟩,
  ⟨none, .store 1 (.s 8) (.s 79) 8 false, none⟩,
  ⟨some 9, .mv (.c (.int .i64 81)), none⟩] [8, 9])
 .ret)
 .skip))
 (.seq (.region [⟨some 80, .mv (.s 15), none⟩,
  ⟨some 81, .mv (.s 16), none⟩,
  ⟨some 82, .slice false (.s 80) (some (.s 81)) none none 1, none⟩,
  ⟨some 18, .mv (.s 82), none⟩] [1, 4, 8, 11, 12, 14, 15, 16, 17, 18, 31, 32, 33])
 (.seq (.seq (.region [⟨some 83, .mv (.s 17), none⟩] [1, 4, 8, 11, 12, 14, 15, 16, 18, 31, 32, 33, 83])
 (.cond (.s 83) (.seq (.region [⟨some 84, .mv (.s 15), none⟩,
  ⟨some 85, .mv (.s 16), none⟩,
  ⟨some 86, .bin .add (.s 85) (.c (.int .i64 1)), none⟩,
  ⟨some 87, .slice false (.s 84) (some (.s 86)) none none 1, none⟩,
  ⟨some 18, .mv (.s 87), none⟩] [1, 4, 8, 11, 12, 14, 15, 16, 18, 31, 32, 33])
 (.region [⟨some 88, .mv (.s 12), none⟩,
  ⟨some 89, .bin .sub (.s 88) (.c (.int .i64 1)), none⟩,
  ⟨some 12, .mv (.s 89), none⟩] [1, 4, 8, 11, 12, 14, 15, 16, 18, 31, 32, 33]))
 .skip))
 (.seq (.region [⟨some 90, .mv (.s 15), none⟩,
  ⟨some 91, .mv (.s 16), none⟩,
  ⟨some 92, .mv (.s 16), none⟩,
  ⟨some 93, .slice false (.s 90) none (some (.s 91)) (some (.s 92)) 1, none⟩,
  ⟨some 15, .mv (.s 93), none⟩] [1, 4, 8, 11, 12, 14, 15, 18, 31, 32, 33])
 (.seq (.seq (.region [⟨some 94, .fieldAddr (.s 14) 2, none⟩,
  ⟨some 95, .load 1 false (.s 94) 14 false, none⟩,
  ⟨some 96, .len (.s 95) .l false, none⟩,
  ⟨some 97, .bin .gtr (.s 96) (.c (.int .i64 0)), none⟩] [1, 4, 8, 11, 12, 14, 15, 18, 31, 32, 33, 97])
 (.cond (.s 97) (.seq (.region [⟨some 98, .take 15, none⟩,
  ⟨some 99, .fieldAddr (.s 14) 2, none⟩,
  ⟨some 100, .load 1 false (.s 99) 14 false, none⟩,
  ⟨some 101, .call (.fn 52) [(.s 100)] false, none⟩,
  ⟨some 102, .bsl 1 1 [.sl 0 true .exact []] [(0, (.s 101))] false, none⟩,
  ⟨some 103, .append (.s 98) (.s 102) 1 24 false false, none⟩,
  ⟨some 15, .take 103, none⟩] [1, 4, 8, 11, 12, 14, 15, 18, 31, 32, 33])
 (.region [⟨some 104, .mv (.s 12), none⟩,
  ⟨some 105, .bin .add (.s 104) (.c (.int .i64 1)), none⟩,
  ⟨some 12, .mv (.s 105), none⟩] [1, 4, 8, 11, 12, 14, 15, 18, 31, 32, 33]))
 .skip))
 (.seq (.seq (.region [⟨some 106, .mv (.s 12), none⟩,
  ⟨some 107, .bin .gtr (.s 106) (.c (.int .i64 512)), none⟩] [1, 4, 8, 11, 12, 14, 15, 18, 31, 32, 33, 107])
 (.cond (.s 107) (.seq (.region [⟨some 108, .build [.sl 0 true .exact []] [], none⟩,
  ⟨none, .store 1 (.s 8) (.s 108) 8 false, none⟩,
  ⟨some 9, .mv (.c (.int .i64 2)), none⟩] [8, 9])
 .ret)
 .skip))
 (.region [⟨some 109, .fieldAddr (.s 11) 0, none⟩,
  ⟨some 110, .load 1 false (.s 109) 11 false, none⟩,
  ⟨some 111, .fieldAddr (.s 14) 0, none⟩,
  ⟨some 112, .load 1 false (.s 111) 14 false, none⟩,
  ⟨some 113, .mv (.s 15), none⟩,
  ⟨some 114, .mv (.s 15), none⟩,
  ⟨some 115, .len (.s 114) .l false, none⟩,
  ⟨some 116, .mv (.s 15), none⟩,
  ⟨some 117, .len (.s 116) .l false, none⟩,
  ⟨some 118, .slice false (.s 113) none (some (.s 115)) (some (.s 117)) 1, none⟩,
  ⟨some 119, .mv (.s 18), none⟩,
  ⟨some 120, .append (.s 118) (.s 119) 1 24 false false, none⟩,
  ⟨some 121, .indexSl (.s 110) (.s 112) 1, none⟩,
  ⟨none, .storeTake (.s 121) 120 0 true, none⟩] [1, 4, 8, 11, 12, 31, 32, 33]))))))))))))
 (.region [⟨some 122, .bin .add (.s 33) (.c (.int .i64 1)), none⟩,
  ⟨some 33, .mv (.s 122), none⟩] [1, 4, 8, 11, 12, 31, 32, 33])))))))
 (.seq (.region [⟨some 123, .load 1 true (.s 11) 11 false, none⟩,
  ⟨none, .store 1 (.s 8) (.s 123) 8 false, none⟩,
  ⟨some 9, .mv (.c (.int .i64 0)), none⟩] [8, 9])
 .ret)))))) }

/-- permit.Denials -/
def g26 : GFun :=
 { nparams := 5, keepHeap := false, results := [.inl 10, .inl 11], body :=
 (.seq (.region [⟨some 5, .box (.s 0), none⟩,
  ⟨some 6, .box (.s 1), none⟩,
  ⟨some 8, .box (.s 3), none⟩,
  ⟨some 10, .mv (.c (.sl 0 true .exact [])), none⟩,
  ⟨some 11, .mv (.c (.int .i64 0)), none⟩] [2, 4, 5, 6, 8])
 (.seq (.seq (.region [⟨some 32, .load 2 true (.s 5) 5 false, none⟩,
  ⟨some 33, .load 2 true (.s 6) 6 false, none⟩,
  ⟨some 34, .call (.fn 9) [(.s 32), (.s 33)] false, none⟩,
  ⟨some 12, .mv (.s 34), none⟩] [2, 4, 5, 6, 8, 12])
 (.seq (.region [⟨some 35, .mv (.s 12), none⟩,
  ⟨some 36, .bin .neq (.s 35) (.c (.int .i64 0)), none⟩] [2, 4, 5, 6, 8, 12, 36])
 (.cond (.s 36) (.seq (.region [⟨some 37, .mv (.s 12), none⟩,
  ⟨some 10, .mv (.c (.sl 0 true .exact [])), none⟩,
  ⟨some 11, .mv (.s 37), none⟩] [10, 11])
 .ret)
 .skip)))
 (.seq (.seq (.region [⟨some 38, .mv (.s 2), none⟩,
  ⟨some 39, .len (.s 38) .l false, none⟩,
  ⟨some 40, .fieldAddr (.s 6) 0, none⟩,
  ⟨some 41, .load 1 false (.s 40) 6 false, none⟩,
  ⟨some 42, .len (.s 41) .l false, none⟩,
  ⟨some 43, .bin .neq (.s 39) (.s 42), none⟩] [2, 4, 5, 6, 8, 43])
 (.cond (.s 43) (.seq (.region [⟨some 10, .mv (.c (.sl 0 true .exact [])), none⟩,
  ⟨some 11, .mv (.c (.int .i64 1)), none⟩] [10, 11])
 .ret)
 .skip))
 (.seq (.seq (.region [⟨some 44, .mv (.s 2), none⟩,
  ⟨some 45, .len (.s 44) .l false, none⟩,
  ⟨some 46, .mv (.c (.int .i64 0)), none⟩] [2, 4, 5, 6, 8, 44, 45, 46])
 (.block 0 (.loop [2, 4, 5, 6, 8, 44, 45, 46] (.seq (.region [⟨some 47, .bin .lss (.s 46) (.s 45), none⟩] [2, 4, 5, 6, 8, 44, 45, 46, 47])
 (.seq (.cond (.s 47) .skip
 (.exit 0))
 (.seq (.block 1 (.seq (.region [⟨some 48, .mv (.s 46), none⟩,
  ⟨some 49, .indexSl (.s 44) (.s 46) 3, none⟩,
  ⟨some 50, .load 3 true (.s 49) 0 true, none⟩,
  ⟨some 14, .alloc [.int .i64 0, .int .i64 0, .str []], none⟩,
  ⟨some 13, .mv (.s 48), none⟩,
  ⟨none, .store 3 (.s 14) (.s 50) 14 false, none⟩] [2, 4, 5, 6, 8, 13, 14, 44, 45, 46])
 (.seq (.region [⟨some 51, .load 3 true (.s 14) 14 false, none⟩,
  ⟨some 52, .call (.fn 10) [(.s 51)] false, none⟩,
  ⟨some 53, .un .not (.s 52), none⟩,
  ⟨some 54, .mv (.s 53), none⟩,
  ⟨some 55, .fieldAddr (.s 14) 0, some (54, false)⟩,
  ⟨some 56, .load 1 false (.s 55) 14 false, some (54, false)⟩,
  ⟨some 57, .fieldAddr (.s 6) 0, some (54, false)⟩,
  ⟨some 58, .load 1 false (.s 57) 6 false, some (54, false)⟩,
  ⟨some 59, .mv (.s 13), some (54, false)⟩,
  ⟨some 60, .indexSl (.s 58) (.s 59) 1, some (54, false)⟩,
  ⟨some 61, .load 1 false (.s 60) 0 true, some (54, false)⟩,
  ⟨some 62, .bin .neq (.s 56) (.s 61), some (54, false)⟩,
  ⟨some 63, .pick (.s 54) (.c (.bool true)) (.s 62), none⟩] [2, 4, 5, 6, 8, 44, 45, 46, 63])
 (.cond (.s 63) (.seq (.region [⟨some 10, .mv (.c (.sl 0 true .exact [])), none⟩,
  ⟨some 11, .mv (.c (.int .i64 1)), none⟩] [10, 11])
 .ret)
 .skip))))
 (.region [⟨some 64, .bin .add (.s 46) (.c (.int .i64 1)), none⟩,
  ⟨some 46, .mv (.s 64), none⟩] [2, 4, 5, 6, 8, 44, 45, 46])))))))
 (.seq (.region [⟨some 66, .load 2 true (.s 5) 5 false, none⟩,
  ⟨some 67, .load 1 true (.s 8) 8 false, none⟩,
  ⟨some 68, .mv (.s 4), none⟩,
  ⟨some 69, .call (.fn 25) [(.s 66), (.c (.int .i64 1)), (.s 67), (.s 68)] false, none⟩,
  ⟨some 65, .mv (.s 69), none⟩,
  ⟨some 70, .extract (.s 65) 0, none⟩,
  ⟨some 71, .extract (.s 65) 1, none⟩,
  ⟨some 15, .alloc [.sl 0 true .exact []], none⟩,
  ⟨none, .store 1 (.s 15) (.s 70) 15 false, none⟩,
  ⟨some 16, .mv (.s 71), none⟩] [2, 4, 5, 6, 8, 15, 16])
 (.seq (.seq (.region [⟨some 72, .mv (.s 16), none⟩,
  ⟨some 73, .bin .neq (.s 72) (.c (.int .i64 0)), none⟩] [2, 4, 5, 6, 8, 15, 16, 73])
 (.cond (.s 73) (.seq (.region [⟨some 74, .mv (.s 16), none⟩,
  ⟨some 10, .mv (.c (.sl 0 true .exact [])), none⟩,
  ⟨some 11, .mv (.s 74), none⟩] [10, 11])
 .ret)
 .skip))
 (.seq (.region [⟨some 75, .mkMap, none⟩,
  ⟨some 17, .halloc [.nilmap], none⟩,
  ⟨none, .store 1 (.s 17) (.s 75) 0 true, none⟩] [2, 4, 5, 6, 8, 15, 17])
 (.seq (.seq (.region [⟨some 76, .fieldAddr (.s 6) 1, none⟩,
  ⟨some 77, .load 1 false (.s 76) 6 false, none⟩,
  ⟨some 78, .len (.s 77) .l false, none⟩,
  ⟨some 79, .mv (.c (.int .i64 0)), none⟩] [2, 4, 5, 8, 15, 17, 77, 78, 79])
 (.block 2 (.loop [2, 4, 5, 8, 15, 17, 77, 78, 79] (.seq (.region [⟨some 80, .bin .lss (.s 79) (.s 78), none⟩] [2, 4, 5, 8, 15, 17, 77, 78, 79, 80])
 (.seq (.cond (.s 80) .skip
 (.exit 2))
 (.seq (.block 3 (.seq (.region [⟨some 81, .indexSl (.s 77) (.s 79) 24, none⟩,
  ⟨some 82, .load 24 true (.s 81) 0 true, none⟩,
  ⟨some 19, .alloc [.int .i64 0, .int .i64 0, .sl 0 true .exact [], .int .i64 0, .int .i64 0, .int .i64 0, .int .i64 0, .int .i64 0, .int .i64 0, .int .i64 0, .int .i64 0, .str [], .int .i64 0, .int .i64 0, .int .i64 0, .int .i64 0, .str [], .sl 0 true .exact [], .sl 0 true .exact [], .sl 0 true .exact [], .sl 0 true .exact [], .sl 0 true .exact [], .int .i64 0, .sl 0 true .exact []], none⟩,
  ⟨none, .store 24 (.s 19) (.s 82) 19 false, none⟩] [2, 4, 5, 8, 15, 17, 19, 77, 78, 79])
 (.seq (.seq (.region [⟨some 83, .fieldAddr (.s 19) 0, none⟩,
  ⟨some 84, .load 1 false (.s 83) 19 false, none⟩,
  ⟨some 85, .bin .neq (.s 84) (.c (.int .i64 2)), none⟩] [2, 4, 5, 8, 15, 17, 19, 77, 78, 79, 85])
 (.cond (.s 85) (.exit 3)
 .skip))
 (.seq (.region [⟨some 86, .fieldAddr (.s 19) 3, none⟩,
  ⟨some 87, .load 21 true (.s 86) 19 false, none⟩,
  ⟨some 88, .mv (.s 2), none⟩,
  ⟨some 89, .call (.fn 53) [(.s 87), (.s 88)] false, none⟩,
  ⟨some 20, .alloc [.int .i64 0, .int .i64 0, .int .i64 0, .int .i64 0, .int .i64 0, .int .i64 0, .int .i64 0, .int .i64 0, .str [], .int .i64 0, .int .i64 0, .int .i64 0, .int .i64 0, .str [], .sl 0 true .exact [], .sl 0 true .exact [], .sl 0 true .exact [], .sl 0 true .exact [], .sl 0 true .exact [], .int .i64 0, .sl 0 true .exact []], none⟩,
  ⟨none, .store 21 (.s 20) (.s 89) 20 false, none⟩] [2, 4, 5, 8, 15, 17, 19, 20, 77, 78, 79])
 (.seq (.region [⟨some 90, .fieldAddr (.s 19) 2, none⟩,
  ⟨some 91, .load 1 false (.s 90) 19 false, none⟩,
  ⟨some 92, .build [.sl 0 true .exact [], .sl 0 true .exact [], .sl 0 true .exact []] [(0, 1, (.s 91))], none⟩,
  ⟨some 21, .alloc [.sl 0 true .exact [], .sl 0 true .exact [], .sl 0 true .exact []], none⟩,
  ⟨none, .store 3 (.s 21) (.s 92) 21 false, none⟩] [2, 4, 5, 8, 15, 17, 19, 20, 21, 77, 78, 79])
 (.seq (.seq (.region [⟨some 94, .load 2 true (.s 5) 5 false, none⟩,
  ⟨some 95, .load 1 true (.s 8) 8 false, none⟩,
  ⟨some 96, .load 21 true (.s 20) 20 false, none⟩,
  ⟨some 97, .call (.fn 54) [(.s 94), (.s 95), (.s 96)] false, none⟩,
  ⟨some 93, .mv (.s 97), none⟩,
  ⟨some 98, .extract (.s 93) 0, none⟩,
  ⟨some 99, .extract (.s 93) 1, none⟩,
  ⟨some 100, .fieldAddr (.s 21) 1, none⟩,
  ⟨none, .store 1 (.s 100) (.s 98) 21 false, none⟩,
  ⟨some 16, .mv (.s 99), none⟩] [2, 4, 5, 8, 15, 16, 17, 19, 20, 21, 77, 78, 79])
 (.seq (.region [⟨some 101, .mv (.s 16), none⟩,
  ⟨some 102, .bin .neq (.s 101) (.c (.int .i64 0)), none⟩] [2, 4, 5, 8, 15, 16, 17, 19, 20, 21, 77, 78, 79, 102])
 (.cond (.s 102) (.seq (.region [⟨some 103, .mv (.s 16), none⟩,
  ⟨some 10, .mv (.c (.sl 0 true .exact [])), none⟩,
  ⟨some 11, .mv (.s 103), none⟩] [10, 11])
 .ret)
 .skip)))
 (.seq (.seq (.region [⟨some 105, .load 2 true (.s 5) 5 false, none⟩,
  ⟨some 106, .load 1 true (.s 15) 15 false, none⟩,
  ⟨some 107, .load 21 true (.s 20) 20 false, none⟩,
  ⟨some 108, .call (.fn 54) [(.s 105), (.s 106), (.s 107)] false, none⟩,
  ⟨some 104, .mv (.s 108), none⟩,
  ⟨some 109, .extract (.s 104) 0, none⟩,
  ⟨some 110, .extract (.s 104) 1, none⟩,
  ⟨some 111, .fieldAddr (.s 21) 2, none⟩,
  ⟨none, .store 1 (.s 111) (.s 109) 21 false, none⟩,
  ⟨some 16, .mv (.s 110), none⟩] [2, 4, 5, 8, 15, 16, 17, 19, 21, 77, 78, 79])
 (.seq (.region [⟨some 112, .mv (.s 16), none⟩,
  ⟨some 113, .bin .neq (.s 112) (.c (.int .i64 0)), none⟩] [2, 4, 5, 8, 15, 16, 17, 19, 21, 77, 78, 79, 113])
 (.cond (.s 113) (.seq (.region [⟨some 114, .mv (.s 16), none⟩,
  ⟨some 10, .mv (.c (.sl 0 true .exact [])), none⟩,
  ⟨some 11, .mv (.s 114), none⟩] [10, 11])
 .ret)
 .skip)))
 (.region [⟨some 115, .load 1 false (.s 17) 0 true, none⟩,
  ⟨some 116, .fieldAddr (.s 19) 1, none⟩,
  ⟨some 117, .load 1 false (.s 116) 19 false, none⟩,
  ⟨some 118, .load 1 false (.s 17) 0 true, none⟩,
  ⟨some 119, .fieldAddr (.s 19) 1, none⟩,
  ⟨some 120, .load 1 false (.s 119) 19 false, none⟩,
  ⟨some 121, .lookup (.s 118) (.s 120) (.sl 0 true .exact []) false false, none⟩,
  ⟨some 122, .load 3 true (.s 21) 21 false, none⟩,
  ⟨some 123, .bsl 3 1 [.sl 0 true .exact [], .sl 0 true .exact [], .sl 0 true .exact []] [(0, (.s 122))] false, none⟩,
  ⟨some 124, .append (.s 121) (.s 123) 3 72 false false, none⟩,
  ⟨none, .mapUpdate (.s 115) (.s 117) (.s 124) false, none⟩] [2, 4, 5, 8, 15, 17, 77, 78, 79]))))))))
 (.region [⟨some 125, .bin .add (.s 79) (.c (.int .i64 1)), none⟩,
  ⟨some 79, .mv (.s 125), none⟩] [2, 4, 5, 8, 15, 17, 77, 78, 79])))))))
 (.seq (.region [⟨some 22, .mv (.c (.sl 0 true .exact [])), none⟩] [4, 5, 17, 22])
 (.seq (.seq (.region [⟨some 126, .mv (.s 4), none⟩,
  ⟨some 127, .len (.s 126) .l false, none⟩,
  ⟨some 128, .mv (.c (.int .i64 0)), none⟩] [5, 17, 22, 126, 127, 128])
 (.block 4 (.loop [5, 17, 22, 126, 127, 128] (.seq (.region [⟨some 129, .bin .lss (.s 128) (.s 127), none⟩] [5, 17, 22, 126, 127, 128, 129])
 (.seq (.cond (.s 129) .skip
 (.exit 4))
 (.seq (.block 5 (.seq (.region [⟨some 130, .mv (.s 128), none⟩,
  ⟨some 131, .indexSl (.s 126) (.s 128) 3, none⟩,
  ⟨some 132, .load 3 true (.s 131) 0 true, none⟩,
  ⟨some 24, .halloc [.int .i64 0, .sl 0 true .exact [], .sl 0 true .exact []], none⟩,
  ⟨some 23, .mv (.s 130), none⟩,
  ⟨none, .store 3 (.s 24) (.s 132) 0 true, none⟩] [5, 17, 22, 23, 24, 126, 127, 128])
 (.seq (.region [⟨some 133, .fieldAddr (.s 24) 2, none⟩,
  ⟨some 134, .load 1 false (.s 133) 0 true, none⟩,
  ⟨some 25, .mv (.s 134), none⟩] [5, 17, 22, 23, 24, 25, 126, 127, 128])
 (.seq (.seq (.region [⟨some 135, .mv (.s 25), none⟩,
  ⟨some 136, .len (.s 135) .l false, none⟩,
  ⟨some 137, .bin .eql (.s 136) (.c (.int .i64 0)), none⟩] [5, 17, 22, 23, 24, 25, 126, 127, 128, 137])
 (.cond (.s 137) (.region [⟨some 138, .fieldAddr (.s 24) 1, none⟩,
  ⟨some 139, .load 1 false (.s 138) 0 true, none⟩,
  ⟨some 25, .mv (.s 139), none⟩] [5, 17, 22, 23, 24, 25, 126, 127, 128])
 .skip))
 (.seq (.region [⟨some 140, .load 2 true (.s 5) 5 false, none⟩,
  ⟨some 141, .fieldAddr (.s 24) 0, none⟩,
  ⟨some 142, .load 1 false (.s 141) 0 true, none⟩,
  ⟨some 143, .mv (.s 25), none⟩,
  ⟨some 144, .call (.fn 42) [(.s 140), (.s 142), (.s 143)] false, none⟩,
  ⟨some 26, .halloc [.sl 0 true .exact []], none⟩,
  ⟨none, .store 1 (.s 26) (.s 144) 0 true, none⟩] [5, 17, 22, 23, 24, 26, 126, 127, 128])
 (.seq (.region [⟨some 145, .mkFunc (.func 55) [] [(.s 17), (.s 24), (.s 26)], none⟩,
  ⟨some 27, .mv (.s 145), none⟩] [5, 17, 22, 23, 24, 26, 27, 126, 127, 128])
 (.seq (.seq (.region [⟨some 146, .fieldAddr (.s 24) 1, none⟩,
  ⟨some 147, .load 1 false (.s 146) 0 true, none⟩,
  ⟨some 148, .len (.s 147) .l false, none⟩,
  ⟨some 149, .bin .eql (.s 148) (.c (.int .i64 0)), none⟩,
  ⟨some 150, .mv (.s 149), none⟩,
  ⟨some 151, .fieldAddr (.s 24) 2, some (150, false)⟩,
  ⟨some 152, .load 1 false (.s 151) 0 true, some (150, false)⟩,
  ⟨some 153, .len (.s 152) .l false, some (150, false)⟩,
  ⟨some 154, .bin .eql (.s 153) (.c (.int .i64 0)), some (150, false)⟩,
  ⟨some 155, .pick (.s 150) (.c (.bool true)) (.s 154), none⟩] [5, 17, 22, 23, 24, 26, 27, 126, 127, 128, 155])
 (.cond (.s 155) (.seq (.region [⟨some 156, .fieldAddr (.s 24) 1, none⟩,
  ⟨some 157, .load 1 false (.s 156) 0 true, none⟩,
  ⟨some 158, .len (.s 157) .l false, none⟩,
  ⟨some 159, .bin .eql (.s 158) (.c (.int .i64 0)), none⟩,
  ⟨some 28, .mv (.s 159), none⟩] [5, 17, 22, 23, 24, 26, 27, 28, 126, 127, 128])
 (.seq (.seq (.region [⟨some 160, .mv (.s 27), none⟩,
  ⟨some 161, .mv (.s 28), none⟩,
  ⟨some 162, .call (.val (.s 160)) [(.c (.int .i64 (-1))), (.s 161)] false, none⟩,
  ⟨some 163, .un .not (.s 162), none⟩] [5, 17, 22, 23, 24, 26, 28, 126, 127, 128, 163])
 (.cond (.s 163) (.region [⟨some 164, .take 22, none⟩,
  ⟨some 165, .mv (.s 23), none⟩,
  ⟨some 166, .fieldAddr (.s 24) 0, none⟩,
  ⟨some 167, .load 1 false (.s 166) 0 true, none⟩,
  ⟨some 168, .load 1 false (.s 26) 0 true, none⟩,
  ⟨some 169, .mv (.s 28), none⟩,
  ⟨some 170, .bsl 1 1 [.int .i64 0] [(0, (.c (.int .i64 (-1))))] false, none⟩,
  ⟨some 171, .call (.fn 60) [(.s 165), (.s 167), (.s 168), (.s 169), (.s 170)] false, none⟩,
  ⟨some 172, .append (.s 164) (.s 171) 5 56 false false, none⟩,
  ⟨some 22, .take 172, none⟩] [5, 17, 22, 126, 127, 128])
 .skip))
 (.exit 5)))
 .skip))
 (.seq (.region [⟨some 173, .fieldAddr (.s 24) 2, none⟩,
  ⟨some 174, .load 1 false (.s 173) 0 true, none⟩,
  ⟨some 175, .len (.s 174) .l false, none⟩,
  ⟨some 176, .mv (.c (.int .i64 0)), none⟩] [5, 17, 22, 23, 24, 26, 27, 126, 127, 128, 175, 176])
 (.block 6 (.loop [5, 17, 22, 23, 24, 26, 27, 126, 127, 128, 175, 176] (.seq (.region [⟨some 177, .bin .lss (.s 176) (.s 175), none⟩] [5, 17, 22, 23, 24, 26, 27, 126, 127, 128, 175, 176, 177])
 (.seq (.cond (.s 177) .skip
 (.exit 6))
 (.seq (.block 7 (.seq (.region [⟨some 178, .mv (.s 176), none⟩,
  ⟨some 29, .mv (.s 178), none⟩] [5, 17, 22, 23, 24, 26, 27, 29, 126, 127, 128, 175, 176])
 (.seq (.seq (.region [⟨some 179, .fieldAddr (.s 24) 1, none⟩,
  ⟨some 180, .load 1 false (.s 179) 0 true, none⟩,
  ⟨some 181, .mv (.s 29), none⟩,
  ⟨some 182, .indexSl (.s 180) (.s 181) 3, none⟩,
  ⟨some 183, .load 3 true (.s 182) 0 true, none⟩,
  ⟨some 184, .fieldAddr (.s 24) 2, none⟩,
  ⟨some 185, .load 1 false (.s 184) 0 true, none⟩,
  ⟨some 186, .mv (.s 29), none⟩,
  ⟨some 187, .indexSl (.s 185) (.s 186) 3, none⟩,
  ⟨some 188, .load 3 true (.s 187) 0 true, none⟩,
  ⟨some 189, .eqv false true [.i, .i, .s] (.s 183) (.s 188), none⟩] [5, 17, 22, 23, 24, 26, 27, 29, 126, 127, 128, 175, 176, 189])
 (.cond (.s 189) (.exit 7)
 .skip))
 (.seq (.region [⟨some 190, .bsl 1 2 [.bool false] [(0, (.c (.bool false))), (1, (.c (.bool true)))] false, none⟩,
  ⟨some 191, .len (.s 190) .l false, none⟩,
  ⟨some 192, .mv (.c (.int .i64 0)), none⟩] [5, 17, 22, 23, 24, 26, 27, 29, 126, 127, 128, 175, 176, 190, 191, 192])
 (.block 8 (.loop [5, 17, 22, 23, 24, 26, 27, 29, 126, 127, 128, 175, 176, 190, 191, 192] (.seq (.region [⟨some 193, .bin .lss (.s 192) (.s 191), none⟩] [5, 17, 22, 23, 24, 26, 27, 29, 126, 127, 128, 175, 176, 190, 191, 192, 193])
 (.seq (.cond (.s 193) .skip
 (.exit 8))
 (.seq (.block 9 (.seq (.region [⟨some 194, .indexSl (.s 190) (.s 192) 1, none⟩,
  ⟨some 195, .load 1 false (.s 194) 0 true, none⟩,
  ⟨some 31, .mv (.s 195), none⟩] [5, 17, 22, 23, 24, 26, 27, 29, 31, 126, 127, 128, 175, 176, 190, 191, 192])
 (.seq (.region [⟨some 196, .mv (.s 27), none⟩,
  ⟨some 197, .mv (.s 29), none⟩,
  ⟨some 198, .mv (.s 31), none⟩,
  ⟨some 199, .call (.val (.s 196)) [(.s 197), (.s 198)] false, none⟩,
  ⟨some 200, .un .not (.s 199), none⟩] [5, 17, 22, 23, 24, 26, 27, 29, 31, 126, 127, 128, 175, 176, 190, 191, 192, 200])
 (.cond (.s 200) (.region [⟨some 201, .take 22, none⟩,
  ⟨some 202, .mv (.s 23), none⟩,
  ⟨some 203, .fieldAddr (.s 24) 0, none⟩,
  ⟨some 204, .load 1 false (.s 203) 0 true, none⟩,
  ⟨some 205, .load 1 false (.s 26) 0 true, none⟩,
  ⟨some 206, .mv (.s 31), none⟩,
  ⟨some 207, .mv (.s 29), none⟩,
  ⟨some 208, .bsl 1 1 [.int .i64 0] [(0, (.s 207))] false, none⟩,
  ⟨some 209, .call (.fn 60) [(.s 202), (.s 204), (.s 205), (.s 206), (.s 208)] false, none⟩,
  ⟨some 210, .append (.s 201) (.s 209) 5 56 false false, none⟩,
  ⟨some 22, .take 210, none⟩] [5, 17, 22, 23, 24, 26, 27, 29, 126, 127, 128, 175, 176, 190, 191, 192])
 .skip))))
 (.region [⟨some 211, .bin .add (.s 192) (.c (.int .i64 1)), none⟩,
  ⟨some 192, .mv (.s 211), none⟩] [5, 17, 22, 23, 24, 26, 27, 29, 126, 127, 128, 175, 176, 190, 191, 192]))))))))))
 (.region [⟨some 212, .bin .add (.s 176) (.c (.int .i64 1)), none⟩,
  ⟨some 176, .mv (.s 212), none⟩] [5, 17, 22, 23, 24, 26, 27, 126, 127, 128, 175, 176]))))))))))))))
 (.region [⟨some 213, .bin .add (.s 128) (.c (.int .i64 1)), none⟩,
  ⟨some 128, .mv (.s 213), none⟩] [5, 17, 22, 126, 127, 128])))))))
 (.seq (.region [⟨some 214, .mv (.s 22), none⟩,
  ⟨some 10, .mv (.s 214), none⟩,
  ⟨some 11, .mv (.c (.int .i64 0)), none⟩] [10, 11])
 .ret))))))))))) }

/-- transaction.about -/
def g27 : GFun :=
 { nparams := 4, keepHeap := false, results := [.inl 8], body :=
 (.seq (.region [⟨some 8, .mv (.c (.niliface)), none⟩] [0, 1, 2, 3])
 (.seq (.region [⟨some 9, .mv (.s 0), none⟩,
  ⟨some 10, .mv (.s 1), none⟩,
  ⟨some 11, .mv (.s 2), none⟩,
  ⟨some 12, .mv (.s 3), none⟩,
  ⟨some 13, .call (.fn 61) [(.s 12)] false, none⟩,
  ⟨some 14, .build [.int .i64 0, .int .i64 0, .int .i64 0, .sl 0 true .exact []] [(0, 1, (.s 9)), (1, 1, (.s 10)), (2, 1, (.s 11)), (3, 1, (.s 13))], none⟩,
  ⟨some 15, .build [.int .i64 0, .int .i64 0, .int .i64 0, .sl 0 true .exact []] [(0, 4, (.s 14))], none⟩,
  ⟨some 16, .mkIface 96 (.s 15), none⟩,
  ⟨some 8, .mv (.s 16), none⟩] [8])
 .ret)) }

/-- integrity.Recheck -/
def g28 : GFun :=
 { nparams := 3, keepHeap := false, results := [.inl 6, .inl 7], body :=
 (.seq (.region [⟨some 3, .box (.s 0), none⟩,
  ⟨some 4, .box (.s 1), none⟩,
  ⟨some 6, .mv (.c (.sl 0 true .exact [])), none⟩,
  ⟨some 7, .mv (.c (.int .i64 0)), none⟩] [2, 3, 4])
 (.seq (.region [⟨some 25, .load 2 true (.s 3) 3 false, none⟩,
  ⟨some 26, .load 1 true (.s 4) 4 false, none⟩,
  ⟨some 27, .mv (.s 2), none⟩,
  ⟨some 28, .call (.fn 25) [(.s 25), (.c (.int .i64 1)), (.s 26), (.s 27)] false, none⟩,
  ⟨some 24, .mv (.s 28), none⟩,
  ⟨some 29, .extract (.s 24) 0, none⟩,
  ⟨some 30, .extract (.s 24) 1, none⟩,
  ⟨some 8, .alloc [.sl 0 true .exact []], none⟩,
  ⟨none, .store 1 (.s 8) (.s 29) 8 false, none⟩,
  ⟨some 9, .mv (.s 30), none⟩] [2, 3, 8, 9])
 (.seq (.seq (.region [⟨some 31, .mv (.s 9), none⟩,
  ⟨some 32, .bin .neq (.s 31) (.c (.int .i64 0)), none⟩] [2, 3, 8, 9, 32])
 (.cond (.s 32) (.seq (.region [⟨some 33, .mv (.s 9), none⟩,
  ⟨some 6, .mv (.c (.sl 0 true .exact [])), none⟩,
  ⟨some 7, .mv (.s 33), none⟩] [6, 7])
 .ret)
 .skip))
 (.seq (.region [⟨some 34, .fieldAddr (.s 3) 1, none⟩,
  ⟨some 35, .load 1 false (.s 34) 3 false, none⟩,
  ⟨some 36, .len (.s 35) .l false, none⟩,
  ⟨some 37, .mkSlice 1 24 [.sl 0 true .exact []] (.s 36) (.s 36) false, none⟩,
  ⟨some 10, .take 37, none⟩] [2, 3, 8, 10])
 (.seq (.region [⟨some 38, .fieldAddr (.s 3) 1, none⟩,
  ⟨some 39, .load 1 false (.s 38) 3 false, none⟩,
  ⟨some 40, .len (.s 39) .l false, none⟩,
  ⟨some 41, .mkSlice 1 24 [.sl 0 true .exact []] (.s 40) (.s 40) false, none⟩,
  ⟨some 11, .take 41, none⟩] [2, 3, 8, 10, 11])
 (.seq (.seq (.region [⟨some 42, .mv (.s 2), none⟩,
  ⟨some 43, .len (.s 42) .l false, none⟩,
  ⟨some 44, .mv (.c (.int .i64 0)), none⟩] [3, 8, 10, 11, 42, 43, 44])
 (.block 0 (.loop [3, 8, 10, 11, 42, 43, 44] (.seq (.region [⟨some 45, .bin .lss (.s 44) (.s 43), none⟩] [3, 8, 10, 11, 42, 43, 44, 45])
 (.seq (.cond (.s 45) .skip
 (.exit 0))
 (.seq (.block 1 (.seq (.region [⟨some 46, .indexSl (.s 42) (.s 44) 3, none⟩,
  ⟨some 47, .load 3 true (.s 46) 0 true, none⟩,
  ⟨some 13, .alloc [.int .i64 0, .sl 0 true .exact [], .sl 0 true .exact []], none⟩,
  ⟨none, .store 3 (.s 13) (.s 47) 13 false, none⟩] [3, 8, 10, 11, 13, 42, 43, 44])
 (.seq (.seq (.region [⟨some 48, .fieldAddr (.s 13) 2, none⟩,
  ⟨some 49, .load 1 false (.s 48) 13 false, none⟩,
  ⟨some 50, .len (.s 49) .l false, none⟩,
  ⟨some 51, .bin .gtr (.s 50) (.c (.int .i64 0)), none⟩] [3, 8, 10, 11, 13, 42, 43, 44, 51])
 (.cond (.s 51) (.region [⟨some 52, .mv (.s 10), none⟩,
  ⟨some 53, .fieldAddr (.s 13) 0, none⟩,
  ⟨some 54, .load 1 false (.s 53) 13 false, none⟩,
  ⟨some 55, .mv (.s 10), none⟩,
  ⟨some 56, .fieldAddr (.s 13) 0, none⟩,
  ⟨some 57, .load 1 false (.s 56) 13 false, none⟩,
  ⟨some 58, .indexSl (.s 55) (.s 57) 1, none⟩,
  ⟨some 59, .loadTake (.s 58) 0 true, none⟩,
  ⟨some 60, .load 2 true (.s 3) 3 false, none⟩,
  ⟨some 61, .fieldAddr (.s 13) 0, none⟩,
  ⟨some 62, .load 1 false (.s 61) 13 false, none⟩,
  ⟨some 63, .fieldAddr (.s 13) 2, none⟩,
  ⟨some 64, .load 1 false (.s 63) 13 false, none⟩,
  ⟨some 65, .call (.fn 42) [(.s 60), (.s 62), (.s 64)] true, none⟩,
  ⟨some 66, .bsl 1 1 [.sl 0 true .exact []] [(0, (.s 65))] false, none⟩,
  ⟨some 67, .append (.s 59) (.s 66) 1 24 false false, none⟩,
  ⟨some 68, .indexSl (.s 52) (.s 54) 1, none⟩,
  ⟨none, .storeTake (.s 68) 67 0 true, none⟩] [3, 8, 10, 11, 13, 42, 43, 44])
 .skip))
 (.seq (.region [⟨some 69, .fieldAddr (.s 13) 1, none⟩,
  ⟨some 70, .load 1 false (.s 69) 13 false, none⟩,
  ⟨some 71, .len (.s 70) .l false, none⟩,
  ⟨some 72, .bin .gtr (.s 71) (.c (.int .i64 0)), none⟩] [3, 8, 10, 11, 13, 42, 43, 44, 72])
 (.cond (.s 72) (.seq (.region [⟨some 73, .load 2 true (.s 3) 3 false, none⟩,
  ⟨some 74, .fieldAddr (.s 13) 0, none⟩,
  ⟨some 75, .load 1 false (.s 74) 13 false, none⟩,
  ⟨some 76, .fieldAddr (.s 13) 1, none⟩,
  ⟨some 77, .load 1 false (.s 76) 13 false, none⟩,
  ⟨some 78, .call (.fn 42) [(.s 73), (.s 75), (.s 77)] false, none⟩,
  ⟨some 14, .mv (.s 78), none⟩] [3, 8, 10, 11, 13, 14, 42, 43, 44])
 (.seq (.region [⟨some 80, .load 2 true (.s 3) 3 false, none⟩,
  ⟨some 81, .load 1 true (.s 8) 8 false, none⟩,
  ⟨some 82, .fieldAddr (.s 13) 0, none⟩,
  ⟨some 83, .load 1 false (.s 82) 13 false, none⟩,
  ⟨some 84, .mv (.s 14), none⟩,
  ⟨some 85, .call (.fn 46) [(.s 80), (.s 81), (.s 83), (.s 84)] false, none⟩,
  ⟨some 79, .mv (.s 85), none⟩,
  ⟨some 86, .extract (.s 79) 0, none⟩,
  ⟨some 87, .extract (.s 79) 1, none⟩,
  ⟨some 15, .mv (.s 86), none⟩,
  ⟨some 16, .mv (.s 87), none⟩] [3, 8, 10, 11, 13, 14, 16, 42, 43, 44])
 (.seq (.region [⟨some 88, .mv (.s 16), none⟩,
  ⟨some 89, .un .not (.s 88), none⟩] [3, 8, 10, 11, 13, 14, 42, 43, 44, 89])
 (.cond (.s 89) (.region [⟨some 90, .mv (.s 11), none⟩,
  ⟨some 91, .fieldAddr (.s 13) 0, none⟩,
  ⟨some 92, .load 1 false (.s 91) 13 false, none⟩,
  ⟨some 93, .mv (.s 11), none⟩,
  ⟨some 94, .fieldAddr (.s 13) 0, none⟩,
  ⟨some 95, .load 1 false (.s 94) 13 false, none⟩,
  ⟨some 96, .indexSl (.s 93) (.s 95) 1, none⟩,
  ⟨some 97, .loadTake (.s 96) 0 true, none⟩,
  ⟨some 98, .mv (.s 14), none⟩,
  ⟨some 99, .bsl 1 1 [.sl 0 true .exact []] [(0, (.s 98))] false, none⟩,
  ⟨some 100, .append (.s 97) (.s 99) 1 24 false false, none⟩,
  ⟨some 101, .indexSl (.s 90) (.s 92) 1, none⟩,
  ⟨none, .storeTake (.s 101) 100 0 true, none⟩] [3, 8, 10, 11, 42, 43, 44])
 .skip))))
 .skip)))))
 (.region [⟨some 102, .bin .add (.s 44) (.c (.int .i64 1)), none⟩,
  ⟨some 44, .mv (.s 102), none⟩] [3, 8, 10, 11, 42, 43, 44])))))))
 (.seq (.region [⟨some 17, .mv (.c (.sl 0 true .exact [])), none⟩] [3, 8, 10, 11, 17])
 (.seq (.seq (.region [⟨some 103, .load 2 true (.s 3) 3 false, none⟩,
  ⟨some 104, .load 1 true (.s 8) 8 false, none⟩,
  ⟨some 105, .call (.fn 62) [(.s 103), (.s 104)] false, none⟩,
  ⟨some 106, .len (.s 105) .l false, none⟩,
  ⟨some 107, .mv (.c (.int .i64 0)), none⟩] [3, 8, 10, 11, 17, 105, 106, 107])
 (.block 2 (.loop [3, 8, 10, 11, 17, 105, 106, 107] (.seq (.region [⟨some 108, .bin .lss (.s 107) (.s 106), none⟩] [3, 8, 10, 11, 17, 105, 106, 107, 108])
 (.seq (.cond (.s 108) .skip
 (.exit 2))
 (.seq (.block 3 (.seq (.region [⟨some 109, .indexSl (.s 105) (.s 107) 4, none⟩,
  ⟨some 110, .load 4 true (.s 109) 0 true, none⟩,
  ⟨some 19, .alloc [.int .i64 0, .int .i64 0, .sl 0 true .exact [], .int .i64 0], none⟩,
  ⟨none, .store 4 (.s 19) (.s 110) 19 false, none⟩] [3, 8, 10, 11, 17, 19, 105, 106, 107])
 (.seq (.region [⟨some 111, .mv (.s 10), none⟩,
  ⟨some 112, .fieldAddr (.s 19) 1, none⟩,
  ⟨some 113, .load 1 false (.s 112) 19 false, none⟩,
  ⟨some 114, .indexSl (.s 111) (.s 113) 1, none⟩,
  ⟨some 115, .load 1 false (.s 114) 0 true, none⟩,
  ⟨some 116, .fieldAddr (.s 19) 2, none⟩,
  ⟨some 117, .load 1 false (.s 116) 19 false, none⟩,
  ⟨some 118, .call (.fn 63) [(.s 115), (.s 117)] false, none⟩,
  ⟨some 20, .mv (.s 118), none⟩] [3, 8, 10, 11, 17, 19, 20, 105, 106, 107])
 (.seq (.seq (.region [⟨some 119, .mv (.s 20), none⟩,
  ⟨some 120, .un .not (.s 119), none⟩,
  ⟨some 121, .mv (.s 120), none⟩,
  ⟨some 122, .fieldAddr (.s 19) 0, some (121, true)⟩,
  ⟨some 123, .load 1 false (.s 122) 19 false, some (121, true)⟩,
  ⟨some 124, .bin .eql (.s 123) (.c (.int .i64 1)), some (121, true)⟩,
  ⟨some 125, .pick (.s 121) (.s 124) (.c (.bool false)), none⟩] [3, 8, 10, 11, 17, 19, 20, 105, 106, 107, 125])
 (.cond (.s 125) (.seq (.region [⟨some 126, .fieldAddr (.s 3) 1, none⟩,
  ⟨some 127, .load 1 false (.s 126) 3 false, none⟩,
  ⟨some 128, .fieldAddr (.s 19) 1, none⟩,
  ⟨some 129, .load 1 false (.s 128) 19 false, none⟩,
  ⟨some 130, .indexSl (.s 127) (.s 129) 5, none⟩,
  ⟨some 131, .fieldAddr (.s 130) 3, none⟩,
  ⟨some 132, .load 1 false (.s 131) 0 true, none⟩,
  ⟨some 133, .fieldAddr (.s 19) 3, none⟩,
  ⟨some 134, .load 1 false (.s 133) 19 false, none⟩,
  ⟨some 135, .indexSl (.s 132) (.s 134) 2, none⟩,
  ⟨some 136, .load 2 true (.s 135) 0 true, none⟩,
  ⟨some 21, .alloc [.sl 0 true .exact [], .int .i64 0], none⟩,
  ⟨none, .store 2 (.s 21) (.s 136) 21 false, none⟩] [3, 8, 10, 11, 17, 19, 21, 105, 106, 107])
 (.seq (.region [⟨some 138, .load 2 true (.s 3) 3 false, none⟩,
  ⟨some 139, .load 1 true (.s 8) 8 false, none⟩,
  ⟨some 140, .fieldAddr (.s 19) 1, none⟩,
  ⟨some 141, .load 1 false (.s 140) 19 false, none⟩,
  ⟨some 142, .fieldAddr (.s 19) 2, none⟩,
  ⟨some 143, .load 1 false (.s 142) 19 false, none⟩,
  ⟨some 144, .call (.fn 46) [(.s 138), (.s 139), (.s 141), (.s 143)] false, none⟩,
  ⟨some 137, .mv (.s 144), none⟩,
  ⟨some 145, .extract (.s 137) 0, none⟩,
  ⟨some 146, .extract (.s 137) 1, none⟩,
  ⟨some 22, .mv (.s 145), none⟩,
  ⟨some 23, .mv (.s 146), none⟩] [3, 8, 10, 11, 17, 19, 21, 22, 105, 106, 107])
 (.region [⟨some 147, .mv (.s 11), none⟩,
  ⟨some 148, .fieldAddr (.s 21) 1, none⟩,
  ⟨some 149, .load 1 false (.s 148) 21 false, none⟩,
  ⟨some 150, .indexSl (.s 147) (.s 149) 1, none⟩,
  ⟨some 151, .load 1 false (.s 150) 0 true, none⟩,
  ⟨some 152, .mv (.s 22), none⟩,
  ⟨some 153, .fieldAddr (.s 21) 0, none⟩,
  ⟨some 154, .load 1 false (.s 153) 21 false, none⟩,
  ⟨some 155, .call (.fn 64) [(.s 152), (.s 154)] true, none⟩,
  ⟨some 156, .call (.fn 63) [(.s 151), (.s 155)] false, none⟩,
  ⟨some 20, .mv (.s 156), none⟩] [3, 8, 10, 11, 17, 19, 20, 105, 106, 107])))
 .skip))
 (.seq (.region [⟨some 157, .mv (.s 20), none⟩] [3, 8, 10, 11, 17, 19, 105, 106, 107, 157])
 (.cond (.s 157) (.region [⟨some 158, .take 17, none⟩,
  ⟨some 159, .load 4 true (.s 19) 19 false, none⟩,
  ⟨some 160, .bsl 4 1 [.int .i64 0, .int .i64 0, .sl 0 true .exact [], .int .i64 0] [(0, (.s 159))] false, none⟩,
  ⟨some 161, .append (.s 158) (.s 160) 4 48 false false, none⟩,
  ⟨some 17, .take 161, none⟩] [3, 8, 10, 11, 17, 105, 106, 107])
 .skip))))))
 (.region [⟨some 162, .bin .add (.s 107) (.c (.int .i64 1)), none⟩,
  ⟨some 107, .mv (.s 162), none⟩] [3, 8, 10, 11, 17, 105, 106, 107])))))))
 (.seq (.region [⟨some 163, .mv (.s 17), none⟩,
  ⟨some 6, .mv (.s 163), none⟩,
  ⟨some 7, .mv (.c (.int .i64 0)), none⟩] [6, 7])
 .ret))))))))) }

/-- value.CompareRows -/
def g29 : GFun :=
 { nparams := 2, keepHeap := false, results := [.inl 4], body :=
 (.seq (.region [⟨some 4, .mv (.c (.int .i64 0)), none⟩] [0, 1])
 (.seq (.seq (.region [⟨some 5, .mv (.c (.int .i64 0)), none⟩] [0, 1, 5])
 (.block 0 (.loop [0, 1, 5] (.seq (.seq (.region [⟨some 7, .mv (.s 5), none⟩,
  ⟨some 8, .mv (.s 0), none⟩,
  ⟨some 9, .len (.s 8) .l false, none⟩,
  ⟨some 10, .bin .lss (.s 7) (.s 9), none⟩,
  ⟨some 11, .mv (.s 10), none⟩,
  ⟨some 12, .mv (.s 5), some (11, true)⟩,
  ⟨some 13, .mv (.s 1), some (11, true)⟩,
  ⟨some 14, .len (.s 13) .l false, some (11, true)⟩,
  ⟨some 15, .bin .lss (.s 12) (.s 14), some (11, true)⟩,
  ⟨some 16, .pick (.s 11) (.s 15) (.c (.bool false)), none⟩] [0, 1, 5, 16])
 (.cond (.s 16) .skip
 (.exit 0)))
 (.seq (.block 1 (.seq (.region [⟨some 19, .mv (.s 0), none⟩,
  ⟨some 20, .mv (.s 5), none⟩,
  ⟨some 21, .indexSl (.s 19) (.s 20) 3, none⟩,
  ⟨some 22, .load 3 true (.s 21) 0 true, none⟩,
  ⟨some 23, .mv (.s 1), none⟩,
  ⟨some 24, .mv (.s 5), none⟩,
  ⟨some 25, .indexSl (.s 23) (.s 24) 3, none⟩,
  ⟨some 26, .load 3 true (.s 25) 0 true, none⟩,
  ⟨some 27, .call (.fn 65) [(.s 22), (.s 26)] false, none⟩,
  ⟨some 6, .mv (.s 27), none⟩] [0, 1, 5, 6])
 (.seq (.region [⟨some 28, .mv (.s 6), none⟩,
  ⟨some 29, .bin .neq (.s 28) (.c (.int .i64 0)), none⟩] [0, 1, 5, 6, 29])
 (.cond (.s 29) (.seq (.region [⟨some 30, .mv (.s 6), none⟩,
  ⟨some 4, .mv (.s 30), none⟩] [4])
 .ret)
 .skip))))
 (.region [⟨some 17, .mv (.s 5), none⟩,
  ⟨some 18, .bin .add (.s 17) (.c (.int .i64 1)), none⟩,
  ⟨some 5, .mv (.s 18), none⟩] [0, 1, 5]))))))
 (.seq (.block 2 (.seq (.region [⟨some 32, .mv (.s 0), none⟩,
  ⟨some 33, .len (.s 32) .l false, none⟩,
  ⟨some 34, .mv (.s 1), none⟩,
  ⟨some 35, .len (.s 34) .l false, none⟩,
  ⟨some 36, .bin .lss (.s 33) (.s 35), none⟩,
  ⟨some 31, .mv (.s 36), none⟩] [0, 1, 31])
 (.cond (.s 31) (.seq (.region [⟨some 4, .mv (.c (.int .i64 (-1))), none⟩] [4])
 .ret)
 (.seq (.region [⟨some 38, .mv (.s 0), none⟩,
  ⟨some 39, .len (.s 38) .l false, none⟩,
  ⟨some 40, .mv (.s 1), none⟩,
  ⟨some 41, .len (.s 40) .l false, none⟩,
  ⟨some 42, .bin .gtr (.s 39) (.s 41), none⟩,
  ⟨some 37, .mv (.s 42), none⟩] [37])
 (.cond (.s 37) (.seq (.region [⟨some 4, .mv (.c (.int .i64 1)), none⟩] [4])
 .ret)
 .skip)))))
 (.seq (.region [⟨some 4, .mv (.c (.int .i64 0)), none⟩] [4])
 .ret)))) }

/-- schema.limits -/
def g30 : GFun :=
 { nparams := 1, keepHeap := false, results := [.inl 2], body :=
 (.seq (.region [⟨some 1, .box (.s 0), none⟩,
  ⟨some 2, .mv (.c (.bool false)), none⟩] [1])
 (.seq (.seq (.region [⟨some 5, .fieldAddr (.s 1) 1, none⟩,
  ⟨some 6, .load 1 false (.s 5) 1 false, none⟩,
  ⟨some 7, .len (.s 6) .l false, none⟩,
  ⟨some 8, .bin .gtr (.s 7) (.c (.int .i64 8)), none⟩] [1, 8])
 (.cond (.s 8) (.seq (.region [⟨some 2, .mv (.c (.bool false)), none⟩] [2])
 .ret)
 .skip))
 (.seq (.seq (.region [⟨some 9, .fieldAddr (.s 1) 1, none⟩,
  ⟨some 10, .load 1 false (.s 9) 1 false, none⟩,
  ⟨some 11, .len (.s 10) .l false, none⟩,
  ⟨some 12, .mv (.c (.int .i64 0)), none⟩] [10, 11, 12])
 (.block 0 (.loop [10, 11, 12] (.seq (.region [⟨some 13, .bin .lss (.s 12) (.s 11), none⟩] [10, 11, 12, 13])
 (.seq (.cond (.s 13) .skip
 (.exit 0))
 (.seq (.block 1 (.seq (.region [⟨some 14, .indexSl (.s 10) (.s 12) 5, none⟩,
  ⟨some 15, .load 5 true (.s 14) 0 true, none⟩,
  ⟨some 4, .alloc [.str [], .sl 0 true .exact [], .int .i64 0, .sl 0 true .exact [], .sl 0 true .exact []], none⟩,
  ⟨none, .store 5 (.s 4) (.s 15) 4 false, none⟩] [4, 10, 11, 12])
 (.seq (.region [⟨some 16, .fieldAddr (.s 4) 1, none⟩,
  ⟨some 17, .load 1 false (.s 16) 4 false, none⟩,
  ⟨some 18, .len (.s 17) .l false, none⟩,
  ⟨some 19, .bin .gtr (.s 18) (.c (.int .i64 8)), none⟩,
  ⟨some 20, .mv (.s 19), none⟩,
  ⟨some 21, .fieldAddr (.s 4) 3, some (20, false)⟩,
  ⟨some 22, .load 1 false (.s 21) 4 false, some (20, false)⟩,
  ⟨some 23, .len (.s 22) .l false, some (20, false)⟩,
  ⟨some 24, .bin .gtr (.s 23) (.c (.int .i64 4)), some (20, false)⟩,
  ⟨some 25, .pick (.s 20) (.c (.bool true)) (.s 24), none⟩,
  ⟨some 26, .mv (.s 25), none⟩,
  ⟨some 27, .fieldAddr (.s 4) 4, some (26, false)⟩,
  ⟨some 28, .load 1 false (.s 27) 4 false, some (26, false)⟩,
  ⟨some 29, .len (.s 28) .l false, some (26, false)⟩,
  ⟨some 30, .bin .gtr (.s 29) (.c (.int .i64 4)), some (26, false)⟩,
  ⟨some 31, .pick (.s 26) (.c (.bool true)) (.s 30), none⟩] [10, 11, 12, 31])
 (.cond (.s 31) (.seq (.region [⟨some 2, .mv (.c (.bool false)), none⟩] [2])
 .ret)
 .skip))))
 (.region [⟨some 32, .bin .add (.s 12) (.c (.int .i64 1)), none⟩,
  ⟨some 12, .mv (.s 32), none⟩] [10, 11, 12])))))))
 (.seq (.region [⟨some 2, .mv (.c (.bool true)), none⟩] [2])
 .ret)))) }

/-- schema.sound -/
def g31 : GFun :=
 { nparams := 1, keepHeap := false, results := [.inl 2], body :=
 (.seq (.region [⟨some 1, .box (.s 0), none⟩,
  ⟨some 2, .mv (.c (.bool false)), none⟩] [1])
 (.seq (.seq (.region [⟨some 16, .fieldAddr (.s 1) 0, none⟩,
  ⟨some 17, .load 1 false (.s 16) 1 false, none⟩,
  ⟨some 18, .bin .lss (.s 17) (.c (.int .i64 0)), none⟩,
  ⟨some 19, .mv (.s 18), none⟩,
  ⟨some 20, .fieldAddr (.s 1) 0, some (19, false)⟩,
  ⟨some 21, .load 1 false (.s 20) 1 false, some (19, false)⟩,
  ⟨some 22, .bin .gtr (.s 21) (.c (.int .i64 1000)), some (19, false)⟩,
  ⟨some 23, .pick (.s 19) (.c (.bool true)) (.s 22), none⟩] [1, 23])
 (.cond (.s 23) (.seq (.region [⟨some 2, .mv (.c (.bool false)), none⟩] [2])
 .ret)
 .skip))
 (.seq (.region [⟨some 24, .mkMap, none⟩,
  ⟨some 3, .mv (.s 24), none⟩] [1, 3])
 (.seq (.seq (.region [⟨some 25, .fieldAddr (.s 1) 1, none⟩,
  ⟨some 26, .load 1 false (.s 25) 1 false, none⟩,
  ⟨some 27, .len (.s 26) .l false, none⟩,
  ⟨some 28, .mv (.c (.int .i64 0)), none⟩] [1, 3, 26, 27, 28])
 (.block 0 (.loop [1, 3, 26, 27, 28] (.seq (.region [⟨some 29, .bin .lss (.s 28) (.s 27), none⟩] [1, 3, 26, 27, 28, 29])
 (.seq (.cond (.s 29) .skip
 (.exit 0))
 (.seq (.block 1 (.seq (.region [⟨some 30, .indexSl (.s 26) (.s 28) 5, none⟩,
  ⟨some 31, .load 5 true (.s 30) 0 true, none⟩,
  ⟨some 5, .alloc [.str [], .sl 0 true .exact [], .int .i64 0, .sl 0 true .exact [], .sl 0 true .exact []], none⟩,
  ⟨none, .store 5 (.s 5) (.s 31) 5 false, none⟩] [1, 3, 5, 26, 27, 28])
 (.seq (.seq (.region [⟨some 32, .fieldAddr (.s 5) 0, none⟩,
  ⟨some 33, .load 1 false (.s 32) 5 false, none⟩,
  ⟨some 34, .call (.fn 66) [(.s 33)] false, none⟩,
  ⟨some 35, .un .not (.s 34), none⟩,
  ⟨some 36, .mv (.s 35), none⟩,
  ⟨some 37, .mv (.s 3), some (36, false)⟩,
  ⟨some 38, .fieldAddr (.s 5) 0, some (36, false)⟩,
  ⟨some 39, .load 1 false (.s 38) 5 false, some (36, false)⟩,
  ⟨some 40, .lookup (.s 37) (.s 39) (.bool false) false true, some (36, false)⟩,
  ⟨some 41, .pick (.s 36) (.c (.bool true)) (.s 40), none⟩,
  ⟨some 42, .mv (.s 41), none⟩,
  ⟨some 43, .fieldAddr (.s 5) 1, some (42, false)⟩,
  ⟨some 44, .load 1 false (.s 43) 5 false, some (42, false)⟩,
  ⟨some 45, .len (.s 44) .l false, some (42, false)⟩,
  ⟨some 46, .bin .eql (.s 45) (.c (.int .i64 0)), some (42, false)⟩,
  ⟨some 47, .pick (.s 42) (.c (.bool true)) (.s 46), none⟩,
  ⟨some 48, .mv (.s 47), none⟩,
  ⟨some 49, .fieldAddr (.s 5) 2, some (48, false)⟩,
  ⟨some 50, .load 1 false (.s 49) 5 false, some (48, false)⟩,
  ⟨some 51, .bin .lss (.s 50) (.c (.int .i64 1)), some (48, false)⟩,
  ⟨some 52, .pick (.s 48) (.c (.bool true)) (.s 51), none⟩,
  ⟨some 53, .mv (.s 52), none⟩,
  ⟨some 54, .fieldAddr (.s 5) 2, some (53, false)⟩,
  ⟨some 55, .load 1 false (.s 54) 5 false, some (53, false)⟩,
  ⟨some 56, .fieldAddr (.s 5) 1, some (53, false)⟩,
  ⟨some 57, .load 1 false (.s 56) 5 false, some (53, false)⟩,
  ⟨some 58, .len (.s 57) .l false, some (53, false)⟩,
  ⟨some 59, .bin .gtr (.s 55) (.s 58), some (53, false)⟩,
  ⟨some 60, .pick (.s 53) (.c (.bool true)) (.s 59), none⟩] [1, 3, 5, 26, 27, 28, 60])
 (.cond (.s 60) (.seq (.region [⟨some 2, .mv (.c (.bool false)), none⟩] [2])
 .ret)
 .skip))
 (.seq (.region [⟨some 61, .mv (.s 3), none⟩,
  ⟨some 62, .fieldAddr (.s 5) 0, none⟩,
  ⟨some 63, .load 1 false (.s 62) 5 false, none⟩,
  ⟨none, .mapUpdate (.s 61) (.s 63) (.c (.bool true)) true, none⟩] [1, 3, 5, 26, 27, 28])
 (.seq (.region [⟨some 64, .mkMap, none⟩,
  ⟨some 6, .mv (.s 64), none⟩] [1, 3, 5, 6, 26, 27, 28])
 (.seq (.region [⟨some 65, .fieldAddr (.s 5) 1, none⟩,
  ⟨some 66, .load 1 false (.s 65) 5 false, none⟩,
  ⟨some 67, .len (.s 66) .l false, none⟩,
  ⟨some 68, .mv (.c (.int .i64 0)), none⟩] [1, 3, 6, 26, 27, 28, 66, 67, 68])
 (.block 2 (.loop [1, 3, 6, 26, 27, 28, 66, 67, 68] (.seq (.region [⟨some 69, .bin .lss (.s 68) (.s 67), none⟩] [1, 3, 6, 26, 27, 28, 66, 67, 68, 69])
 (.seq (.cond (.s 69) .skip
 (.exit 2))
 (.seq (.block 3 (.seq (.region [⟨some 70, .indexSl (.s 66) (.s 68) 2, none⟩,
  ⟨some 71, .load 2 true (.s 70) 0 true, none⟩,
  ⟨some 8, .alloc [.str [], .int .i64 0], none⟩,
  ⟨none, .store 2 (.s 8) (.s 71) 8 false, none⟩] [1, 3, 6, 8, 26, 27, 28, 66, 67, 68])
 (.seq (.seq (.region [⟨some 72, .fieldAddr (.s 8) 0, none⟩,
  ⟨some 73, .load 1 false (.s 72) 8 false, none⟩,
  ⟨some 74, .call (.fn 66) [(.s 73)] false, none⟩,
  ⟨some 75, .un .not (.s 74), none⟩,
  ⟨some 76, .mv (.s 75), none⟩,
  ⟨some 77, .mv (.s 6), some (76, false)⟩,
  ⟨some 78, .fieldAddr (.s 8) 0, some (76, false)⟩,
  ⟨some 79, .load 1 false (.s 78) 8 false, some (76, false)⟩,
  ⟨some 80, .lookup (.s 77) (.s 79) (.bool false) false true, some (76, false)⟩,
  ⟨some 81, .pick (.s 76) (.c (.bool true)) (.s 80), none⟩,
  ⟨some 82, .mv (.s 81), none⟩,
  ⟨some 83, .fieldAddr (.s 8) 1, some (82, false)⟩,
  ⟨some 84, .load 1 false (.s 83) 8 false, some (82, false)⟩,
  ⟨some 85, .bin .neq (.s 84) (.c (.int .i64 3)), some (82, false)⟩,
  ⟨some 86, .mv (.s 85), some (82, false)⟩,
  ⟨some 87, .fieldAddr (.s 8) 1, some (86, true)⟩,
  ⟨some 88, .load 1 false (.s 87) 8 false, some (86, true)⟩,
  ⟨some 89, .bin .neq (.s 88) (.c (.int .i64 4)), some (86, true)⟩,
  ⟨some 90, .pick (.s 86) (.s 89) (.c (.bool false)), some (82, false)⟩,
  ⟨some 91, .mv (.s 90), some (82, false)⟩,
  ⟨some 92, .fieldAddr (.s 8) 1, some (91, true)⟩,
  ⟨some 93, .load 1 false (.s 92) 8 false, some (91, true)⟩,
  ⟨some 94, .bin .neq (.s 93) (.c (.int .i64 5)), some (91, true)⟩,
  ⟨some 95, .pick (.s 91) (.s 94) (.c (.bool false)), some (82, false)⟩,
  ⟨some 96, .pick (.s 82) (.c (.bool true)) (.s 95), none⟩] [1, 3, 6, 8, 26, 27, 28, 66, 67, 68, 96])
 (.cond (.s 96) (.seq (.region [⟨some 2, .mv (.c (.bool false)), none⟩] [2])
 .ret)
 .skip))
 (.region [⟨some 97, .mv (.s 6), none⟩,
  ⟨some 98, .fieldAddr (.s 8) 0, none⟩,
  ⟨some 99, .load 1 false (.s 98) 8 false, none⟩,
  ⟨none, .mapUpdate (.s 97) (.s 99) (.c (.bool true)) true, none⟩] [1, 3, 6, 26, 27, 28, 66, 67, 68]))))
 (.region [⟨some 100, .bin .add (.s 68) (.c (.int .i64 1)), none⟩,
  ⟨some 68, .mv (.s 100), none⟩] [1, 3, 6, 26, 27, 28, 66, 67, 68]))))))))))))
 (.region [⟨some 101, .bin .add (.s 28) (.c (.int .i64 1)), none⟩,
  ⟨some 28, .mv (.s 101), none⟩] [1, 3, 26, 27, 28])))))))
 (.seq (.seq (.region [⟨some 102, .fieldAddr (.s 1) 1, none⟩,
  ⟨some 103, .load 1 false (.s 102) 1 false, none⟩,
  ⟨some 104, .len (.s 103) .l false, none⟩,
  ⟨some 105, .mv (.c (.int .i64 0)), none⟩] [1, 103, 104, 105])
 (.block 4 (.loop [1, 103, 104, 105] (.seq (.region [⟨some 106, .bin .lss (.s 105) (.s 104), none⟩] [1, 103, 104, 105, 106])
 (.seq (.cond (.s 106) .skip
 (.exit 4))
 (.seq (.block 5 (.seq (.region [⟨some 107, .indexSl (.s 103) (.s 105) 5, none⟩,
  ⟨some 108, .load 5 true (.s 107) 0 true, none⟩,
  ⟨some 10, .alloc [.str [], .sl 0 true .exact [], .int .i64 0, .sl 0 true .exact [], .sl 0 true .exact []], none⟩,
  ⟨none, .store 5 (.s 10) (.s 108) 10 false, none⟩] [1, 10, 103, 104, 105])
 (.seq (.region [⟨some 109, .fieldAddr (.s 10) 3, none⟩,
  ⟨some 110, .load 1 false (.s 109) 10 false, none⟩,
  ⟨some 111, .len (.s 110) .l false, none⟩,
  ⟨some 112, .mv (.c (.int .i64 0)), none⟩] [1, 10, 103, 104, 105, 110, 111, 112])
 (.block 6 (.loop [1, 10, 103, 104, 105, 110, 111, 112] (.seq (.region [⟨some 113, .bin .lss (.s 112) (.s 111), none⟩] [1, 10, 103, 104, 105, 110, 111, 112, 113])
 (.seq (.cond (.s 113) .skip
 (.exit 6))
 (.seq (.block 7 (.seq (.region [⟨some 114, .indexSl (.s 110) (.s 112) 2, none⟩,
  ⟨some 115, .load 2 true (.s 114) 0 true, none⟩,
  ⟨some 12, .alloc [.sl 0 true .exact [], .int .i64 0], none⟩,
  ⟨none, .store 2 (.s 12) (.s 115) 12 false, none⟩] [1, 10, 12, 103, 104, 105, 110, 111, 112])
 (.seq (.seq (.region [⟨some 116, .fieldAddr (.s 12) 1, none⟩,
  ⟨some 117, .load 1 false (.s 116) 12 false, none⟩,
  ⟨some 118, .bin .lss (.s 117) (.c (.int .i64 0)), none⟩,
  ⟨some 119, .mv (.s 118), none⟩,
  ⟨some 120, .fieldAddr (.s 12) 1, some (119, false)⟩,
  ⟨some 121, .load 1 false (.s 120) 12 false, some (119, false)⟩,
  ⟨some 122, .fieldAddr (.s 1) 1, some (119, false)⟩,
  ⟨some 123, .load 1 false (.s 122) 1 false, some (119, false)⟩,
  ⟨some 124, .len (.s 123) .l false, some (119, false)⟩,
  ⟨some 125, .bin .geq (.s 121) (.s 124), some (119, false)⟩,
  ⟨some 126, .pick (.s 119) (.c (.bool true)) (.s 125), none⟩] [1, 10, 12, 103, 104, 105, 110, 111, 112, 126])
 (.cond (.s 126) (.seq (.region [⟨some 2, .mv (.c (.bool false)), none⟩] [2])
 .ret)
 .skip))
 (.seq (.region [⟨some 127, .fieldAddr (.s 1) 1, none⟩,
  ⟨some 128, .load 1 false (.s 127) 1 false, none⟩,
  ⟨some 129, .fieldAddr (.s 12) 1, none⟩,
  ⟨some 130, .load 1 false (.s 129) 12 false, none⟩,
  ⟨some 131, .indexSl (.s 128) (.s 130) 5, none⟩,
  ⟨some 132, .load 5 true (.s 131) 0 true, none⟩,
  ⟨some 13, .alloc [.str [], .sl 0 true .exact [], .int .i64 0, .sl 0 true .exact [], .sl 0 true .exact []], none⟩,
  ⟨none, .store 5 (.s 13) (.s 132) 13 false, none⟩] [1, 10, 12, 13, 103, 104, 105, 110, 111, 112])
 (.seq (.seq (.region [⟨some 133, .fieldAddr (.s 12) 0, none⟩,
  ⟨some 134, .load 1 false (.s 133) 12 false, none⟩,
  ⟨some 135, .len (.s 134) .l false, none⟩,
  ⟨some 136, .fieldAddr (.s 13) 2, none⟩,
  ⟨some 137, .load 1 false (.s 136) 13 false, none⟩,
  ⟨some 138, .bin .neq (.s 135) (.s 137), none⟩] [1, 10, 12, 13, 103, 104, 105, 110, 111, 112, 138])
 (.cond (.s 138) (.seq (.region [⟨some 2, .mv (.c (.bool false)), none⟩] [2])
 .ret)
 .skip))
 (.seq (.region [⟨some 139, .fieldAddr (.s 12) 0, none⟩,
  ⟨some 140, .load 1 false (.s 139) 12 false, none⟩,
  ⟨some 141, .len (.s 140) .l false, none⟩,
  ⟨some 142, .mv (.c (.int .i64 0)), none⟩] [1, 10, 13, 103, 104, 105, 110, 111, 112, 140, 141, 142])
 (.block 8 (.loop [1, 10, 13, 103, 104, 105, 110, 111, 112, 140, 141, 142] (.seq (.region [⟨some 143, .bin .lss (.s 142) (.s 141), none⟩] [1, 10, 13, 103, 104, 105, 110, 111, 112, 140, 141, 142, 143])
 (.seq (.cond (.s 143) .skip
 (.exit 8))
 (.seq (.block 9 (.seq (.region [⟨some 144, .mv (.s 142), none⟩,
  ⟨some 145, .indexSl (.s 140) (.s 142) 1, none⟩,
  ⟨some 146, .load 1 false (.s 145) 0 true, none⟩,
  ⟨some 14, .mv (.s 144), none⟩,
  ⟨some 15, .mv (.s 146), none⟩] [1, 10, 13, 14, 15, 103, 104, 105, 110, 111, 112, 140, 141, 142])
 (.seq (.region [⟨some 147, .mv (.s 15), none⟩,
  ⟨some 148, .bin .lss (.s 147) (.c (.int .i64 0)), none⟩,
  ⟨some 149, .mv (.s 148), none⟩,
  ⟨some 150, .mv (.s 15), some (149, false)⟩,
  ⟨some 151, .fieldAddr (.s 10) 1, some (149, false)⟩,
  ⟨some 152, .load 1 false (.s 151) 10 false, some (149, false)⟩,
  ⟨some 153, .len (.s 152) .l false, some (149, false)⟩,
  ⟨some 154, .bin .geq (.s 150) (.s 153), some (149, false)⟩,
  ⟨some 155, .pick (.s 149) (.c (.bool true)) (.s 154), none⟩,
  ⟨some 156, .mv (.s 155), none⟩,
  ⟨some 157, .fieldAddr (.s 10) 1, some (156, false)⟩,
  ⟨some 158, .load 1 false (.s 157) 10 false, some (156, false)⟩,
  ⟨some 159, .mv (.s 15), some (156, false)⟩,
  ⟨some 160, .indexSl (.s 158) (.s 159) 2, some (156, false)⟩,
  ⟨some 161, .fieldAddr (.s 160) 1, some (156, false)⟩,
  ⟨some 162, .load 1 false (.s 161) 0 true, some (156, false)⟩,
  ⟨some 163, .fieldAddr (.s 13) 1, some (156, false)⟩,
  ⟨some 164, .load 1 false (.s 163) 13 false, some (156, false)⟩,
  ⟨some 165, .mv (.s 14), some (156, false)⟩,
  ⟨some 166, .indexSl (.s 164) (.s 165) 2, some (156, false)⟩,
  ⟨some 167, .fieldAddr (.s 166) 1, some (156, false)⟩,
  ⟨some 168, .load 1 false (.s 167) 0 true, some (156, false)⟩,
  ⟨some 169, .bin .neq (.s 162) (.s 168), some (156, false)⟩,
  ⟨some 170, .pick (.s 156) (.c (.bool true)) (.s 169), none⟩] [1, 10, 13, 103, 104, 105, 110, 111, 112, 140, 141, 142, 170])
 (.cond (.s 170) (.seq (.region [⟨some 2, .mv (.c (.bool false)), none⟩] [2])
 .ret)
 .skip))))
 (.region [⟨some 171, .bin .add (.s 142) (.c (.int .i64 1)), none⟩,
  ⟨some 142, .mv (.s 171), none⟩] [1, 10, 13, 103, 104, 105, 110, 111, 112, 140, 141, 142]))))))))))))
 (.region [⟨some 172, .bin .add (.s 112) (.c (.int .i64 1)), none⟩,
  ⟨some 112, .mv (.s 172), none⟩] [1, 10, 103, 104, 105, 110, 111, 112])))))))))
 (.region [⟨some 173, .bin .add (.s 105) (.c (.int .i64 1)), none⟩,
  ⟨some 105, .mv (.s 173), none⟩] [1, 103, 104, 105])))))))
 (.seq (.region [⟨some 2, .mv (.c (.bool true)), none⟩] [2])
 .ret)))))) }

/-- predicate.Check -/
def g32 : GFun :=
 { nparams := 3, keepHeap := false, results := [.inl 6], body :=
 (.seq (.region [⟨some 5, .box (.s 2), none⟩,
  ⟨some 6, .mv (.c (.int .i64 0)), none⟩] [0, 1, 5])
 (.seq (.seq (.region [⟨some 12, .mv (.s 0), none⟩,
  ⟨some 13, .mv (.s 1), none⟩,
  ⟨some 14, .bsl 1 2 [.sl 0 true .exact []] [(0, (.s 12)), (1, (.s 13))] false, none⟩,
  ⟨some 15, .len (.s 14) .l false, none⟩,
  ⟨some 16, .mv (.c (.int .i64 0)), none⟩] [0, 1, 5, 14, 15, 16])
 (.block 0 (.loop [0, 1, 5, 14, 15, 16] (.seq (.region [⟨some 17, .bin .lss (.s 16) (.s 15), none⟩] [0, 1, 5, 14, 15, 16, 17])
 (.seq (.cond (.s 17) .skip
 (.exit 0))
 (.seq (.block 1 (.seq (.region [⟨some 18, .indexSl (.s 14) (.s 16) 1, none⟩,
  ⟨some 19, .load 1 false (.s 18) 0 true, none⟩,
  ⟨some 8, .mv (.s 19), none⟩] [0, 1, 5, 8, 14, 15, 16])
 (.seq (.region [⟨some 20, .mv (.s 8), none⟩,
  ⟨some 21, .len (.s 20) .l false, none⟩,
  ⟨some 22, .mv (.c (.int .i64 0)), none⟩] [0, 1, 5, 14, 15, 16, 20, 21, 22])
 (.block 2 (.loop [0, 1, 5, 14, 15, 16, 20, 21, 22] (.seq (.region [⟨some 23, .bin .lss (.s 22) (.s 21), none⟩] [0, 1, 5, 14, 15, 16, 20, 21, 22, 23])
 (.seq (.cond (.s 23) .skip
 (.exit 2))
 (.seq (.block 3 (.seq (.region [⟨some 24, .indexSl (.s 20) (.s 22) 1, none⟩,
  ⟨some 25, .load 1 false (.s 24) 0 true, none⟩,
  ⟨some 10, .mv (.s 25), none⟩] [0, 1, 5, 10, 14, 15, 16, 20, 21, 22])
 (.seq (.region [⟨some 26, .mv (.s 10), none⟩,
  ⟨some 27, .call (.fn 67) [(.s 26)] false, none⟩,
  ⟨some 28, .un .not (.s 27), none⟩] [0, 1, 5, 14, 15, 16, 20, 21, 22, 28])
 (.cond (.s 28) (.seq (.region [⟨some 6, .mv (.c (.int .i64 1)), none⟩] [6])
 .ret)
 .skip))))
 (.region [⟨some 29, .bin .add (.s 22) (.c (.int .i64 1)), none⟩,
  ⟨some 22, .mv (.s 29), none⟩] [0, 1, 5, 14, 15, 16, 20, 21, 22])))))))))
 (.region [⟨some 30, .bin .add (.s 16) (.c (.int .i64 1)), none⟩,
  ⟨some 16, .mv (.s 30), none⟩] [0, 1, 5, 14, 15, 16])))))))
 (.seq (.region [⟨some 11, .halloc [.int .i64 0], none⟩,
  ⟨none, .store 1 (.s 11) (.c (.int .i64 0)) 0 true, none⟩] [0, 1, 5, 11])
 (.seq (.seq (.region [⟨some 31, .load 13 true (.s 5) 5 false, none⟩,
  ⟨some 32, .call (.fn 68) [(.s 31), (.c (.int .i64 1)), (.s 11)] false, none⟩,
  ⟨some 33, .un .not (.s 32), none⟩] [0, 1, 5, 33])
 (.cond (.s 33) (.seq (.region [⟨some 6, .mv (.c (.int .i64 2)), none⟩] [6])
 .ret)
 .skip))
 (.seq (.seq (.region [⟨some 34, .load 13 true (.s 5) 5 false, none⟩,
  ⟨some 35, .mv (.s 0), none⟩,
  ⟨some 36, .mv (.s 1), none⟩,
  ⟨some 37, .call (.fn 69) [(.s 34), (.s 35), (.s 36)] false, none⟩,
  ⟨some 38, .un .not (.s 37), none⟩] [38])
 (.cond (.s 38) (.seq (.region [⟨some 6, .mv (.c (.int .i64 50)), none⟩] [6])
 .ret)
 .skip))
 (.seq (.region [⟨some 6, .mv (.c (.int .i64 0)), none⟩] [6])
 .ret)))))) }

end Go.Proofs.YtghfcfmgnfhgbaaGreatDoor
