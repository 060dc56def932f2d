/- The code of the functions, by a program of mine (gen.py). -/
import Derived.Test.YtibhcmacccfakaaGreatDoorM1
set_option linter.unusedSectionVars false
set_option linter.unusedVariables false
set_option linter.unusedSimpArgs false
namespace Go.Proofs.YtibhcmacccfakaaGreatDoor
/-- partsynclaw26.ProcedureSums -/
def g3 : GFun :=
 { nparams := 3, keepHeap := false, results := [.inl 6], body :=
 (.seq (.region [⟨some 6, .mv (.c (.bool false)), none⟩] [0, 1, 2])
 (.seq (.region [⟨some 7, .mv (.c (.int .i64 2)), none⟩] [0, 1, 2, 7])
 (.seq (.region [⟨some 13, .mv (.s 0), none⟩,
  ⟨some 14, .mv (.s 1), none⟩,
  ⟨some 15, .bin .add (.s 13) (.s 14), none⟩,
  ⟨some 16, .mv (.s 1), none⟩,
  ⟨some 17, .bin .geq (.s 16) (.c (.int .i64 0)), none⟩,
  ⟨some 18, .mv (.s 17), none⟩,
  ⟨some 19, .mv (.s 0), some (18, true)⟩,
  ⟨some 20, .mv (.s 1), some (18, true)⟩,
  ⟨some 21, .minmax true [(.s 20), (.c (.int .i64 0))], some (18, true)⟩,
  ⟨some 22, .bin .sub (.c (.int .i64 9223372036854775807)) (.s 21), some (18, true)⟩,
  ⟨some 23, .bin .leq (.s 19) (.s 22), some (18, true)⟩,
  ⟨some 24, .pick (.s 18) (.s 23) (.c (.bool false)), none⟩,
  ⟨some 25, .mv (.s 24), none⟩,
  ⟨some 26, .mv (.s 1), some (25, false)⟩,
  ⟨some 27, .bin .lss (.s 26) (.c (.int .i64 0)), some (25, false)⟩,
  ⟨some 28, .mv (.s 27), some (25, false)⟩,
  ⟨some 29, .mv (.s 0), some (28, true)⟩,
  ⟨some 30, .mv (.s 1), some (28, true)⟩,
  ⟨some 31, .minmax false [(.s 30), (.c (.int .i64 0))], some (28, true)⟩,
  ⟨some 32, .bin .sub (.c (.int .i64 (-9223372036854775808))) (.s 31), some (28, true)⟩,
  ⟨some 33, .bin .geq (.s 29) (.s 32), some (28, true)⟩,
  ⟨some 34, .pick (.s 28) (.s 33) (.c (.bool false)), some (25, false)⟩,
  ⟨some 35, .pick (.s 25) (.c (.bool true)) (.s 34), none⟩,
  ⟨some 8, .mv (.s 15), none⟩,
  ⟨some 9, .mv (.s 35), none⟩] [0, 1, 2, 7, 8, 9])
 (.seq (.seq (.region [⟨some 36, .mv (.s 2), none⟩] [0, 1, 7, 8, 9, 36])
 (.cond (.s 36) (.seq (.region [⟨some 7, .mv (.c (.int .i64 3)), none⟩] [0, 1, 7])
 (.region [⟨some 37, .mv (.s 0), none⟩,
  ⟨some 38, .mv (.s 1), none⟩,
  ⟨some 39, .bin .sub (.s 37) (.s 38), none⟩,
  ⟨some 40, .mv (.s 1), none⟩,
  ⟨some 41, .bin .leq (.s 40) (.c (.int .i64 0)), none⟩,
  ⟨some 42, .mv (.s 41), none⟩,
  ⟨some 43, .mv (.s 0), some (42, true)⟩,
  ⟨some 44, .mv (.s 1), some (42, true)⟩,
  ⟨some 45, .minmax false [(.s 44), (.c (.int .i64 0))], some (42, true)⟩,
  ⟨some 46, .bin .add (.c (.int .i64 9223372036854775807)) (.s 45), some (42, true)⟩,
  ⟨some 47, .bin .leq (.s 43) (.s 46), some (42, true)⟩,
  ⟨some 48, .pick (.s 42) (.s 47) (.c (.bool false)), none⟩,
  ⟨some 49, .mv (.s 48), none⟩,
  ⟨some 50, .mv (.s 1), some (49, false)⟩,
  ⟨some 51, .bin .gtr (.s 50) (.c (.int .i64 0)), some (49, false)⟩,
  ⟨some 52, .mv (.s 51), some (49, false)⟩,
  ⟨some 53, .mv (.s 0), some (52, true)⟩,
  ⟨some 54, .mv (.s 1), some (52, true)⟩,
  ⟨some 55, .minmax true [(.s 54), (.c (.int .i64 0))], some (52, true)⟩,
  ⟨some 56, .bin .add (.c (.int .i64 (-9223372036854775808))) (.s 55), some (52, true)⟩,
  ⟨some 57, .bin .geq (.s 53) (.s 56), some (52, true)⟩,
  ⟨some 58, .pick (.s 52) (.s 57) (.c (.bool false)), some (49, false)⟩,
  ⟨some 59, .pick (.s 49) (.c (.bool true)) (.s 58), none⟩,
  ⟨some 8, .mv (.s 39), none⟩,
  ⟨some 9, .mv (.s 59), none⟩] [0, 1, 7, 8, 9]))
 .skip))
 (.seq (.region [⟨some 60, .bsl 1 1 [.int .i64 0] [(0, (.c (.int .i64 4)))] false, none⟩,
  ⟨some 61, .call (.fn 4) [] false, none⟩,
  ⟨some 62, .call (.fn 5) [(.c (.int .i64 8))] false, none⟩,
  ⟨some 63, .build [.int .i64 0, .int .i64 0, .int .i64 0, .int .i64 0, .str []] [(0, 1, (.c (.int .i64 3))), (2, 3, (.s 62))], none⟩,
  ⟨some 64, .build [.int .i64 0, .int .i64 0, .int .i64 0, .int .i64 0, .int .i64 0, .str [], .int .i64 0, .int .i64 0, .int .i64 0, .int .i64 0, .str []] [(0, 1, (.c (.int .i64 1))), (1, 5, (.s 63))], none⟩,
  ⟨some 65, .mv (.s 7), none⟩,
  ⟨some 66, .build [.int .i64 0, .int .i64 0, .int .i64 0, .int .i64 0, .str []] [(0, 1, (.c (.int .i64 1))), (1, 1, (.c (.int .i64 1)))], none⟩,
  ⟨some 67, .build [.int .i64 0, .int .i64 0, .int .i64 0, .int .i64 0, .str []] [(0, 1, (.c (.int .i64 2)))], none⟩,
  ⟨some 68, .build [.int .i64 0, .int .i64 0, .int .i64 0, .int .i64 0, .int .i64 0, .str [], .int .i64 0, .int .i64 0, .int .i64 0, .int .i64 0, .str []] [(0, 1, (.s 65)), (1, 5, (.s 66)), (6, 5, (.s 67))], none⟩,
  ⟨some 69, .bsl 11 2 [.int .i64 0, .int .i64 0, .int .i64 0, .int .i64 0, .int .i64 0, .str [], .int .i64 0, .int .i64 0, .int .i64 0, .int .i64 0, .str []] [(0, (.s 64)), (1, (.s 68))] false, none⟩,
  ⟨some 70, .build [.int .i64 0, .int .i64 0, .int .i64 0, .int .i64 0, .int .i64 0, .int .i64 0, .int .i64 0, .int .i64 0, .int .i64 0, .int .i64 0, .int .i64 0, .str [], .int .i64 0, .int .i64 0, .int .i64 0, .int .i64 0, .str [], .sl 0 true .exact [], .sl 0 true .exact [], .sl 0 true .exact [], .sl 0 true .exact [], .sl 0 true .exact [], .int .i64 0, .sl 0 true .exact [], .sl 0 true .exact [], .sl 0 true .exact []] [(0, 1, (.c (.int .i64 3))), (3, 21, (.s 61)), (25, 1, (.s 69))], none⟩,
  ⟨some 71, .bsl 26 1 [.int .i64 0, .int .i64 0, .int .i64 0, .int .i64 0, .int .i64 0, .int .i64 0, .int .i64 0, .int .i64 0, .int .i64 0, .int .i64 0, .int .i64 0, .str [], .int .i64 0, .int .i64 0, .int .i64 0, .int .i64 0, .str [], .sl 0 true .exact [], .sl 0 true .exact [], .sl 0 true .exact [], .sl 0 true .exact [], .sl 0 true .exact [], .int .i64 0, .sl 0 true .exact [], .sl 0 true .exact [], .sl 0 true .exact []] [(0, (.s 70))] false, none⟩,
  ⟨some 72, .build [.int .i64 0, .sl 0 true .exact [], .sl 0 true .exact []] [(1, 1, (.s 60)), (2, 1, (.s 71))], none⟩,
  ⟨some 10, .alloc [.int .i64 0, .sl 0 true .exact [], .sl 0 true .exact []], none⟩,
  ⟨none, .store 3 (.s 10) (.s 72) 10 false, none⟩] [0, 1, 8, 9, 10])
 (.seq (.region [⟨some 74, .call (.fn 7) [] false, none⟩,
  ⟨some 75, .call (.fn 5) [(.c (.int .i64 1))] false, none⟩,
  ⟨some 76, .mv (.s 0), none⟩,
  ⟨some 77, .call (.fn 5) [(.s 76)] false, none⟩,
  ⟨some 78, .bsl 3 2 [.int .i64 0, .int .i64 0, .str []] [(0, (.s 75)), (1, (.s 77))] false, none⟩,
  ⟨some 79, .bsl 1 1 [.sl 0 true .exact []] [(0, (.s 78))] false, none⟩,
  ⟨some 80, .bsl 1 1 [.sl 0 true .exact []] [(0, (.s 79))] false, none⟩,
  ⟨some 81, .build [.sl 0 true .exact []] [(0, 1, (.s 80))], none⟩,
  ⟨some 82, .load 3 true (.s 10) 10 false, none⟩,
  ⟨some 83, .mv (.s 1), none⟩,
  ⟨some 84, .call (.fn 5) [(.s 83)] false, none⟩,
  ⟨some 85, .bsl 3 1 [.int .i64 0, .int .i64 0, .str []] [(0, (.s 84))] false, none⟩,
  ⟨some 86, .call (.fn 6) [(.s 74), (.s 81), (.s 82), (.s 85)] false, none⟩,
  ⟨some 73, .mv (.s 86), none⟩,
  ⟨some 87, .extract (.s 73) 0, none⟩,
  ⟨some 88, .extract (.s 73) 1, none⟩,
  ⟨some 11, .alloc [.int .i64 0, .sl 0 true .exact [], .sl 0 true .exact []], none⟩,
  ⟨none, .store 3 (.s 11) (.s 87) 11 false, none⟩,
  ⟨some 12, .mv (.s 88), none⟩] [8, 9, 11, 12])
 (.seq (.seq (.region [⟨some 89, .mv (.s 12), none⟩,
  ⟨some 90, .bin .neq (.s 89) (.c (.int .i64 0)), none⟩,
  ⟨some 91, .mv (.s 90), none⟩,
  ⟨some 92, .fieldAddr (.s 11) 1, some (91, false)⟩,
  ⟨some 93, .load 1 false (.s 92) 11 false, some (91, false)⟩,
  ⟨some 94, .len (.s 93) .l false, some (91, false)⟩,
  ⟨some 95, .bin .neq (.s 94) (.c (.int .i64 1)), some (91, false)⟩,
  ⟨some 96, .pick (.s 91) (.c (.bool true)) (.s 95), none⟩] [8, 9, 11, 96])
 (.cond (.s 96) (.seq (.region [⟨some 6, .mv (.c (.bool false)), none⟩] [6])
 .ret)
 .skip))
 (.seq (.seq (.region [⟨some 97, .mv (.s 9), none⟩,
  ⟨some 98, .un .not (.s 97), none⟩] [8, 11, 98])
 (.cond (.s 98) (.seq (.region [⟨some 99, .fieldAddr (.s 11) 0, none⟩,
  ⟨some 100, .load 1 false (.s 99) 11 false, none⟩,
  ⟨some 101, .bin .eql (.s 100) (.c (.int .i64 (-2))), none⟩,
  ⟨some 102, .mv (.s 101), none⟩,
  ⟨some 103, .fieldAddr (.s 11) 2, some (102, true)⟩,
  ⟨some 104, .load 1 false (.s 103) 11 false, some (102, true)⟩,
  ⟨some 105, .len (.s 104) .l false, some (102, true)⟩,
  ⟨some 106, .bin .eql (.s 105) (.c (.int .i64 0)), some (102, true)⟩,
  ⟨some 107, .pick (.s 102) (.s 106) (.c (.bool false)), none⟩,
  ⟨some 108, .mv (.s 107), none⟩,
  ⟨some 109, .call (.fn 8) [] false, some (108, true)⟩,
  ⟨some 110, .pick (.s 108) (.s 109) (.c (.bool false)), none⟩,
  ⟨some 6, .mv (.s 110), none⟩] [6])
 .ret)
 .skip))
 (.seq (.region [⟨some 111, .fieldAddr (.s 11) 0, none⟩,
  ⟨some 112, .load 1 false (.s 111) 11 false, none⟩,
  ⟨some 113, .bin .eql (.s 112) (.c (.int .i64 0)), none⟩,
  ⟨some 114, .mv (.s 113), none⟩,
  ⟨some 115, .fieldAddr (.s 11) 2, some (114, true)⟩,
  ⟨some 116, .load 1 false (.s 115) 11 false, some (114, true)⟩,
  ⟨some 117, .len (.s 116) .l false, some (114, true)⟩,
  ⟨some 118, .bin .eql (.s 117) (.c (.int .i64 1)), some (114, true)⟩,
  ⟨some 119, .pick (.s 114) (.s 118) (.c (.bool false)), none⟩,
  ⟨some 120, .mv (.s 119), none⟩,
  ⟨some 121, .fieldAddr (.s 11) 2, some (120, true)⟩,
  ⟨some 122, .load 1 false (.s 121) 11 false, some (120, true)⟩,
  ⟨some 123, .indexSl (.s 122) (.c (.int .i64 0)) 5, some (120, true)⟩,
  ⟨some 124, .fieldAddr (.s 123) 4, some (120, true)⟩,
  ⟨some 125, .load 1 false (.s 124) 0 true, some (120, true)⟩,
  ⟨some 126, .len (.s 125) .l false, some (120, true)⟩,
  ⟨some 127, .bin .eql (.s 126) (.c (.int .i64 2)), some (120, true)⟩,
  ⟨some 128, .pick (.s 120) (.s 127) (.c (.bool false)), none⟩,
  ⟨some 129, .mv (.s 128), none⟩,
  ⟨some 130, .fieldAddr (.s 11) 2, some (129, true)⟩,
  ⟨some 131, .load 1 false (.s 130) 11 false, some (129, true)⟩,
  ⟨some 132, .indexSl (.s 131) (.c (.int .i64 0)) 5, some (129, true)⟩,
  ⟨some 133, .fieldAddr (.s 132) 4, some (129, true)⟩,
  ⟨some 134, .load 1 false (.s 133) 0 true, some (129, true)⟩,
  ⟨some 135, .indexSl (.s 134) (.c (.int .i64 1)) 3, some (129, true)⟩,
  ⟨some 136, .load 3 true (.s 135) 0 true, some (129, true)⟩,
  ⟨some 137, .mv (.s 8), some (129, true)⟩,
  ⟨some 138, .call (.fn 5) [(.s 137)] true, some (129, true)⟩,
  ⟨some 139, .eqv false true [.i, .i, .s] (.s 136) (.s 138), some (129, true)⟩,
  ⟨some 140, .pick (.s 129) (.s 139) (.c (.bool false)), none⟩,
  ⟨some 141, .mv (.s 140), none⟩,
  ⟨some 142, .fieldAddr (.s 11) 2, some (141, true)⟩,
  ⟨some 143, .load 1 false (.s 142) 11 false, some (141, true)⟩,
  ⟨some 144, .indexSl (.s 143) (.c (.int .i64 0)) 5, some (141, true)⟩,
  ⟨some 145, .fieldAddr (.s 144) 2, some (141, true)⟩,
  ⟨some 146, .load 1 false (.s 145) 0 true, some (141, true)⟩,
  ⟨some 147, .len (.s 146) .l false, some (141, true)⟩,
  ⟨some 148, .bin .eql (.s 147) (.c (.int .i64 1)), some (141, true)⟩,
  ⟨some 149, .pick (.s 141) (.s 148) (.c (.bool false)), none⟩,
  ⟨some 150, .mv (.s 149), none⟩,
  ⟨some 151, .fieldAddr (.s 11) 2, some (150, true)⟩,
  ⟨some 152, .load 1 false (.s 151) 11 false, some (150, true)⟩,
  ⟨some 153, .indexSl (.s 152) (.c (.int .i64 0)) 5, some (150, true)⟩,
  ⟨some 154, .fieldAddr (.s 153) 2, some (150, true)⟩,
  ⟨some 155, .load 1 false (.s 154) 0 true, some (150, true)⟩,
  ⟨some 156, .indexSl (.s 155) (.c (.int .i64 0)) 3, some (150, true)⟩,
  ⟨some 157, .load 3 true (.s 156) 0 true, some (150, true)⟩,
  ⟨some 158, .call (.fn 5) [(.c (.int .i64 8))] true, some (150, true)⟩,
  ⟨some 159, .eqv false true [.i, .i, .s] (.s 157) (.s 158), some (150, true)⟩,
  ⟨some 160, .pick (.s 150) (.s 159) (.c (.bool false)), none⟩,
  ⟨some 161, .mv (.s 160), none⟩,
  ⟨some 162, .call (.fn 8) [] false, some (161, true)⟩,
  ⟨some 163, .pick (.s 161) (.s 162) (.c (.bool false)), none⟩,
  ⟨some 6, .mv (.s 163), none⟩] [6])
 .ret))))))))) }

/-- partsynclaw26.scan -/
def g4 : GFun :=
 { nparams := 0, keepHeap := false, results := [.inr (0, 21, true)], body :=
 (.seq (.region [⟨some 0, .alloc [.int .i64 0, .int .i64 0, .int .i64 0, .int .i64 0, .int .i64 0, .int .i64 0, .int .i64 0, .int .i64 0, .str [], .int .i64 0, .int .i64 0, .int .i64 0, .int .i64 0, .str [], .sl 0 true .exact [], .sl 0 true .exact [], .sl 0 true .exact [], .sl 0 true .exact [], .sl 0 true .exact [], .int .i64 0, .sl 0 true .exact []], none⟩] [0])
 (.seq (.region [⟨some 1, .build [.int .i64 0, .int .i64 0, .int .i64 0, .int .i64 0, .int .i64 0, .int .i64 0, .int .i64 0, .int .i64 0, .str [], .int .i64 0, .int .i64 0, .int .i64 0, .int .i64 0, .str [], .sl 0 true .exact [], .sl 0 true .exact [], .sl 0 true .exact [], .sl 0 true .exact [], .sl 0 true .exact [], .int .i64 0, .sl 0 true .exact []] [(0, 1, (.c (.int .i64 1)))], none⟩,
  ⟨none, .store 21 (.s 0) (.s 1) 0 false, none⟩] [0])
 .ret)) }

/-- partsynclaw26.num -/
def g5 : GFun :=
 { nparams := 1, keepHeap := false, results := [.inr (2, 3, true)], body :=
 (.seq (.region [⟨some 2, .alloc [.int .i64 0, .int .i64 0, .str []], none⟩] [0, 2])
 (.seq (.region [⟨some 3, .mv (.s 0), none⟩,
  ⟨some 4, .build [.int .i64 0, .int .i64 0, .str []] [(0, 1, (.c (.int .i64 4))), (1, 1, (.s 3))], none⟩,
  ⟨none, .store 3 (.s 2) (.s 4) 2 false, none⟩] [2])
 .ret)) }

/-- procedure.Run -/
def g6 : GFun :=
 { nparams := 4, keepHeap := false, results := [.inr (8, 3, true), .inl 9], body :=
 (.seq (.region [⟨some 4, .hbox (.s 0), none⟩,
  ⟨some 5, .hbox (.s 1), none⟩,
  ⟨some 6, .box (.s 2), none⟩,
  ⟨some 8, .alloc [.int .i64 0, .sl 0 true .exact [], .sl 0 true .exact []], none⟩,
  ⟨some 9, .mv (.c (.int .i64 0)), none⟩] [3, 4, 5, 6, 8])
 (.seq (.region [⟨some 15, .load 2 true (.s 4) 0 true, none⟩,
  ⟨some 16, .load 3 true (.s 6) 6 false, none⟩,
  ⟨some 17, .mv (.s 3), none⟩,
  ⟨some 18, .call (.fn 9) [(.s 15), (.s 16), (.s 17)] false, none⟩,
  ⟨some 14, .mv (.s 18), none⟩,
  ⟨some 19, .extract (.s 14) 0, none⟩,
  ⟨some 20, .extract (.s 14) 1, none⟩,
  ⟨some 10, .mv (.s 19), none⟩,
  ⟨some 11, .mv (.s 20), none⟩] [4, 5, 6, 8, 10, 11])
 (.seq (.seq (.region [⟨some 21, .mv (.s 11), none⟩,
  ⟨some 22, .bin .neq (.s 21) (.c (.int .i64 0)), none⟩] [4, 5, 6, 8, 10, 11, 22])
 (.cond (.s 22) (.seq (.region [⟨some 23, .build [.int .i64 0, .sl 0 true .exact [], .sl 0 true .exact []] [], none⟩,
  ⟨some 24, .mv (.s 11), none⟩,
  ⟨none, .store 3 (.s 8) (.s 23) 8 false, none⟩,
  ⟨some 9, .mv (.s 24), none⟩] [8, 9])
 .ret)
 .skip))
 (.seq (.seq (.region [⟨some 25, .load 2 true (.s 4) 0 true, none⟩,
  ⟨some 26, .load 1 true (.s 5) 0 true, none⟩,
  ⟨some 27, .call (.fn 10) [(.s 25), (.c (.int .i64 3)), (.s 26)] false, none⟩,
  ⟨some 12, .mv (.s 27), none⟩] [4, 5, 6, 8, 10, 12])
 (.seq (.region [⟨some 28, .mv (.s 12), none⟩,
  ⟨some 29, .bin .neq (.s 28) (.c (.int .i64 0)), none⟩] [4, 5, 6, 8, 10, 12, 29])
 (.cond (.s 29) (.seq (.region [⟨some 30, .build [.int .i64 0, .sl 0 true .exact [], .sl 0 true .exact []] [], none⟩,
  ⟨some 31, .mv (.s 12), none⟩,
  ⟨none, .store 3 (.s 8) (.s 30) 8 false, none⟩,
  ⟨some 9, .mv (.s 31), none⟩] [8, 9])
 .ret)
 .skip)))
 (.seq (.region [⟨some 32, .mv (.s 10), none⟩,
  ⟨some 33, .mkFunc (.func 11) [] [(.s 4), (.s 5)], none⟩,
  ⟨some 34, .nilCheck (.s 32), none⟩,
  ⟨some 35, .fieldAddr (.s 34) 6, none⟩,
  ⟨none, .store 1 (.s 35) (.s 33) 0 true, none⟩] [6, 8, 10])
 (.seq (.seq (.region [⟨some 36, .mv (.s 10), none⟩,
  ⟨some 37, .load 3 true (.s 6) 6 false, none⟩,
  ⟨some 38, .call (.fn 13) [(.s 36), (.s 37)] false, none⟩,
  ⟨some 13, .mv (.s 38), none⟩] [8, 10, 13])
 (.seq (.region [⟨some 39, .mv (.s 13), none⟩,
  ⟨some 40, .bin .neq (.s 39) (.c (.int .i64 0)), none⟩] [8, 10, 13, 40])
 (.cond (.s 40) (.seq (.region [⟨some 41, .build [.int .i64 0, .sl 0 true .exact [], .sl 0 true .exact []] [], none⟩,
  ⟨some 42, .mv (.s 13), none⟩,
  ⟨none, .store 3 (.s 8) (.s 41) 8 false, none⟩,
  ⟨some 9, .mv (.s 42), none⟩] [8, 9])
 .ret)
 .skip)))
 (.seq (.region [⟨some 43, .mv (.s 10), none⟩,
  ⟨some 44, .nilCheck (.s 43), none⟩,
  ⟨some 45, .fieldAddr (.s 44) 3, none⟩,
  ⟨some 46, .load 3 true (.s 45) 0 true, none⟩,
  ⟨none, .store 3 (.s 8) (.s 46) 8 false, none⟩,
  ⟨some 9, .mv (.c (.int .i64 0)), none⟩] [8, 9])
 .ret))))))) }

/-- partsynclaw26.accounts -/
def g7 : GFun :=
 { nparams := 0, keepHeap := false, results := [.inr (0, 2, true)], body :=
 (.seq (.region [⟨some 0, .alloc [.int .i64 0, .sl 0 true .exact []], none⟩] [0])
 (.seq (.region [⟨some 1, .build [.str [], .int .i64 0] [(0, 1, (.c (.str [105, 100]))), (1, 1, (.c (.int .i64 4)))], none⟩,
  ⟨some 2, .build [.str [], .int .i64 0] [(0, 1, (.c (.str [115, 117, 109]))), (1, 1, (.c (.int .i64 4)))], none⟩,
  ⟨some 3, .bsl 2 2 [.str [], .int .i64 0] [(0, (.s 1)), (1, (.s 2))] false, none⟩,
  ⟨some 4, .build [.str [], .sl 0 true .exact [], .int .i64 0, .sl 0 true .exact [], .sl 0 true .exact []] [(0, 1, (.c (.str [97, 99, 99, 111, 117, 110, 116, 115]))), (2, 1, (.c (.int .i64 1))), (1, 1, (.s 3))], none⟩,
  ⟨some 5, .bsl 5 1 [.str [], .sl 0 true .exact [], .int .i64 0, .sl 0 true .exact [], .sl 0 true .exact []] [(0, (.s 4))] false, none⟩,
  ⟨some 6, .build [.int .i64 0, .sl 0 true .exact []] [(1, 1, (.s 5))], none⟩,
  ⟨none, .store 2 (.s 0) (.s 6) 0 false, none⟩] [0])
 .ret)) }

/-- partsynclaw26.begun -/
def g8 : GFun :=
 { nparams := 0, keepHeap := false, results := [.inl 0], body :=
 (.seq (.region [⟨some 0, .mv (.c (.bool false)), none⟩] [])
 (.seq (.region [⟨some 4, .bsl 1 1 [.int .i64 0] [(0, (.c (.int .i64 4)))] false, none⟩,
  ⟨some 5, .call (.fn 4) [] false, none⟩,
  ⟨some 6, .bsl 1 1 [.int .i64 0] [(0, (.c (.int .i64 1)))] false, none⟩,
  ⟨some 7, .build [.int .i64 0, .int .i64 0, .int .i64 0, .int .i64 0, .str []] [(0, 1, (.c (.int .i64 1))), (1, 1, (.c (.int .i64 1)))], none⟩,
  ⟨some 8, .build [.int .i64 0, .int .i64 0, .int .i64 0, .int .i64 0, .str []] [(0, 1, (.c (.int .i64 2)))], none⟩,
  ⟨some 9, .build [.int .i64 0, .int .i64 0, .int .i64 0, .int .i64 0, .int .i64 0, .str [], .int .i64 0, .int .i64 0, .int .i64 0, .int .i64 0, .str []] [(0, 1, (.c (.int .i64 2))), (1, 5, (.s 7)), (6, 5, (.s 8))], none⟩,
  ⟨some 10, .bsl 11 1 [.int .i64 0, .int .i64 0, .int .i64 0, .int .i64 0, .int .i64 0, .str [], .int .i64 0, .int .i64 0, .int .i64 0, .int .i64 0, .str []] [(0, (.s 9))] false, none⟩,
  ⟨some 11, .build [.int .i64 0, .int .i64 0, .int .i64 0, .int .i64 0, .int .i64 0, .int .i64 0, .int .i64 0, .int .i64 0, .int .i64 0, .int .i64 0, .int .i64 0, .str [], .int .i64 0, .int .i64 0, .int .i64 0, .int .i64 0, .str [], .sl 0 true .exact [], .sl 0 true .exact [], .sl 0 true .exact [], .sl 0 true .exact [], .sl 0 true .exact [], .int .i64 0, .sl 0 true .exact [], .sl 0 true .exact [], .sl 0 true .exact []] [(0, 1, (.c (.int .i64 4))), (3, 21, (.s 5)), (24, 1, (.s 6)), (25, 1, (.s 10))], none⟩,
  ⟨some 12, .bsl 26 1 [.int .i64 0, .int .i64 0, .int .i64 0, .int .i64 0, .int .i64 0, .int .i64 0, .int .i64 0, .int .i64 0, .int .i64 0, .int .i64 0, .int .i64 0, .str [], .int .i64 0, .int .i64 0, .int .i64 0, .int .i64 0, .str [], .sl 0 true .exact [], .sl 0 true .exact [], .sl 0 true .exact [], .sl 0 true .exact [], .sl 0 true .exact [], .int .i64 0, .sl 0 true .exact [], .sl 0 true .exact [], .sl 0 true .exact []] [(0, (.s 11))] false, none⟩,
  ⟨some 13, .build [.int .i64 0, .sl 0 true .exact [], .sl 0 true .exact []] [(1, 1, (.s 4)), (2, 1, (.s 12))], none⟩,
  ⟨some 1, .alloc [.int .i64 0, .sl 0 true .exact [], .sl 0 true .exact []], none⟩,
  ⟨none, .store 3 (.s 1) (.s 13) 1 false, none⟩] [1])
 (.seq (.region [⟨some 15, .call (.fn 7) [] false, none⟩,
  ⟨some 16, .call (.fn 5) [(.c (.int .i64 1))] false, none⟩,
  ⟨some 17, .call (.fn 5) [(.c (.int .i64 5))] false, none⟩,
  ⟨some 18, .bsl 3 2 [.int .i64 0, .int .i64 0, .str []] [(0, (.s 16)), (1, (.s 17))] false, none⟩,
  ⟨some 19, .bsl 1 1 [.sl 0 true .exact []] [(0, (.s 18))] false, none⟩,
  ⟨some 20, .bsl 1 1 [.sl 0 true .exact []] [(0, (.s 19))] false, none⟩,
  ⟨some 21, .build [.sl 0 true .exact []] [(0, 1, (.s 20))], none⟩,
  ⟨some 22, .load 3 true (.s 1) 1 false, none⟩,
  ⟨some 23, .call (.fn 5) [(.c (.int .i64 2))] false, none⟩,
  ⟨some 24, .bsl 3 1 [.int .i64 0, .int .i64 0, .str []] [(0, (.s 23))] false, none⟩,
  ⟨some 25, .call (.fn 6) [(.s 15), (.s 21), (.s 22), (.s 24)] false, none⟩,
  ⟨some 14, .mv (.s 25), none⟩,
  ⟨some 26, .extract (.s 14) 0, none⟩,
  ⟨some 27, .extract (.s 14) 1, none⟩,
  ⟨some 2, .alloc [.int .i64 0, .sl 0 true .exact [], .sl 0 true .exact []], none⟩,
  ⟨none, .store 3 (.s 2) (.s 26) 2 false, none⟩,
  ⟨some 3, .mv (.s 27), none⟩] [2, 3])
 (.seq (.region [⟨some 28, .mv (.s 3), none⟩,
  ⟨some 29, .bin .eql (.s 28) (.c (.int .i64 0)), none⟩,
  ⟨some 30, .mv (.s 29), none⟩,
  ⟨some 31, .fieldAddr (.s 2) 0, some (30, true)⟩,
  ⟨some 32, .load 1 false (.s 31) 2 false, some (30, true)⟩,
  ⟨some 33, .bin .eql (.s 32) (.c (.int .i64 0)), some (30, true)⟩,
  ⟨some 34, .pick (.s 30) (.s 33) (.c (.bool false)), none⟩,
  ⟨some 35, .mv (.s 34), none⟩,
  ⟨some 36, .fieldAddr (.s 2) 1, some (35, true)⟩,
  ⟨some 37, .load 1 false (.s 36) 2 false, some (35, true)⟩,
  ⟨some 38, .len (.s 37) .l false, some (35, true)⟩,
  ⟨some 39, .bin .eql (.s 38) (.c (.int .i64 1)), some (35, true)⟩,
  ⟨some 40, .pick (.s 35) (.s 39) (.c (.bool false)), none⟩,
  ⟨some 41, .mv (.s 40), none⟩,
  ⟨some 42, .fieldAddr (.s 2) 2, some (41, true)⟩,
  ⟨some 43, .load 1 false (.s 42) 2 false, some (41, true)⟩,
  ⟨some 44, .len (.s 43) .l false, some (41, true)⟩,
  ⟨some 45, .bin .eql (.s 44) (.c (.int .i64 1)), some (41, true)⟩,
  ⟨some 46, .pick (.s 41) (.s 45) (.c (.bool false)), none⟩,
  ⟨some 47, .mv (.s 46), none⟩,
  ⟨some 48, .fieldAddr (.s 2) 2, some (47, true)⟩,
  ⟨some 49, .load 1 false (.s 48) 2 false, some (47, true)⟩,
  ⟨some 50, .indexSl (.s 49) (.c (.int .i64 0)) 5, some (47, true)⟩,
  ⟨some 51, .fieldAddr (.s 50) 0, some (47, true)⟩,
  ⟨some 52, .load 1 false (.s 51) 0 true, some (47, true)⟩,
  ⟨some 53, .bin .eql (.s 52) (.c (.int .i64 2)), some (47, true)⟩,
  ⟨some 54, .pick (.s 47) (.s 53) (.c (.bool false)), none⟩,
  ⟨some 55, .mv (.s 54), none⟩,
  ⟨some 56, .fieldAddr (.s 2) 2, some (55, true)⟩,
  ⟨some 57, .load 1 false (.s 56) 2 false, some (55, true)⟩,
  ⟨some 58, .indexSl (.s 57) (.c (.int .i64 0)) 5, some (55, true)⟩,
  ⟨some 59, .fieldAddr (.s 58) 4, some (55, true)⟩,
  ⟨some 60, .load 1 false (.s 59) 0 true, some (55, true)⟩,
  ⟨some 61, .len (.s 60) .l false, some (55, true)⟩,
  ⟨some 62, .bin .eql (.s 61) (.c (.int .i64 1)), some (55, true)⟩,
  ⟨some 63, .pick (.s 55) (.s 62) (.c (.bool false)), none⟩,
  ⟨some 64, .mv (.s 63), none⟩,
  ⟨some 65, .fieldAddr (.s 2) 2, some (64, true)⟩,
  ⟨some 66, .load 1 false (.s 65) 2 false, some (64, true)⟩,
  ⟨some 67, .indexSl (.s 66) (.c (.int .i64 0)) 5, some (64, true)⟩,
  ⟨some 68, .fieldAddr (.s 67) 4, some (64, true)⟩,
  ⟨some 69, .load 1 false (.s 68) 0 true, some (64, true)⟩,
  ⟨some 70, .indexSl (.s 69) (.c (.int .i64 0)) 3, some (64, true)⟩,
  ⟨some 71, .load 3 true (.s 70) 0 true, some (64, true)⟩,
  ⟨some 72, .call (.fn 5) [(.c (.int .i64 7))] true, some (64, true)⟩,
  ⟨some 73, .eqv false true [.i, .i, .s] (.s 71) (.s 72), some (64, true)⟩,
  ⟨some 74, .pick (.s 64) (.s 73) (.c (.bool false)), none⟩,
  ⟨some 0, .mv (.s 74), none⟩] [0])
 .ret)))) }

/-- procedure.begin -/
def g9 : GFun :=
 { nparams := 3, keepHeap := true, results := [.inl 6, .inl 7], body :=
 (.seq (.region [⟨some 3, .box (.s 0), none⟩,
  ⟨some 4, .box (.s 1), none⟩,
  ⟨some 6, .mv (.c (.nilptr)), none⟩,
  ⟨some 7, .mv (.c (.int .i64 0)), none⟩] [2, 3, 4])
 (.seq (.seq (.region [⟨some 9, .load 2 true (.s 3) 3 false, none⟩,
  ⟨some 10, .load 3 true (.s 4) 4 false, none⟩,
  ⟨some 11, .call (.fn 14) [(.s 9), (.s 10)] false, none⟩,
  ⟨some 8, .mv (.s 11), none⟩] [2, 3, 4, 8])
 (.seq (.region [⟨some 12, .mv (.s 8), none⟩,
  ⟨some 13, .bin .neq (.s 12) (.c (.int .i64 0)), none⟩] [2, 3, 4, 8, 13])
 (.cond (.s 13) (.seq (.region [⟨some 14, .mv (.s 8), none⟩,
  ⟨some 6, .mv (.c (.nilptr)), none⟩,
  ⟨some 7, .mv (.s 14), none⟩] [6, 7])
 .ret)
 .skip)))
 (.seq (.seq (.region [⟨some 15, .fieldAddr (.s 4) 1, none⟩,
  ⟨some 16, .load 1 false (.s 15) 4 false, none⟩,
  ⟨some 17, .mv (.s 2), none⟩,
  ⟨some 18, .call (.fn 15) [(.s 16), (.s 17)] false, none⟩,
  ⟨some 19, .un .not (.s 18), none⟩] [2, 3, 19])
 (.cond (.s 19) (.seq (.region [⟨some 6, .mv (.c (.nilptr)), none⟩,
  ⟨some 7, .mv (.c (.int .i64 1)), none⟩] [6, 7])
 .ret)
 .skip))
 (.seq (.region [⟨some 20, .load 2 true (.s 3) 3 false, none⟩,
  ⟨some 21, .mv (.s 2), none⟩,
  ⟨some 22, .build [.int .i64 0, .sl 0 true .exact [], .sl 0 true .exact [], .int .i64 0, .sl 0 true .exact [], .sl 0 true .exact [], .nilfunc] [(0, 2, (.s 20)), (2, 1, (.s 21))], none⟩,
  ⟨some 23, .hbox (.s 22), none⟩,
  ⟨some 6, .mv (.s 23), none⟩,
  ⟨some 7, .mv (.c (.int .i64 0)), none⟩] [6, 7])
 .ret)))) }

/-- table.Check -/
def g10 : GFun :=
 { nparams := 3, keepHeap := false, results := [.inl 6], body :=
 (.seq (.region [⟨some 3, .box (.s 0), none⟩,
  ⟨some 5, .box (.s 2), none⟩,
  ⟨some 6, .mv (.c (.int .i64 0)), none⟩] [1, 3, 5])
 (.seq (.seq (.region [⟨some 12, .load 2 true (.s 3) 3 false, none⟩,
  ⟨some 13, .call (.fn 16) [(.s 12)] false, none⟩,
  ⟨some 7, .mv (.s 13), none⟩] [1, 3, 5, 7])
 (.seq (.region [⟨some 14, .mv (.s 7), none⟩,
  ⟨some 15, .bin .neq (.s 14) (.c (.int .i64 0)), none⟩] [1, 3, 5, 7, 15])
 (.cond (.s 15) (.seq (.region [⟨some 16, .mv (.s 7), none⟩,
  ⟨some 6, .mv (.s 16), none⟩] [6])
 .ret)
 .skip)))
 (.seq (.seq (.region [⟨some 17, .mv (.s 1), none⟩,
  ⟨some 18, .bin .lss (.s 17) (.c (.int .i64 1)), none⟩,
  ⟨some 19, .mv (.s 18), none⟩,
  ⟨some 20, .mv (.s 1), some (19, false)⟩,
  ⟨some 21, .bin .gtr (.s 20) (.c (.int .i64 3)), some (19, false)⟩,
  ⟨some 22, .pick (.s 19) (.c (.bool true)) (.s 21), none⟩] [1, 3, 5, 22])
 (.cond (.s 22) (.seq (.region [⟨some 6, .mv (.c (.int .i64 1)), none⟩] [6])
 .ret)
 .skip))
 (.seq (.seq (.region [⟨some 23, .load 1 true (.s 5) 5 false, none⟩,
  ⟨some 24, .call (.fn 17) [(.s 23)] false, none⟩,
  ⟨some 25, .bin .gtr (.s 24) (.c (.int .i64 512)), none⟩] [1, 3, 5, 25])
 (.cond (.s 25) (.seq (.region [⟨some 6, .mv (.c (.int .i64 2)), none⟩] [6])
 .ret)
 .skip))
 (.seq (.seq (.region [⟨some 26, .fieldAddr (.s 5) 0, none⟩,
  ⟨some 27, .load 1 false (.s 26) 5 false, none⟩,
  ⟨some 28, .len (.s 27) .l false, none⟩,
  ⟨some 29, .fieldAddr (.s 3) 1, none⟩,
  ⟨some 30, .load 1 false (.s 29) 3 false, none⟩,
  ⟨some 31, .len (.s 30) .l false, none⟩,
  ⟨some 32, .bin .neq (.s 28) (.s 31), none⟩] [1, 3, 5, 32])
 (.cond (.s 32) (.seq (.region [⟨some 6, .mv (.c (.int .i64 80)), none⟩] [6])
 .ret)
 .skip))
 (.seq (.seq (.region [⟨some 33, .fieldAddr (.s 5) 0, none⟩,
  ⟨some 34, .load 1 false (.s 33) 5 false, none⟩,
  ⟨some 35, .len (.s 34) .l false, none⟩,
  ⟨some 36, .mv (.c (.int .i64 0)), none⟩] [1, 3, 34, 35, 36])
 (.block 0 (.loop [1, 3, 34, 35, 36] (.seq (.region [⟨some 37, .bin .lss (.s 36) (.s 35), none⟩] [1, 3, 34, 35, 36, 37])
 (.seq (.cond (.s 37) .skip
 (.exit 0))
 (.seq (.block 1 (.seq (.region [⟨some 38, .mv (.s 36), none⟩,
  ⟨some 39, .indexSl (.s 34) (.s 36) 1, none⟩,
  ⟨some 40, .load 1 false (.s 39) 0 true, none⟩,
  ⟨some 8, .mv (.s 38), none⟩,
  ⟨some 9, .mv (.s 40), none⟩] [1, 3, 8, 9, 34, 35, 36])
 (.seq (.region [⟨some 41, .mv (.s 9), none⟩,
  ⟨some 42, .len (.s 41) .l false, none⟩,
  ⟨some 43, .mv (.c (.int .i64 0)), none⟩] [1, 3, 8, 9, 34, 35, 36, 41, 42, 43])
 (.block 2 (.loop [1, 3, 8, 9, 34, 35, 36, 41, 42, 43] (.seq (.region [⟨some 44, .bin .lss (.s 43) (.s 42), none⟩] [1, 3, 8, 9, 34, 35, 36, 41, 42, 43, 44])
 (.seq (.cond (.s 44) .skip
 (.exit 2))
 (.seq (.block 3 (.seq (.region [⟨some 45, .mv (.s 43), none⟩,
  ⟨some 46, .indexSl (.s 41) (.s 43) 1, none⟩,
  ⟨some 47, .load 1 false (.s 46) 0 true, none⟩,
  ⟨some 10, .mv (.s 45), none⟩,
  ⟨some 11, .mv (.s 47), none⟩] [1, 3, 8, 9, 10, 11, 34, 35, 36, 41, 42, 43])
 (.seq (.seq (.region [⟨some 48, .load 2 true (.s 3) 3 false, none⟩,
  ⟨some 49, .mv (.s 8), none⟩,
  ⟨some 50, .mv (.s 11), none⟩,
  ⟨some 51, .mv (.s 1), none⟩,
  ⟨some 52, .call (.fn 18) [(.s 48), (.s 49), (.s 50), (.s 51)] false, none⟩,
  ⟨some 53, .un .not (.s 52), none⟩] [1, 3, 8, 9, 10, 11, 34, 35, 36, 41, 42, 43, 53])
 (.cond (.s 53) (.seq (.region [⟨some 6, .mv (.c (.int .i64 80)), none⟩] [6])
 .ret)
 .skip))
 (.seq (.region [⟨some 54, .mv (.s 10), none⟩,
  ⟨some 55, .bin .gtr (.s 54) (.c (.int .i64 0)), none⟩,
  ⟨some 56, .mv (.s 55), none⟩,
  ⟨some 57, .load 2 true (.s 3) 3 false, some (56, true)⟩,
  ⟨some 58, .mv (.s 8), some (56, true)⟩,
  ⟨some 59, .mv (.s 9), some (56, true)⟩,
  ⟨some 60, .mv (.s 10), some (56, true)⟩,
  ⟨some 61, .bin .sub (.s 60) (.c (.int .i64 1)), some (56, true)⟩,
  ⟨some 62, .indexSl (.s 59) (.s 61) 1, some (56, true)⟩,
  ⟨some 63, .load 1 false (.s 62) 0 true, some (56, true)⟩,
  ⟨some 64, .call (.fn 20) [(.s 57), (.s 58), (.s 63)] false, some (56, true)⟩,
  ⟨some 65, .load 2 true (.s 3) 3 false, some (56, true)⟩,
  ⟨some 66, .mv (.s 8), some (56, true)⟩,
  ⟨some 67, .mv (.s 11), some (56, true)⟩,
  ⟨some 68, .call (.fn 20) [(.s 65), (.s 66), (.s 67)] false, some (56, true)⟩,
  ⟨some 69, .call (.fn 19) [(.s 64), (.s 68)] false, some (56, true)⟩,
  ⟨some 70, .bin .geq (.s 69) (.c (.int .i64 0)), some (56, true)⟩,
  ⟨some 71, .pick (.s 56) (.s 70) (.c (.bool false)), none⟩] [1, 3, 8, 9, 34, 35, 36, 41, 42, 43, 71])
 (.cond (.s 71) (.seq (.region [⟨some 6, .mv (.c (.int .i64 80)), none⟩] [6])
 .ret)
 .skip)))))
 (.region [⟨some 72, .bin .add (.s 43) (.c (.int .i64 1)), none⟩,
  ⟨some 43, .mv (.s 72), none⟩] [1, 3, 8, 9, 34, 35, 36, 41, 42, 43])))))))))
 (.region [⟨some 73, .bin .add (.s 36) (.c (.int .i64 1)), none⟩,
  ⟨some 36, .mv (.s 73), none⟩] [1, 3, 34, 35, 36])))))))
 (.seq (.region [⟨some 6, .mv (.c (.int .i64 0)), none⟩] [6])
 .ret))))))) }

/-- procedure.Run$1 -/
def g11 : GFun :=
 { nparams := 4, keepHeap := false, results := [.inl 6, .inl 7], body :=
 (.seq (.region [⟨some 5, .box (.s 1), none⟩,
  ⟨some 6, .mv (.c (.sl 0 true .exact [])), none⟩,
  ⟨some 7, .mv (.c (.int .i64 0)), none⟩] [2, 3, 5])
 (.seq (.region [⟨some 8, .load 2 true (.s 2) 0 true, none⟩,
  ⟨some 9, .load 1 true (.s 3) 0 true, none⟩,
  ⟨some 10, .load 21 true (.s 5) 5 false, none⟩,
  ⟨some 11, .call (.fn 12) [(.s 8), (.s 9), (.s 10)] false, none⟩,
  ⟨some 12, .extract (.s 11) 0, none⟩,
  ⟨some 13, .extract (.s 11) 1, none⟩,
  ⟨some 6, .mv (.s 12), none⟩,
  ⟨some 7, .mv (.s 13), none⟩] [6, 7])
 .ret)) }

/-- column.Rows -/
def g12 : GFun :=
 { nparams := 3, keepHeap := false, results := [.inl 6, .inl 7], body :=
 (.seq (.region [⟨some 3, .box (.s 0), none⟩,
  ⟨some 4, .box (.s 1), none⟩,
  ⟨some 5, .box (.s 2), none⟩,
  ⟨some 6, .mv (.c (.sl 0 true .exact [])), none⟩,
  ⟨some 7, .mv (.c (.int .i64 0)), none⟩] [3, 4, 5])
 (.seq (.region [⟨some 11, .load 2 true (.s 3) 3 false, none⟩,
  ⟨some 12, .load 1 true (.s 4) 4 false, none⟩,
  ⟨some 13, .load 21 true (.s 5) 5 false, none⟩,
  ⟨some 14, .call (.fn 21) [(.s 11), (.s 12), (.s 13)] false, none⟩,
  ⟨some 10, .mv (.s 14), none⟩,
  ⟨some 15, .extract (.s 10) 0, none⟩,
  ⟨some 16, .extract (.s 10) 1, none⟩,
  ⟨some 8, .mv (.s 15), none⟩,
  ⟨some 9, .mv (.s 16), none⟩] [3, 5, 8, 9])
 (.seq (.seq (.region [⟨some 17, .mv (.s 9), none⟩,
  ⟨some 18, .bin .neq (.s 17) (.c (.int .i64 0)), none⟩] [3, 5, 8, 9, 18])
 (.cond (.s 18) (.seq (.region [⟨some 19, .mv (.s 9), none⟩,
  ⟨some 6, .mv (.c (.sl 0 true .exact [])), none⟩,
  ⟨some 7, .mv (.s 19), none⟩] [6, 7])
 .ret)
 .skip))
 (.seq (.region [⟨some 20, .load 2 true (.s 3) 3 false, none⟩,
  ⟨some 21, .mv (.s 8), none⟩,
  ⟨some 22, .load 21 true (.s 5) 5 false, none⟩,
  ⟨some 23, .call (.fn 22) [(.s 20), (.s 21), (.s 22)] false, none⟩,
  ⟨some 24, .extract (.s 23) 0, none⟩,
  ⟨some 25, .extract (.s 23) 1, none⟩,
  ⟨some 6, .mv (.s 24), none⟩,
  ⟨some 7, .mv (.s 25), none⟩] [6, 7])
 .ret)))) }

/-- (*procedure.run).play -/
def g13 : GFun :=
 { nparams := 2, keepHeap := false, results := [.inr (4, 1, false)], body :=
 (.seq (.pregion false [⟨some 2, .hbox (.s 0), none⟩,
  ⟨some 3, .box (.s 1), none⟩,
  ⟨some 4, .halloc [.int .i64 0], none⟩] [2, 3, 4])
 (.seq (.region [⟨some 11, .mkFunc (.func 23) [] [(.s 2), (.s 4)], none⟩,
  ⟨none, .bad, none⟩] [2, 3, 4])
 (.seq (.pregion false [⟨some 12, .load 1 false (.s 2) 0 true, none⟩,
  ⟨some 13, .mkFunc (.func 24) [(.s 12)] [], none⟩,
  ⟨some 14, .load 1 false (.s 2) 0 true, none⟩,
  ⟨some 15, .mkFunc (.func 25) [(.s 14)] [], none⟩,
  ⟨some 16, .load 1 false (.s 2) 0 true, none⟩,
  ⟨some 17, .mkFunc (.func 26) [(.s 16)] [], none⟩,
  ⟨some 18, .load 1 false (.s 2) 0 true, none⟩,
  ⟨some 19, .mkFunc (.func 27) [(.s 18)] [], none⟩,
  ⟨some 20, .load 1 false (.s 2) 0 true, none⟩,
  ⟨some 21, .mkFunc (.func 28) [(.s 20)] [], none⟩,
  ⟨some 22, .bsl 1 5 [.nilfunc] [(0, (.s 13)), (1, (.s 15)), (2, (.s 17)), (3, (.s 19)), (4, (.s 21))] false, none⟩,
  ⟨some 5, .mv (.s 22), none⟩] [2, 3, 4, 5])
 (.seq (.seq (.pregion false [⟨some 23, .fieldAddr (.s 3) 2, none⟩,
  ⟨some 24, .load 1 false (.s 23) 3 false, none⟩,
  ⟨some 25, .len (.s 24) .l false, none⟩,
  ⟨some 26, .mv (.c (.int .i64 0)), none⟩] [2, 4, 5, 24, 25, 26])
 (.block 0 (.loop [2, 4, 5, 24, 25, 26] (.seq (.pregion false [⟨some 27, .bin .lss (.s 26) (.s 25), none⟩] [2, 4, 5, 24, 25, 26, 27])
 (.seq (.cond (.s 27) .skip
 (.exit 0))
 (.seq (.block 1 (.seq (.pregion false [⟨some 28, .mv (.s 26), none⟩,
  ⟨some 29, .indexSl (.s 24) (.s 26) 26, none⟩,
  ⟨some 30, .load 26 true (.s 29) 0 true, none⟩,
  ⟨some 7, .alloc [.int .i64 0, .int .i64 0, .int .i64 0, .int .i64 0, .int .i64 0, .int .i64 0, .int .i64 0, .int .i64 0, .int .i64 0, .int .i64 0, .int .i64 0, .str [], .int .i64 0, .int .i64 0, .int .i64 0, .int .i64 0, .str [], .sl 0 true .exact [], .sl 0 true .exact [], .sl 0 true .exact [], .sl 0 true .exact [], .sl 0 true .exact [], .int .i64 0, .sl 0 true .exact [], .sl 0 true .exact [], .sl 0 true .exact []], none⟩,
  ⟨some 6, .mv (.s 28), none⟩,
  ⟨none, .store 26 (.s 7) (.s 30) 7 false, none⟩] [2, 4, 5, 6, 7, 24, 25, 26])
 (.seq (.pregion true [⟨some 31, .fieldAddr (.s 7) 3, none⟩,
  ⟨some 32, .load 21 true (.s 31) 7 false, none⟩,
  ⟨some 33, .load 1 false (.s 2) 0 true, none⟩,
  ⟨some 34, .nilCheck (.s 33), none⟩,
  ⟨some 35, .fieldAddr (.s 34) 2, none⟩,
  ⟨some 36, .load 1 false (.s 35) 0 true, none⟩,
  ⟨some 37, .call (.fn 29) [(.s 32), (.s 36)] false, none⟩,
  ⟨some 8, .alloc [.int .i64 0, .int .i64 0, .int .i64 0, .int .i64 0, .int .i64 0, .int .i64 0, .int .i64 0, .int .i64 0, .str [], .int .i64 0, .int .i64 0, .int .i64 0, .int .i64 0, .str [], .sl 0 true .exact [], .sl 0 true .exact [], .sl 0 true .exact [], .sl 0 true .exact [], .sl 0 true .exact [], .int .i64 0, .sl 0 true .exact []], none⟩,
  ⟨none, .store 21 (.s 8) (.s 37) 8 false, none⟩] [2, 4, 5, 6, 7, 8, 24, 25, 26])
 (.seq (.pregion true [⟨some 39, .load 1 false (.s 2) 0 true, none⟩,
  ⟨some 40, .nilCheck (.s 39), none⟩,
  ⟨some 41, .fieldAddr (.s 40) 6, none⟩,
  ⟨some 42, .load 1 false (.s 41) 0 true, none⟩,
  ⟨some 43, .mv (.s 6), none⟩,
  ⟨some 44, .load 21 true (.s 8) 8 false, none⟩,
  ⟨some 45, .call (.val (.s 42)) [(.s 43), (.s 44)] false, none⟩,
  ⟨some 38, .mv (.s 45), none⟩,
  ⟨some 46, .extract (.s 38) 0, none⟩,
  ⟨some 47, .extract (.s 38) 1, none⟩,
  ⟨some 9, .mv (.s 46), none⟩,
  ⟨some 10, .mv (.s 47), none⟩] [2, 4, 5, 7, 8, 9, 10, 24, 25, 26])
 (.seq (.seq (.pregion false [⟨some 48, .mv (.s 10), none⟩,
  ⟨some 49, .bin .neq (.s 48) (.c (.int .i64 0)), none⟩] [2, 4, 5, 7, 8, 9, 10, 24, 25, 26, 49])
 (.cond (.s 49) (.pregion false [⟨some 50, .mv (.s 10), none⟩,
  ⟨some 51, .mkIface 93 (.s 50), none⟩,
  ⟨none, .pan (.s 51), none⟩] [2, 4, 5, 7, 8, 9, 24, 25, 26])
 .skip))
 (.seq (.pregion true [⟨some 52, .load 1 false (.s 2) 0 true, none⟩,
  ⟨some 53, .load 1 false (.s 2) 0 true, none⟩,
  ⟨some 54, .nilCheck (.s 53), none⟩,
  ⟨some 55, .fieldAddr (.s 54) 3, none⟩,
  ⟨some 56, .fieldAddr (.s 55) 1, none⟩,
  ⟨some 57, .loadTake (.s 56) 0 true, none⟩,
  ⟨some 58, .load 21 true (.s 8) 8 false, none⟩,
  ⟨some 59, .mv (.s 9), none⟩,
  ⟨some 60, .build [.int .i64 0, .int .i64 0, .int .i64 0, .int .i64 0, .int .i64 0, .int .i64 0, .int .i64 0, .int .i64 0, .str [], .int .i64 0, .int .i64 0, .int .i64 0, .int .i64 0, .str [], .sl 0 true .exact [], .sl 0 true .exact [], .sl 0 true .exact [], .sl 0 true .exact [], .sl 0 true .exact [], .int .i64 0, .sl 0 true .exact [], .sl 0 true .exact []] [(0, 21, (.s 58)), (21, 1, (.s 59))], none⟩,
  ⟨some 61, .bsl 22 1 [.int .i64 0, .int .i64 0, .int .i64 0, .int .i64 0, .int .i64 0, .int .i64 0, .int .i64 0, .int .i64 0, .str [], .int .i64 0, .int .i64 0, .int .i64 0, .int .i64 0, .str [], .sl 0 true .exact [], .sl 0 true .exact [], .sl 0 true .exact [], .sl 0 true .exact [], .sl 0 true .exact [], .int .i64 0, .sl 0 true .exact [], .sl 0 true .exact []] [(0, (.s 60))] false, none⟩,
  ⟨some 62, .append (.s 57) (.s 61) 22 304 false false, none⟩,
  ⟨some 63, .nilCheck (.s 52), none⟩,
  ⟨some 64, .fieldAddr (.s 63) 3, none⟩,
  ⟨some 65, .fieldAddr (.s 64) 1, none⟩,
  ⟨none, .storeTake (.s 65) 62 0 true, none⟩] [2, 4, 5, 7, 9, 24, 25, 26])
 (.pregion true [⟨some 66, .mv (.s 5), none⟩,
  ⟨some 67, .fieldAddr (.s 7) 0, none⟩,
  ⟨some 68, .load 1 false (.s 67) 7 false, none⟩,
  ⟨some 69, .bin .sub (.s 68) (.c (.int .i64 1)), none⟩,
  ⟨some 70, .indexSl (.s 66) (.s 69) 1, none⟩,
  ⟨some 71, .load 1 false (.s 70) 0 true, none⟩,
  ⟨some 72, .load 26 true (.s 7) 7 false, none⟩,
  ⟨some 73, .mv (.s 9), none⟩,
  ⟨some 74, .call (.val (.s 71)) [(.s 72), (.s 73)] false, none⟩] [2, 4, 5, 24, 25, 26])))))))
 (.pregion false [⟨some 75, .bin .add (.s 26) (.c (.int .i64 1)), none⟩,
  ⟨some 26, .mv (.s 75), none⟩] [2, 4, 5, 24, 25, 26])))))))
 (.seq (.pregion false [⟨some 76, .load 1 false (.s 2) 0 true, none⟩,
  ⟨some 77, .nilCheck (.s 76), none⟩,
  ⟨some 78, .fieldAddr (.s 77) 3, none⟩,
  ⟨some 79, .fieldAddr (.s 78) 2, none⟩,
  ⟨some 80, .load 1 false (.s 79) 0 true, none⟩,
  ⟨some 81, .call (.fn 30) [(.s 80), (.c (.func (.func 31) [] []))] false, none⟩] [4])
 (.seq (.pregion false [⟨none, .store 1 (.s 4) (.c (.int .i64 0)) 0 true, none⟩] [4])
 .ret)))))) }

/-- procedure.Check -/
def g14 : GFun :=
 { nparams := 2, keepHeap := false, results := [.inl 4], body :=
 (.seq (.region [⟨some 2, .box (.s 0), none⟩,
  ⟨some 3, .box (.s 1), none⟩,
  ⟨some 4, .mv (.c (.int .i64 0)), none⟩] [2, 3])
 (.seq (.seq (.region [⟨some 11, .load 2 true (.s 2) 2 false, none⟩,
  ⟨some 12, .call (.fn 16) [(.s 11)] false, none⟩,
  ⟨some 5, .mv (.s 12), none⟩] [2, 3, 5])
 (.seq (.region [⟨some 13, .mv (.s 5), none⟩,
  ⟨some 14, .bin .neq (.s 13) (.c (.int .i64 0)), none⟩] [2, 3, 5, 14])
 (.cond (.s 14) (.seq (.region [⟨some 15, .mv (.s 5), none⟩,
  ⟨some 4, .mv (.s 15), none⟩] [4])
 .ret)
 .skip)))
 (.seq (.seq (.region [⟨some 16, .fieldAddr (.s 3) 1, none⟩,
  ⟨some 17, .load 1 false (.s 16) 3 false, none⟩,
  ⟨some 18, .len (.s 17) .l false, none⟩,
  ⟨some 19, .bin .gtr (.s 18) (.c (.int .i64 8)), none⟩,
  ⟨some 20, .mv (.s 19), none⟩,
  ⟨some 21, .fieldAddr (.s 3) 2, some (20, false)⟩,
  ⟨some 22, .load 1 false (.s 21) 3 false, some (20, false)⟩,
  ⟨some 23, .len (.s 22) .l false, some (20, false)⟩,
  ⟨some 24, .bin .gtr (.s 23) (.c (.int .i64 8)), some (20, false)⟩,
  ⟨some 25, .pick (.s 20) (.c (.bool true)) (.s 24), none⟩] [2, 3, 25])
 (.cond (.s 25) (.seq (.region [⟨some 4, .mv (.c (.int .i64 2)), none⟩] [4])
 .ret)
 .skip))
 (.seq (.seq (.region [⟨some 26, .fieldAddr (.s 3) 1, none⟩,
  ⟨some 27, .load 1 false (.s 26) 3 false, none⟩,
  ⟨some 28, .len (.s 27) .l false, none⟩,
  ⟨some 29, .mv (.c (.int .i64 0)), none⟩] [2, 3, 27, 28, 29])
 (.block 0 (.loop [2, 3, 27, 28, 29] (.seq (.region [⟨some 30, .bin .lss (.s 29) (.s 28), none⟩] [2, 3, 27, 28, 29, 30])
 (.seq (.cond (.s 30) .skip
 (.exit 0))
 (.seq (.block 1 (.seq (.region [⟨some 31, .indexSl (.s 27) (.s 29) 1, none⟩,
  ⟨some 32, .load 1 false (.s 31) 0 true, none⟩,
  ⟨some 7, .mv (.s 32), none⟩] [2, 3, 7, 27, 28, 29])
 (.seq (.region [⟨some 33, .mv (.s 7), none⟩,
  ⟨some 34, .bin .lss (.s 33) (.c (.int .i64 3)), none⟩,
  ⟨some 35, .mv (.s 34), none⟩,
  ⟨some 36, .mv (.s 7), some (35, false)⟩,
  ⟨some 37, .bin .gtr (.s 36) (.c (.int .i64 5)), some (35, false)⟩,
  ⟨some 38, .pick (.s 35) (.c (.bool true)) (.s 37), none⟩] [2, 3, 27, 28, 29, 38])
 (.cond (.s 38) (.seq (.region [⟨some 4, .mv (.c (.int .i64 1)), none⟩] [4])
 .ret)
 .skip))))
 (.region [⟨some 39, .bin .add (.s 29) (.c (.int .i64 1)), none⟩,
  ⟨some 29, .mv (.s 39), none⟩] [2, 3, 27, 28, 29])))))))
 (.seq (.seq (.region [⟨some 40, .fieldAddr (.s 3) 2, none⟩,
  ⟨some 41, .load 1 false (.s 40) 3 false, none⟩,
  ⟨some 42, .len (.s 41) .l false, none⟩,
  ⟨some 43, .mv (.c (.int .i64 0)), none⟩] [2, 3, 41, 42, 43])
 (.block 2 (.loop [2, 3, 41, 42, 43] (.seq (.region [⟨some 44, .bin .lss (.s 43) (.s 42), none⟩] [2, 3, 41, 42, 43, 44])
 (.seq (.cond (.s 44) .skip
 (.exit 2))
 (.seq (.block 3 (.seq (.region [⟨some 45, .indexSl (.s 41) (.s 43) 26, none⟩,
  ⟨some 46, .load 26 true (.s 45) 0 true, none⟩,
  ⟨some 9, .alloc [.int .i64 0, .int .i64 0, .int .i64 0, .int .i64 0, .int .i64 0, .int .i64 0, .int .i64 0, .int .i64 0, .int .i64 0, .int .i64 0, .int .i64 0, .str [], .int .i64 0, .int .i64 0, .int .i64 0, .int .i64 0, .str [], .sl 0 true .exact [], .sl 0 true .exact [], .sl 0 true .exact [], .sl 0 true .exact [], .sl 0 true .exact [], .int .i64 0, .sl 0 true .exact [], .sl 0 true .exact [], .sl 0 true .exact []], none⟩,
  ⟨none, .store 26 (.s 9) (.s 46) 9 false, none⟩] [2, 3, 9, 41, 42, 43])
 (.seq (.region [⟨some 47, .load 2 true (.s 2) 2 false, none⟩,
  ⟨some 48, .fieldAddr (.s 3) 1, none⟩,
  ⟨some 49, .load 1 false (.s 48) 3 false, none⟩,
  ⟨some 50, .load 26 true (.s 9) 9 false, none⟩,
  ⟨some 51, .call (.fn 34) [(.s 47), (.s 49), (.s 50)] false, none⟩,
  ⟨some 10, .mv (.s 51), none⟩] [2, 3, 10, 41, 42, 43])
 (.seq (.region [⟨some 52, .mv (.s 10), none⟩,
  ⟨some 53, .bin .neq (.s 52) (.c (.int .i64 0)), none⟩] [2, 3, 10, 41, 42, 43, 53])
 (.cond (.s 53) (.seq (.region [⟨some 54, .mv (.s 10), none⟩,
  ⟨some 4, .mv (.s 54), none⟩] [4])
 .ret)
 .skip)))))
 (.region [⟨some 55, .bin .add (.s 43) (.c (.int .i64 1)), none⟩,
  ⟨some 43, .mv (.s 55), none⟩] [2, 3, 41, 42, 43])))))))
 (.seq (.region [⟨some 4, .mv (.c (.int .i64 0)), none⟩] [4])
 .ret)))))) }

/-- procedure.argsFit -/
def g15 : GFun :=
 { nparams := 2, keepHeap := false, results := [.inl 4], body :=
 (.seq (.region [⟨some 4, .mv (.c (.bool false)), none⟩] [0, 1])
 (.seq (.seq (.region [⟨some 7, .mv (.s 0), none⟩,
  ⟨some 8, .len (.s 7) .l false, none⟩,
  ⟨some 9, .mv (.s 1), none⟩,
  ⟨some 10, .len (.s 9) .l false, none⟩,
  ⟨some 11, .bin .neq (.s 8) (.s 10), none⟩] [0, 1, 11])
 (.cond (.s 11) (.seq (.region [⟨some 4, .mv (.c (.bool false)), none⟩] [4])
 .ret)
 .skip))
 (.seq (.seq (.region [⟨some 12, .mv (.s 1), none⟩,
  ⟨some 13, .len (.s 12) .l false, none⟩,
  ⟨some 14, .mv (.c (.int .i64 0)), none⟩] [0, 12, 13, 14])
 (.block 0 (.loop [0, 12, 13, 14] (.seq (.region [⟨some 15, .bin .lss (.s 14) (.s 13), none⟩] [0, 12, 13, 14, 15])
 (.seq (.cond (.s 15) .skip
 (.exit 0))
 (.seq (.block 1 (.seq (.region [⟨some 16, .mv (.s 14), none⟩,
  ⟨some 17, .indexSl (.s 12) (.s 14) 3, none⟩,
  ⟨some 18, .load 3 true (.s 17) 0 true, none⟩,
  ⟨some 6, .alloc [.int .i64 0, .int .i64 0, .str []], none⟩,
  ⟨some 5, .mv (.s 16), none⟩,
  ⟨none, .store 3 (.s 6) (.s 18) 6 false, none⟩] [0, 5, 6, 12, 13, 14])
 (.seq (.region [⟨some 19, .load 3 true (.s 6) 6 false, none⟩,
  ⟨some 20, .call (.fn 35) [(.s 19)] false, none⟩,
  ⟨some 21, .un .not (.s 20), none⟩,
  ⟨some 22, .mv (.s 21), none⟩,
  ⟨some 23, .fieldAddr (.s 6) 0, some (22, false)⟩,
  ⟨some 24, .load 1 false (.s 23) 6 false, some (22, false)⟩,
  ⟨some 25, .mv (.s 0), some (22, false)⟩,
  ⟨some 26, .mv (.s 5), some (22, false)⟩,
  ⟨some 27, .indexSl (.s 25) (.s 26) 1, some (22, false)⟩,
  ⟨some 28, .load 1 false (.s 27) 0 true, some (22, false)⟩,
  ⟨some 29, .bin .neq (.s 24) (.s 28), some (22, false)⟩,
  ⟨some 30, .pick (.s 22) (.c (.bool true)) (.s 29), none⟩] [0, 12, 13, 14, 30])
 (.cond (.s 30) (.seq (.region [⟨some 4, .mv (.c (.bool false)), none⟩] [4])
 .ret)
 .skip))))
 (.region [⟨some 31, .bin .add (.s 14) (.c (.int .i64 1)), none⟩,
  ⟨some 14, .mv (.s 31), none⟩] [0, 12, 13, 14])))))))
 (.seq (.region [⟨some 4, .mv (.c (.bool true)), none⟩] [4])
 .ret)))) }

/-- schema.Check -/
def g16 : GFun :=
 { nparams := 1, keepHeap := false, results := [.inl 2], body :=
 (.seq (.region [⟨some 1, .box (.s 0), none⟩,
  ⟨some 2, .mv (.c (.int .i64 0)), none⟩] [1])
 (.seq (.seq (.region [⟨some 8, .load 2 true (.s 1) 1 false, none⟩,
  ⟨some 9, .call (.fn 36) [(.s 8)] false, none⟩,
  ⟨some 10, .un .not (.s 9), none⟩] [1, 10])
 (.cond (.s 10) (.seq (.region [⟨some 2, .mv (.c (.int .i64 2)), none⟩] [2])
 .ret)
 .skip))
 (.seq (.seq (.region [⟨some 11, .load 2 true (.s 1) 1 false, none⟩,
  ⟨some 12, .call (.fn 37) [(.s 11)] false, none⟩,
  ⟨some 13, .un .not (.s 12), none⟩] [1, 13])
 (.cond (.s 13) (.seq (.region [⟨some 2, .mv (.c (.int .i64 70)), none⟩] [2])
 .ret)
 .skip))
 (.seq (.seq (.region [⟨some 14, .fieldAddr (.s 1) 1, none⟩,
  ⟨some 15, .load 1 false (.s 14) 1 false, none⟩,
  ⟨some 16, .len (.s 15) .l false, none⟩,
  ⟨some 17, .mv (.c (.int .i64 0)), none⟩] [1, 15, 16, 17])
 (.block 0 (.loop [1, 15, 16, 17] (.seq (.region [⟨some 18, .bin .lss (.s 17) (.s 16), none⟩] [1, 15, 16, 17, 18])
 (.seq (.cond (.s 18) .skip
 (.exit 0))
 (.seq (.block 1 (.seq (.region [⟨some 19, .mv (.s 17), none⟩,
  ⟨some 20, .indexSl (.s 15) (.s 17) 5, none⟩,
  ⟨some 21, .load 5 true (.s 20) 0 true, none⟩,
  ⟨some 4, .alloc [.str [], .sl 0 true .exact [], .int .i64 0, .sl 0 true .exact [], .sl 0 true .exact []], none⟩,
  ⟨some 3, .mv (.s 19), none⟩,
  ⟨none, .store 5 (.s 4) (.s 21) 4 false, none⟩] [1, 3, 4, 15, 16, 17])
 (.seq (.region [⟨some 22, .fieldAddr (.s 4) 4, none⟩,
  ⟨some 23, .load 1 false (.s 22) 4 false, none⟩,
  ⟨some 24, .len (.s 23) .l false, none⟩,
  ⟨some 25, .mv (.c (.int .i64 0)), none⟩] [1, 3, 15, 16, 17, 23, 24, 25])
 (.block 2 (.loop [1, 3, 15, 16, 17, 23, 24, 25] (.seq (.region [⟨some 26, .bin .lss (.s 25) (.s 24), none⟩] [1, 3, 15, 16, 17, 23, 24, 25, 26])
 (.seq (.cond (.s 26) .skip
 (.exit 2))
 (.seq (.block 3 (.seq (.region [⟨some 27, .indexSl (.s 23) (.s 25) 13, none⟩,
  ⟨some 28, .load 13 true (.s 27) 0 true, none⟩,
  ⟨some 6, .alloc [.int .i64 0, .int .i64 0, .int .i64 0, .int .i64 0, .int .i64 0, .int .i64 0, .str [], .int .i64 0, .int .i64 0, .int .i64 0, .int .i64 0, .str [], .sl 0 true .exact []], none⟩,
  ⟨none, .store 13 (.s 6) (.s 28) 6 false, none⟩] [1, 3, 6, 15, 16, 17, 23, 24, 25])
 (.seq (.region [⟨some 29, .load 2 true (.s 1) 1 false, none⟩,
  ⟨some 30, .mv (.s 3), none⟩,
  ⟨some 31, .call (.fn 39) [(.s 29), (.s 30)] false, none⟩,
  ⟨some 32, .load 13 true (.s 6) 6 false, none⟩,
  ⟨some 33, .call (.fn 38) [(.s 31), (.c (.sl 0 true .exact [])), (.s 32)] false, none⟩,
  ⟨some 7, .mv (.s 33), none⟩] [1, 3, 7, 15, 16, 17, 23, 24, 25])
 (.seq (.region [⟨some 34, .mv (.s 7), none⟩,
  ⟨some 35, .bin .neq (.s 34) (.c (.int .i64 0)), none⟩] [1, 3, 7, 15, 16, 17, 23, 24, 25, 35])
 (.cond (.s 35) (.seq (.region [⟨some 36, .mv (.s 7), none⟩,
  ⟨some 2, .mv (.s 36), none⟩] [2])
 .ret)
 .skip)))))
 (.region [⟨some 37, .bin .add (.s 25) (.c (.int .i64 1)), none⟩,
  ⟨some 25, .mv (.s 37), none⟩] [1, 3, 15, 16, 17, 23, 24, 25])))))))))
 (.region [⟨some 38, .bin .add (.s 17) (.c (.int .i64 1)), none⟩,
  ⟨some 17, .mv (.s 38), none⟩] [1, 15, 16, 17])))))))
 (.seq (.region [⟨some 2, .mv (.c (.int .i64 0)), none⟩] [2])
 .ret))))) }

/-- table.Count -/
def g17 : GFun :=
 { nparams := 1, keepHeap := false, results := [.inl 2], body :=
 (.seq (.region [⟨some 1, .box (.s 0), none⟩,
  ⟨some 2, .mv (.c (.int .i64 0)), none⟩] [1])
 (.seq (.region [⟨some 3, .mv (.c (.int .i64 0)), none⟩] [1, 3])
 (.seq (.seq (.region [⟨some 6, .fieldAddr (.s 1) 0, none⟩,
  ⟨some 7, .load 1 false (.s 6) 1 false, none⟩,
  ⟨some 8, .len (.s 7) .l false, none⟩,
  ⟨some 9, .mv (.c (.int .i64 0)), none⟩] [3, 7, 8, 9])
 (.block 0 (.loop [3, 7, 8, 9] (.seq (.region [⟨some 10, .bin .lss (.s 9) (.s 8), none⟩] [3, 7, 8, 9, 10])
 (.seq (.cond (.s 10) .skip
 (.exit 0))
 (.seq (.block 1 (.seq (.region [⟨some 11, .indexSl (.s 7) (.s 9) 1, none⟩,
  ⟨some 12, .load 1 false (.s 11) 0 true, none⟩,
  ⟨some 5, .mv (.s 12), none⟩] [3, 5, 7, 8, 9])
 (.region [⟨some 13, .mv (.s 3), none⟩,
  ⟨some 14, .mv (.s 5), none⟩,
  ⟨some 15, .len (.s 14) .l false, none⟩,
  ⟨some 16, .bin .add (.s 13) (.s 15), none⟩,
  ⟨some 3, .mv (.s 16), none⟩] [3, 7, 8, 9])))
 (.region [⟨some 17, .bin .add (.s 9) (.c (.int .i64 1)), none⟩,
  ⟨some 9, .mv (.s 17), none⟩] [3, 7, 8, 9])))))))
 (.seq (.region [⟨some 18, .mv (.s 3), none⟩,
  ⟨some 2, .mv (.s 18), none⟩] [2])
 .ret)))) }

/-- schema.Fits -/
def g18 : GFun :=
 { nparams := 4, keepHeap := false, results := [.inl 8], body :=
 (.seq (.region [⟨some 4, .box (.s 0), none⟩,
  ⟨some 8, .mv (.c (.bool false)), none⟩] [1, 2, 3, 4])
 (.seq (.seq (.region [⟨some 12, .mv (.s 3), none⟩,
  ⟨some 13, .bin .lss (.s 12) (.c (.int .i64 1)), none⟩,
  ⟨some 14, .mv (.s 13), none⟩,
  ⟨some 15, .mv (.s 3), some (14, false)⟩,
  ⟨some 16, .bin .gtr (.s 15) (.c (.int .i64 3)), some (14, false)⟩,
  ⟨some 17, .pick (.s 14) (.c (.bool true)) (.s 16), none⟩,
  ⟨some 18, .mv (.s 17), none⟩,
  ⟨some 19, .load 2 true (.s 4) 4 false, some (18, false)⟩,
  ⟨some 20, .mv (.s 1), some (18, false)⟩,
  ⟨some 21, .call (.fn 40) [(.s 19), (.s 20)] false, some (18, false)⟩,
  ⟨some 22, .un .not (.s 21), some (18, false)⟩,
  ⟨some 23, .pick (.s 18) (.c (.bool true)) (.s 22), none⟩] [1, 2, 3, 4, 23])
 (.cond (.s 23) (.seq (.region [⟨some 8, .mv (.c (.bool false)), none⟩] [8])
 .ret)
 .skip))
 (.seq (.region [⟨some 24, .fieldAddr (.s 4) 1, none⟩,
  ⟨some 25, .load 1 false (.s 24) 4 false, none⟩,
  ⟨some 26, .mv (.s 1), none⟩,
  ⟨some 27, .indexSl (.s 25) (.s 26) 5, none⟩,
  ⟨some 28, .load 5 true (.s 27) 0 true, none⟩,
  ⟨some 9, .alloc [.str [], .sl 0 true .exact [], .int .i64 0, .sl 0 true .exact [], .sl 0 true .exact []], none⟩,
  ⟨none, .store 5 (.s 9) (.s 28) 9 false, none⟩] [2, 3, 9])
 (.seq (.seq (.region [⟨some 29, .mv (.s 2), none⟩,
  ⟨some 30, .len (.s 29) .l false, none⟩,
  ⟨some 31, .fieldAddr (.s 9) 1, none⟩,
  ⟨some 32, .load 1 false (.s 31) 9 false, none⟩,
  ⟨some 33, .len (.s 32) .l false, none⟩,
  ⟨some 34, .bin .neq (.s 30) (.s 33), none⟩] [2, 3, 9, 34])
 (.cond (.s 34) (.seq (.region [⟨some 8, .mv (.c (.bool false)), none⟩] [8])
 .ret)
 .skip))
 (.seq (.seq (.region [⟨some 35, .mv (.s 2), none⟩,
  ⟨some 36, .len (.s 35) .l false, none⟩,
  ⟨some 37, .mv (.c (.int .i64 0)), none⟩] [3, 9, 35, 36, 37])
 (.block 0 (.loop [3, 9, 35, 36, 37] (.seq (.region [⟨some 38, .bin .lss (.s 37) (.s 36), none⟩] [3, 9, 35, 36, 37, 38])
 (.seq (.cond (.s 38) .skip
 (.exit 0))
 (.seq (.block 1 (.seq (.region [⟨some 39, .mv (.s 37), none⟩,
  ⟨some 40, .indexSl (.s 35) (.s 37) 3, none⟩,
  ⟨some 41, .load 3 true (.s 40) 0 true, none⟩,
  ⟨some 11, .alloc [.int .i64 0, .int .i64 0, .str []], none⟩,
  ⟨some 10, .mv (.s 39), none⟩,
  ⟨none, .store 3 (.s 11) (.s 41) 11 false, none⟩] [3, 9, 10, 11, 35, 36, 37])
 (.block 2 (.seq (.region [⟨some 43, .load 3 true (.s 11) 11 false, none⟩,
  ⟨some 44, .call (.fn 41) [(.s 43)] false, none⟩,
  ⟨some 45, .mv (.s 44), none⟩,
  ⟨some 46, .fieldAddr (.s 11) 0, some (45, true)⟩,
  ⟨some 47, .load 1 false (.s 46) 11 false, some (45, true)⟩,
  ⟨some 48, .fieldAddr (.s 9) 1, some (45, true)⟩,
  ⟨some 49, .load 1 false (.s 48) 9 false, some (45, true)⟩,
  ⟨some 50, .mv (.s 10), some (45, true)⟩,
  ⟨some 51, .indexSl (.s 49) (.s 50) 2, some (45, true)⟩,
  ⟨some 52, .fieldAddr (.s 51) 1, some (45, true)⟩,
  ⟨some 53, .load 1 false (.s 52) 0 true, some (45, true)⟩,
  ⟨some 54, .bin .eql (.s 47) (.s 53), some (45, true)⟩,
  ⟨some 55, .pick (.s 45) (.s 54) (.c (.bool false)), none⟩,
  ⟨some 42, .mv (.s 55), none⟩] [3, 9, 10, 11, 35, 36, 37, 42])
 (.cond (.s 42) .skip
 (.seq (.region [⟨some 57, .load 3 true (.s 11) 11 false, none⟩,
  ⟨some 58, .call (.fn 41) [(.s 57)] false, none⟩,
  ⟨some 59, .un .not (.s 58), none⟩,
  ⟨some 60, .mv (.s 59), none⟩,
  ⟨some 61, .mv (.s 10), some (60, false)⟩,
  ⟨some 62, .fieldAddr (.s 9) 2, some (60, false)⟩,
  ⟨some 63, .load 1 false (.s 62) 9 false, some (60, false)⟩,
  ⟨some 64, .bin .lss (.s 61) (.s 63), some (60, false)⟩,
  ⟨some 65, .pick (.s 60) (.c (.bool true)) (.s 64), none⟩,
  ⟨some 56, .mv (.s 65), none⟩] [3, 9, 11, 35, 36, 37, 56])
 (.cond (.s 56) (.seq (.region [⟨some 8, .mv (.c (.bool false)), none⟩] [8])
 .ret)
 (.seq (.region [⟨some 67, .fieldAddr (.s 11) 0, none⟩,
  ⟨some 68, .load 1 false (.s 67) 11 false, none⟩,
  ⟨some 69, .bin .eql (.s 68) (.c (.int .i64 2)), none⟩,
  ⟨some 70, .mv (.s 69), none⟩,
  ⟨some 71, .mv (.s 3), some (70, true)⟩,
  ⟨some 72, .bin .geq (.s 71) (.c (.int .i64 2)), some (70, true)⟩,
  ⟨some 73, .pick (.s 70) (.s 72) (.c (.bool false)), none⟩,
  ⟨some 66, .mv (.s 73), none⟩] [3, 9, 11, 35, 36, 37, 66])
 (.cond (.s 66) .skip
 (.seq (.region [⟨some 75, .fieldAddr (.s 11) 0, none⟩,
  ⟨some 76, .load 1 false (.s 75) 11 false, none⟩,
  ⟨some 77, .bin .eql (.s 76) (.c (.int .i64 1)), none⟩,
  ⟨some 78, .mv (.s 77), none⟩,
  ⟨some 79, .mv (.s 3), some (78, true)⟩,
  ⟨some 80, .bin .eql (.s 79) (.c (.int .i64 3)), some (78, true)⟩,
  ⟨some 81, .pick (.s 78) (.s 80) (.c (.bool false)), none⟩,
  ⟨some 74, .mv (.s 81), none⟩] [3, 9, 35, 36, 37, 74])
 (.cond (.s 74) .skip
 (.seq (.region [⟨some 8, .mv (.c (.bool false)), none⟩] [8])
 .ret))))))))))))
 (.region [⟨some 82, .bin .add (.s 37) (.c (.int .i64 1)), none⟩,
  ⟨some 37, .mv (.s 82), none⟩] [3, 9, 35, 36, 37])))))))
 (.seq (.region [⟨some 8, .mv (.c (.bool true)), none⟩] [8])
 .ret)))))) }

/-- column.Leaves -/
def g21 : GFun :=
 { nparams := 3, keepHeap := false, results := [.inl 6, .inl 7], body :=
 (.seq (.region [⟨some 3, .box (.s 0), none⟩,
  ⟨some 4, .box (.s 1), none⟩,
  ⟨some 5, .box (.s 2), none⟩,
  ⟨some 6, .mv (.c (.sl 0 true .exact [])), none⟩,
  ⟨some 7, .mv (.c (.int .i64 0)), none⟩] [3, 4, 5])
 (.seq (.region [⟨some 18, .load 2 true (.s 3) 3 false, none⟩,
  ⟨some 19, .load 21 true (.s 5) 5 false, none⟩,
  ⟨some 20, .call (.fn 43) [(.s 18), (.s 19)] false, none⟩,
  ⟨some 17, .mv (.s 20), none⟩,
  ⟨some 21, .extract (.s 17) 0, none⟩,
  ⟨some 22, .extract (.s 17) 1, none⟩,
  ⟨some 8, .mv (.s 21), none⟩,
  ⟨some 9, .mv (.s 22), none⟩] [3, 4, 5, 8, 9])
 (.seq (.seq (.region [⟨some 23, .mv (.s 9), none⟩,
  ⟨some 24, .bin .neq (.s 23) (.c (.int .i64 0)), none⟩] [3, 4, 5, 8, 9, 24])
 (.cond (.s 24) (.seq (.region [⟨some 25, .mv (.s 9), none⟩,
  ⟨some 6, .mv (.c (.sl 0 true .exact [])), none⟩,
  ⟨some 7, .mv (.s 25), none⟩] [6, 7])
 .ret)
 .skip))
 (.seq (.seq (.region [⟨some 26, .load 2 true (.s 3) 3 false, none⟩,
  ⟨some 27, .load 1 true (.s 4) 4 false, none⟩,
  ⟨some 28, .call (.fn 10) [(.s 26), (.c (.int .i64 3)), (.s 27)] false, none⟩,
  ⟨some 10, .mv (.s 28), none⟩] [4, 5, 8, 10])
 (.seq (.region [⟨some 29, .mv (.s 10), none⟩,
  ⟨some 30, .bin .neq (.s 29) (.c (.int .i64 0)), none⟩] [4, 5, 8, 10, 30])
 (.cond (.s 30) (.seq (.region [⟨some 31, .mv (.s 10), none⟩,
  ⟨some 6, .mv (.c (.sl 0 true .exact [])), none⟩,
  ⟨some 7, .mv (.s 31), none⟩] [6, 7])
 .ret)
 .skip)))
 (.seq (.region [⟨some 11, .mv (.c (.sl 0 true .exact [])), none⟩] [4, 5, 8, 11])
 (.seq (.seq (.region [⟨some 32, .load 21 true (.s 5) 5 false, none⟩,
  ⟨some 33, .call (.fn 44) [(.s 32)] false, none⟩,
  ⟨some 34, .len (.s 33) .l false, none⟩,
  ⟨some 35, .mv (.c (.int .i64 0)), none⟩] [4, 8, 11, 33, 34, 35])
 (.block 0 (.loop [4, 8, 11, 33, 34, 35] (.seq (.region [⟨some 36, .bin .lss (.s 35) (.s 34), none⟩] [4, 8, 11, 33, 34, 35, 36])
 (.seq (.cond (.s 36) .skip
 (.exit 0))
 (.seq (.block 1 (.seq (.region [⟨some 37, .mv (.s 35), none⟩,
  ⟨some 38, .indexSl (.s 33) (.s 35) 1, none⟩,
  ⟨some 39, .load 1 false (.s 38) 0 true, none⟩,
  ⟨some 12, .mv (.s 37), none⟩,
  ⟨some 13, .mv (.s 39), none⟩] [4, 8, 11, 12, 13, 33, 34, 35])
 (.seq (.region [⟨some 14, .mv (.c (.sl 0 true .exact [])), none⟩] [4, 8, 11, 12, 13, 14, 33, 34, 35])
 (.seq (.seq (.region [⟨some 40, .fieldAddr (.s 4) 0, none⟩,
  ⟨some 41, .load 1 false (.s 40) 4 false, none⟩,
  ⟨some 42, .mv (.s 13), none⟩,
  ⟨some 43, .indexSl (.s 41) (.s 42) 1, none⟩,
  ⟨some 44, .load 1 false (.s 43) 0 true, none⟩,
  ⟨some 45, .len (.s 44) .l false, none⟩,
  ⟨some 46, .mv (.c (.int .i64 0)), none⟩] [4, 8, 11, 12, 14, 33, 34, 35, 44, 45, 46])
 (.block 2 (.loop [4, 8, 11, 12, 14, 33, 34, 35, 44, 45, 46] (.seq (.region [⟨some 47, .bin .lss (.s 46) (.s 45), none⟩] [4, 8, 11, 12, 14, 33, 34, 35, 44, 45, 46, 47])
 (.seq (.cond (.s 47) .skip
 (.exit 2))
 (.seq (.block 3 (.seq (.region [⟨some 48, .indexSl (.s 44) (.s 46) 1, none⟩,
  ⟨some 49, .load 1 false (.s 48) 0 true, none⟩,
  ⟨some 16, .mv (.s 49), none⟩] [4, 8, 11, 12, 14, 16, 33, 34, 35, 44, 45, 46])
 (.seq (.region [⟨some 50, .mv (.s 16), none⟩,
  ⟨some 51, .mv (.s 8), none⟩,
  ⟨some 52, .mv (.s 12), none⟩,
  ⟨some 53, .indexSl (.s 51) (.s 52) 1, none⟩,
  ⟨some 54, .load 1 false (.s 53) 0 true, none⟩,
  ⟨some 55, .call (.fn 45) [(.s 50), (.s 54)] false, none⟩] [4, 8, 11, 12, 14, 16, 33, 34, 35, 44, 45, 46, 55])
 (.cond (.s 55) (.region [⟨some 56, .take 14, none⟩,
  ⟨some 57, .mv (.s 16), none⟩,
  ⟨some 58, .mv (.s 8), none⟩,
  ⟨some 59, .mv (.s 12), none⟩,
  ⟨some 60, .indexSl (.s 58) (.s 59) 1, none⟩,
  ⟨some 61, .load 1 false (.s 60) 0 true, none⟩,
  ⟨some 62, .call (.fn 46) [(.s 57), (.s 61)] false, none⟩,
  ⟨some 63, .bsl 1 1 [.sl 0 true .exact []] [(0, (.s 62))] false, none⟩,
  ⟨some 64, .append (.s 56) (.s 63) 1 24 false false, none⟩,
  ⟨some 14, .take 64, none⟩] [4, 8, 11, 12, 14, 33, 34, 35, 44, 45, 46])
 .skip))))
 (.region [⟨some 65, .bin .add (.s 46) (.c (.int .i64 1)), none⟩,
  ⟨some 46, .mv (.s 65), none⟩] [4, 8, 11, 12, 14, 33, 34, 35, 44, 45, 46])))))))
 (.region [⟨some 66, .take 11, none⟩,
  ⟨some 67, .mv (.s 14), none⟩,
  ⟨some 68, .call (.fn 47) [(.s 67)] false, none⟩,
  ⟨some 69, .bsl 1 1 [.sl 0 true .exact []] [(0, (.s 68))] false, none⟩,
  ⟨some 70, .append (.s 66) (.s 69) 1 24 false false, none⟩,
  ⟨some 11, .take 70, none⟩] [4, 8, 11, 33, 34, 35])))))
 (.region [⟨some 71, .bin .add (.s 35) (.c (.int .i64 1)), none⟩,
  ⟨some 35, .mv (.s 71), none⟩] [4, 8, 11, 33, 34, 35])))))))
 (.seq (.region [⟨some 72, .mv (.s 11), none⟩,
  ⟨some 6, .mv (.s 72), none⟩,
  ⟨some 7, .mv (.c (.int .i64 0)), none⟩] [6, 7])
 .ret))))))) }

/-- evaluate.Over -/
def g22 : GFun :=
 { nparams := 3, keepHeap := false, results := [.inl 6, .inl 7], body :=
 (.seq (.region [⟨some 3, .box (.s 0), none⟩,
  ⟨some 5, .box (.s 2), none⟩,
  ⟨some 6, .mv (.c (.sl 0 true .exact [])), none⟩,
  ⟨some 7, .mv (.c (.int .i64 0)), none⟩] [1, 3, 5])
 (.seq (.seq (.region [⟨some 20, .load 2 true (.s 3) 3 false, none⟩,
  ⟨some 21, .load 21 true (.s 5) 5 false, none⟩,
  ⟨some 22, .call (.fn 48) [(.s 20), (.c (.sl 0 true .exact [])), (.s 21)] false, none⟩,
  ⟨some 19, .mv (.s 22), none⟩,
  ⟨some 23, .extract (.s 19) 0, none⟩,
  ⟨some 24, .extract (.s 19) 1, none⟩,
  ⟨some 8, .mv (.s 23), none⟩,
  ⟨some 9, .mv (.s 24), none⟩] [1, 3, 5, 9])
 (.seq (.region [⟨some 25, .mv (.s 9), none⟩,
  ⟨some 26, .bin .neq (.s 25) (.c (.int .i64 0)), none⟩] [1, 3, 5, 9, 26])
 (.cond (.s 26) (.seq (.region [⟨some 27, .mv (.s 9), none⟩,
  ⟨some 6, .mv (.c (.sl 0 true .exact [])), none⟩,
  ⟨some 7, .mv (.s 27), none⟩] [6, 7])
 .ret)
 .skip)))
 (.seq (.region [⟨some 28, .load 21 true (.s 5) 5 false, none⟩,
  ⟨some 29, .call (.fn 44) [(.s 28)] false, none⟩,
  ⟨some 10, .mv (.s 29), none⟩] [1, 3, 5, 10])
 (.seq (.seq (.region [⟨some 30, .mv (.s 1), none⟩,
  ⟨some 31, .len (.s 30) .l false, none⟩,
  ⟨some 32, .mv (.s 10), none⟩,
  ⟨some 33, .len (.s 32) .l false, none⟩,
  ⟨some 34, .bin .neq (.s 31) (.s 33), none⟩] [1, 3, 5, 10, 34])
 (.cond (.s 34) (.seq (.region [⟨some 6, .mv (.c (.sl 0 true .exact [])), none⟩,
  ⟨some 7, .mv (.c (.int .i64 1)), none⟩] [6, 7])
 .ret)
 .skip))
 (.seq (.seq (.region [⟨some 35, .mv (.s 1), none⟩,
  ⟨some 36, .len (.s 35) .l false, none⟩,
  ⟨some 37, .mv (.c (.int .i64 0)), none⟩] [1, 3, 5, 10, 35, 36, 37])
 (.block 0 (.loop [1, 3, 5, 10, 35, 36, 37] (.seq (.region [⟨some 38, .bin .lss (.s 37) (.s 36), none⟩] [1, 3, 5, 10, 35, 36, 37, 38])
 (.seq (.cond (.s 38) .skip
 (.exit 0))
 (.seq (.block 1 (.seq (.region [⟨some 39, .mv (.s 37), none⟩,
  ⟨some 40, .indexSl (.s 35) (.s 37) 1, none⟩,
  ⟨some 41, .load 1 false (.s 40) 0 true, none⟩,
  ⟨some 11, .mv (.s 39), none⟩,
  ⟨some 12, .mv (.s 41), none⟩] [1, 3, 5, 10, 11, 12, 35, 36, 37])
 (.seq (.region [⟨some 42, .mv (.s 12), none⟩,
  ⟨some 43, .len (.s 42) .l false, none⟩,
  ⟨some 44, .mv (.c (.int .i64 0)), none⟩] [1, 3, 5, 10, 11, 35, 36, 37, 42, 43, 44])
 (.block 2 (.loop [1, 3, 5, 10, 11, 35, 36, 37, 42, 43, 44] (.seq (.region [⟨some 45, .bin .lss (.s 44) (.s 43), none⟩] [1, 3, 5, 10, 11, 35, 36, 37, 42, 43, 44, 45])
 (.seq (.cond (.s 45) .skip
 (.exit 2))
 (.seq (.block 3 (.seq (.region [⟨some 46, .indexSl (.s 42) (.s 44) 1, none⟩,
  ⟨some 47, .load 1 false (.s 46) 0 true, none⟩,
  ⟨some 14, .mv (.s 47), none⟩] [1, 3, 5, 10, 11, 14, 35, 36, 37, 42, 43, 44])
 (.seq (.seq (.region [⟨some 48, .mv (.s 14), none⟩,
  ⟨some 49, .len (.s 48) .l false, none⟩,
  ⟨some 50, .fieldAddr (.s 3) 1, none⟩,
  ⟨some 51, .load 1 false (.s 50) 3 false, none⟩,
  ⟨some 52, .mv (.s 10), none⟩,
  ⟨some 53, .mv (.s 11), none⟩,
  ⟨some 54, .indexSl (.s 52) (.s 53) 1, none⟩,
  ⟨some 55, .load 1 false (.s 54) 0 true, none⟩,
  ⟨some 56, .indexSl (.s 51) (.s 55) 5, none⟩,
  ⟨some 57, .fieldAddr (.s 56) 1, none⟩,
  ⟨some 58, .load 1 false (.s 57) 0 true, none⟩,
  ⟨some 59, .len (.s 58) .l false, none⟩,
  ⟨some 60, .bin .neq (.s 49) (.s 59), none⟩] [1, 3, 5, 10, 11, 14, 35, 36, 37, 42, 43, 44, 60])
 (.cond (.s 60) (.seq (.region [⟨some 6, .mv (.c (.sl 0 true .exact [])), none⟩,
  ⟨some 7, .mv (.c (.int .i64 71)), none⟩] [6, 7])
 .ret)
 .skip))
 (.seq (.region [⟨some 61, .mv (.s 14), none⟩,
  ⟨some 62, .len (.s 61) .l false, none⟩,
  ⟨some 63, .mv (.c (.int .i64 0)), none⟩] [1, 3, 5, 10, 11, 35, 36, 37, 42, 43, 44, 61, 62, 63])
 (.block 4 (.loop [1, 3, 5, 10, 11, 35, 36, 37, 42, 43, 44, 61, 62, 63] (.seq (.region [⟨some 64, .bin .lss (.s 63) (.s 62), none⟩] [1, 3, 5, 10, 11, 35, 36, 37, 42, 43, 44, 61, 62, 63, 64])
 (.seq (.cond (.s 64) .skip
 (.exit 4))
 (.seq (.block 5 (.seq (.region [⟨some 65, .indexSl (.s 61) (.s 63) 3, none⟩,
  ⟨some 66, .load 3 true (.s 65) 0 true, none⟩,
  ⟨some 16, .alloc [.int .i64 0, .int .i64 0, .str []], none⟩,
  ⟨none, .store 3 (.s 16) (.s 66) 16 false, none⟩] [1, 3, 5, 10, 11, 16, 35, 36, 37, 42, 43, 44, 61, 62, 63])
 (.seq (.region [⟨some 67, .load 3 true (.s 16) 16 false, none⟩,
  ⟨some 68, .call (.fn 41) [(.s 67)] false, none⟩,
  ⟨some 69, .un .not (.s 68), none⟩] [1, 3, 5, 10, 11, 35, 36, 37, 42, 43, 44, 61, 62, 63, 69])
 (.cond (.s 69) (.seq (.region [⟨some 6, .mv (.c (.sl 0 true .exact [])), none⟩,
  ⟨some 7, .mv (.c (.int .i64 71)), none⟩] [6, 7])
 .ret)
 .skip))))
 (.region [⟨some 70, .bin .add (.s 63) (.c (.int .i64 1)), none⟩,
  ⟨some 63, .mv (.s 70), none⟩] [1, 3, 5, 10, 11, 35, 36, 37, 42, 43, 44, 61, 62, 63]))))))))))
 (.region [⟨some 71, .bin .add (.s 44) (.c (.int .i64 1)), none⟩,
  ⟨some 44, .mv (.s 71), none⟩] [1, 3, 5, 10, 11, 35, 36, 37, 42, 43, 44])))))))))
 (.region [⟨some 72, .bin .add (.s 37) (.c (.int .i64 1)), none⟩,
  ⟨some 37, .mv (.s 72), none⟩] [1, 3, 5, 10, 35, 36, 37])))))))
 (.seq (.region [⟨some 74, .mv (.s 1), none⟩,
  ⟨some 75, .load 21 true (.s 5) 5 false, none⟩,
  ⟨some 76, .call (.fn 49) [(.s 74), (.c (.int .i64 0)), (.s 75)] false, none⟩,
  ⟨some 73, .mv (.s 76), none⟩,
  ⟨some 77, .extract (.s 73) 0, none⟩,
  ⟨some 78, .extract (.s 73) 1, none⟩,
  ⟨some 17, .mv (.s 77), none⟩,
  ⟨some 18, .mv (.s 78), none⟩] [17])
 (.seq (.region [⟨some 79, .mv (.s 17), none⟩,
  ⟨some 80, .call (.fn 47) [(.s 79)] false, none⟩,
  ⟨some 6, .mv (.s 80), none⟩,
  ⟨some 7, .mv (.c (.int .i64 0)), none⟩] [6, 7])
 .ret))))))) }

/-- (*procedure.run).play$1 -/
def g23 : GFun :=
 { nparams := 2, keepHeap := false, results := [], body :=
 (.seq (.region [⟨some 6, .bad, none⟩] [0, 1, 6])
 (.block 0 (.seq (.region [⟨some 8, .eqv false false [.n] (.s 6) (.c (.niliface)), none⟩] [0, 1, 6, 8])
 (.cond (.s 8) (.region [⟨some 2, .mv (.s 6), none⟩] [])
 (.seq (.region [⟨some 9, .assertTo (.s 6) [(92, true)] false (.int .i64 0) true, none⟩,
  ⟨some 10, .extract (.s 9) 1, none⟩,
  ⟨some 11, .extract (.s 9) 0, none⟩] [0, 1, 6, 10, 11])
 (.cond (.s 10) (.seq (.region [⟨some 3, .mv (.s 11), none⟩] [0, 3])
 (.region [⟨some 12, .load 1 false (.s 0) 0 true, none⟩,
  ⟨some 13, .load 1 false (.s 0) 0 true, none⟩,
  ⟨some 14, .mv (.s 3), none⟩,
  ⟨some 15, .nilCheck (.s 12), none⟩,
  ⟨some 16, .fieldAddr (.s 15) 3, none⟩,
  ⟨some 17, .fieldAddr (.s 16) 0, none⟩,
  ⟨none, .store 1 (.s 17) (.s 14) 0 true, none⟩,
  ⟨some 18, .nilCheck (.s 13), none⟩,
  ⟨some 19, .fieldAddr (.s 18) 3, none⟩,
  ⟨some 20, .fieldAddr (.s 19) 2, none⟩,
  ⟨none, .store 1 (.s 20) (.c (.sl 0 true .exact [])) 0 true, none⟩] []))
 (.seq (.region [⟨some 21, .assertTo (.s 6) [(93, true)] false (.int .i64 0) true, none⟩,
  ⟨some 22, .extract (.s 21) 1, none⟩,
  ⟨some 23, .extract (.s 21) 0, none⟩] [1, 6, 22, 23])
 (.cond (.s 22) (.seq (.region [⟨some 4, .mv (.s 23), none⟩] [1, 4])
 (.region [⟨some 24, .mv (.s 4), none⟩,
  ⟨none, .store 1 (.s 1) (.s 24) 0 true, none⟩] []))
 (.seq (.region [⟨some 5, .mv (.s 6), none⟩] [5])
 (.region [⟨some 7, .mv (.s 5), none⟩,
  ⟨none, .pan (.s 7), none⟩] [])))))))))) }

/-- (*procedure.run).insert -/
def g26 : GFun :=
 { nparams := 3, keepHeap := false, results := [], body :=
 (.seq (.pregion false [⟨some 4, .box (.s 1), none⟩] [0, 2, 4])
 (.seq (.pregion false [⟨some 9, .mv (.s 2), none⟩,
  ⟨some 10, .len (.s 9) .l false, none⟩,
  ⟨some 11, .mv (.c (.int .i64 0)), none⟩] [0, 4, 9, 10, 11])
 (.block 0 (.loop [0, 4, 9, 10, 11] (.seq (.pregion false [⟨some 12, .bin .lss (.s 11) (.s 10), none⟩] [0, 4, 9, 10, 11, 12])
 (.seq (.cond (.s 12) .skip
 (.exit 0))
 (.seq (.block 1 (.seq (.pregion false [⟨some 13, .indexSl (.s 9) (.s 11) 1, none⟩,
  ⟨some 14, .load 1 false (.s 13) 0 true, none⟩,
  ⟨some 7, .mv (.s 14), none⟩] [0, 4, 7, 9, 10, 11])
 (.seq (.pregion false [⟨some 15, .mv (.s 0), none⟩,
  ⟨some 16, .fieldAddr (.s 4) 25, none⟩,
  ⟨some 17, .load 1 false (.s 16) 4 false, none⟩,
  ⟨some 18, .mv (.s 7), none⟩,
  ⟨some 19, .call (.fn 50) [(.s 15), (.s 17), (.s 18)] false, none⟩,
  ⟨some 8, .mv (.s 19), none⟩] [0, 4, 8, 9, 10, 11])
 (.pregion true [⟨some 20, .mv (.s 0), none⟩,
  ⟨some 21, .fieldAddr (.s 4) 1, none⟩,
  ⟨some 22, .load 1 false (.s 21) 4 false, none⟩,
  ⟨some 23, .mv (.s 8), none⟩,
  ⟨some 24, .mv (.s 0), none⟩,
  ⟨some 25, .nilCheck (.s 24), none⟩,
  ⟨some 26, .fieldAddr (.s 25) 0, none⟩,
  ⟨some 27, .fieldAddr (.s 26) 1, none⟩,
  ⟨some 28, .load 1 false (.s 27) 0 true, none⟩,
  ⟨some 29, .fieldAddr (.s 4) 1, none⟩,
  ⟨some 30, .load 1 false (.s 29) 4 false, none⟩,
  ⟨some 31, .indexSl (.s 28) (.s 30) 5, none⟩,
  ⟨some 32, .fieldAddr (.s 31) 2, none⟩,
  ⟨some 33, .load 1 false (.s 32) 0 true, none⟩,
  ⟨some 34, .slice false (.s 23) none (some (.s 33)) none 3, none⟩,
  ⟨some 35, .call (.fn 52) [(.s 34)] false, none⟩,
  ⟨some 36, .mv (.s 8), none⟩,
  ⟨some 37, .build [.int .i64 0, .int .i64 0, .sl 0 true .exact [], .sl 0 true .exact [], .sl 0 true .exact []] [(0, 1, (.c (.int .i64 1))), (1, 1, (.s 22)), (2, 1, (.s 35)), (4, 1, (.s 36))], none⟩,
  ⟨some 38, .call (.fn 51) [(.s 20), (.s 37)] false, none⟩] [0, 4, 9, 10, 11]))))
 (.pregion false [⟨some 39, .bin .add (.s 11) (.c (.int .i64 1)), none⟩,
  ⟨some 11, .mv (.s 39), none⟩] [0, 4, 9, 10, 11])))))))) }

/-- (*procedure.run).update -/
def g27 : GFun :=
 { nparams := 3, keepHeap := false, results := [], body :=
 (.seq (.pregion false [⟨some 4, .box (.s 1), none⟩] [0, 2, 4])
 (.seq (.pregion false [⟨some 9, .mv (.s 2), none⟩,
  ⟨some 10, .len (.s 9) .l false, none⟩,
  ⟨some 11, .mv (.c (.int .i64 0)), none⟩] [0, 4, 9, 10, 11])
 (.block 0 (.loop [0, 4, 9, 10, 11] (.seq (.pregion false [⟨some 12, .bin .lss (.s 11) (.s 10), none⟩] [0, 4, 9, 10, 11, 12])
 (.seq (.cond (.s 12) .skip
 (.exit 0))
 (.seq (.block 1 (.seq (.pregion false [⟨some 13, .indexSl (.s 9) (.s 11) 1, none⟩,
  ⟨some 14, .load 1 false (.s 13) 0 true, none⟩,
  ⟨some 7, .mv (.s 14), none⟩] [0, 4, 7, 9, 10, 11])
 (.seq (.pregion false [⟨some 15, .mv (.s 0), none⟩,
  ⟨some 16, .load 26 true (.s 4) 4 false, none⟩,
  ⟨some 17, .mv (.s 7), none⟩,
  ⟨some 18, .call (.fn 53) [(.s 15), (.s 16), (.s 17)] false, none⟩,
  ⟨some 8, .mv (.s 18), none⟩] [0, 4, 7, 8, 9, 10, 11])
 (.pregion true [⟨some 19, .mv (.s 0), none⟩,
  ⟨some 20, .fieldAddr (.s 4) 1, none⟩,
  ⟨some 21, .load 1 false (.s 20) 4 false, none⟩,
  ⟨some 22, .mv (.s 8), none⟩,
  ⟨some 23, .fieldAddr (.s 4) 24, none⟩,
  ⟨some 24, .load 1 false (.s 23) 4 false, none⟩,
  ⟨some 25, .call (.fn 54) [(.s 24)] false, none⟩,
  ⟨some 26, .mv (.s 0), none⟩,
  ⟨some 27, .fieldAddr (.s 4) 25, none⟩,
  ⟨some 28, .load 1 false (.s 27) 4 false, none⟩,
  ⟨some 29, .mv (.s 7), none⟩,
  ⟨some 30, .call (.fn 50) [(.s 26), (.s 28), (.s 29)] false, none⟩,
  ⟨some 31, .build [.int .i64 0, .int .i64 0, .sl 0 true .exact [], .sl 0 true .exact [], .sl 0 true .exact []] [(0, 1, (.c (.int .i64 2))), (1, 1, (.s 21)), (2, 1, (.s 22)), (3, 1, (.s 25)), (4, 1, (.s 30))], none⟩,
  ⟨some 32, .call (.fn 51) [(.s 19), (.s 31)] false, none⟩] [0, 4, 9, 10, 11]))))
 (.pregion false [⟨some 33, .bin .add (.s 11) (.c (.int .i64 1)), none⟩,
  ⟨some 11, .mv (.s 33), none⟩] [0, 4, 9, 10, 11])))))))) }

/-- query.Bind -/
def g29 : GFun :=
 { nparams := 2, keepHeap := false, results := [.inr (4, 21, true)], body :=
 (.seq (.region [⟨some 2, .box (.s 0), none⟩,
  ⟨some 4, .alloc [.int .i64 0, .int .i64 0, .int .i64 0, .int .i64 0, .int .i64 0, .int .i64 0, .int .i64 0, .int .i64 0, .str [], .int .i64 0, .int .i64 0, .int .i64 0, .int .i64 0, .str [], .sl 0 true .exact [], .sl 0 true .exact [], .sl 0 true .exact [], .sl 0 true .exact [], .sl 0 true .exact [], .int .i64 0, .sl 0 true .exact []], none⟩] [1, 2, 4])
 (.seq (.region [⟨some 8, .load 21 true (.s 2) 2 false, none⟩,
  ⟨some 5, .alloc [.int .i64 0, .int .i64 0, .int .i64 0, .int .i64 0, .int .i64 0, .int .i64 0, .int .i64 0, .int .i64 0, .str [], .int .i64 0, .int .i64 0, .int .i64 0, .int .i64 0, .str [], .sl 0 true .exact [], .sl 0 true .exact [], .sl 0 true .exact [], .sl 0 true .exact [], .sl 0 true .exact [], .int .i64 0, .sl 0 true .exact []], none⟩,
  ⟨none, .store 21 (.s 5) (.s 8) 5 false, none⟩] [1, 2, 4, 5])
 (.seq (.region [⟨some 9, .fieldAddr (.s 2) 2, none⟩,
  ⟨some 10, .load 13 true (.s 9) 2 false, none⟩,
  ⟨some 11, .mv (.s 1), none⟩,
  ⟨some 12, .call (.fn 55) [(.s 10), (.s 11)] false, none⟩,
  ⟨some 13, .fieldAddr (.s 5) 2, none⟩,
  ⟨none, .store 13 (.s 13) (.s 12) 5 false, none⟩] [1, 2, 4, 5])
 (.seq (.region [⟨some 14, .fieldAddr (.s 2) 15, none⟩,
  ⟨some 15, .load 1 false (.s 14) 2 false, none⟩,
  ⟨some 16, .call (.fn 54) [(.s 15)] false, none⟩,
  ⟨some 17, .fieldAddr (.s 5) 15, none⟩,
  ⟨none, .store 1 (.s 17) (.s 16) 5 false, none⟩] [1, 2, 4, 5])
 (.seq (.region [⟨some 18, .fieldAddr (.s 2) 16, none⟩,
  ⟨some 19, .load 1 false (.s 18) 2 false, none⟩,
  ⟨some 20, .call (.fn 56) [(.s 19)] false, none⟩,
  ⟨some 21, .fieldAddr (.s 5) 16, none⟩,
  ⟨none, .store 1 (.s 21) (.s 20) 5 false, none⟩] [1, 2, 4, 5])
 (.seq (.region [⟨some 22, .fieldAddr (.s 2) 17, none⟩,
  ⟨some 23, .load 1 false (.s 22) 2 false, none⟩,
  ⟨some 24, .call (.fn 54) [(.s 23)] false, none⟩,
  ⟨some 25, .fieldAddr (.s 5) 17, none⟩,
  ⟨none, .store 1 (.s 25) (.s 24) 5 false, none⟩] [1, 2, 4, 5])
 (.seq (.region [⟨some 26, .fieldAddr (.s 2) 18, none⟩,
  ⟨some 27, .load 1 false (.s 26) 2 false, none⟩,
  ⟨some 28, .call (.fn 57) [(.s 27)] false, none⟩,
  ⟨some 29, .fieldAddr (.s 5) 18, none⟩,
  ⟨none, .store 1 (.s 29) (.s 28) 5 false, none⟩] [1, 2, 4, 5])
 (.seq (.region [⟨some 30, .fieldAddr (.s 5) 20, none⟩,
  ⟨none, .store 1 (.s 30) (.c (.sl 0 true .exact [])) 5 false, none⟩] [1, 2, 4, 5])
 (.seq (.seq (.region [⟨some 31, .fieldAddr (.s 2) 20, none⟩,
  ⟨some 32, .load 1 false (.s 31) 2 false, none⟩,
  ⟨some 33, .len (.s 32) .l false, none⟩,
  ⟨some 34, .mv (.c (.int .i64 0)), none⟩] [1, 4, 5, 32, 33, 34])
 (.block 0 (.loop [1, 4, 5, 32, 33, 34] (.seq (.region [⟨some 35, .bin .lss (.s 34) (.s 33), none⟩] [1, 4, 5, 32, 33, 34, 35])
 (.seq (.cond (.s 35) .skip
 (.exit 0))
 (.seq (.block 1 (.seq (.region [⟨some 36, .indexSl (.s 32) (.s 34) 21, none⟩,
  ⟨some 37, .load 21 true (.s 36) 0 true, none⟩,
  ⟨some 7, .alloc [.int .i64 0, .int .i64 0, .int .i64 0, .int .i64 0, .int .i64 0, .int .i64 0, .int .i64 0, .int .i64 0, .str [], .int .i64 0, .int .i64 0, .int .i64 0, .int .i64 0, .str [], .sl 0 true .exact [], .sl 0 true .exact [], .sl 0 true .exact [], .sl 0 true .exact [], .sl 0 true .exact [], .int .i64 0, .sl 0 true .exact []], none⟩,
  ⟨none, .store 21 (.s 7) (.s 37) 7 false, none⟩] [1, 4, 5, 7, 32, 33, 34])
 (.region [⟨some 38, .fieldAddr (.s 5) 20, none⟩,
  ⟨some 39, .loadTake (.s 38) 5 false, none⟩,
  ⟨some 40, .load 21 true (.s 7) 7 false, none⟩,
  ⟨some 41, .mv (.s 1), none⟩,
  ⟨some 42, .call (.fn 29) [(.s 40), (.s 41)] false, none⟩,
  ⟨some 43, .bsl 21 1 [.int .i64 0, .int .i64 0, .int .i64 0, .int .i64 0, .int .i64 0, .int .i64 0, .int .i64 0, .int .i64 0, .str [], .int .i64 0, .int .i64 0, .int .i64 0, .int .i64 0, .str [], .sl 0 true .exact [], .sl 0 true .exact [], .sl 0 true .exact [], .sl 0 true .exact [], .sl 0 true .exact [], .int .i64 0, .sl 0 true .exact []] [(0, (.s 42))] false, none⟩,
  ⟨some 44, .append (.s 39) (.s 43) 21 280 false false, none⟩,
  ⟨some 45, .fieldAddr (.s 5) 20, none⟩,
  ⟨none, .storeTake (.s 45) 44 5 false, none⟩] [1, 4, 5, 32, 33, 34])))
 (.region [⟨some 46, .bin .add (.s 34) (.c (.int .i64 1)), none⟩,
  ⟨some 34, .mv (.s 46), none⟩] [1, 4, 5, 32, 33, 34])))))))
 (.seq (.region [⟨some 47, .load 21 true (.s 5) 5 false, none⟩,
  ⟨none, .store 21 (.s 4) (.s 47) 4 false, none⟩] [4])
 .ret)))))))))) }

/-- slices.SortFunc[[]api.Write,api.Write] -/
def g30 : GFun :=
 { nparams := 2, keepHeap := false, results := [], body :=
 (.seq (.region [⟨some 5, .mv (.s 0), none⟩,
  ⟨some 6, .len (.s 5) .l false, none⟩,
  ⟨some 4, .mv (.s 6), none⟩] [0, 1, 4])
 (.region [⟨some 7, .mv (.s 0), none⟩,
  ⟨some 8, .mv (.s 4), none⟩,
  ⟨some 9, .mv (.s 4), none⟩,
  ⟨some 10, .toInt .u64 (.s 9), none⟩,
  ⟨some 11, .call (.fn 59) [(.s 10)] false, none⟩,
  ⟨some 12, .mv (.s 1), none⟩,
  ⟨some 13, .call (.fn 58) [(.s 7), (.c (.int .i64 0)), (.s 8), (.s 11), (.s 12)] false, none⟩] [])) }

/-- procedure.checkAction -/
def g34 : GFun :=
 { nparams := 3, keepHeap := false, results := [.inl 6], body :=
 (.seq (.region [⟨some 3, .box (.s 0), none⟩,
  ⟨some 5, .box (.s 2), none⟩,
  ⟨some 6, .mv (.c (.int .i64 0)), none⟩] [1, 3, 5])
 (.seq (.region [⟨some 17, .fieldAddr (.s 5) 0, none⟩,
  ⟨some 18, .load 1 false (.s 17) 5 false, none⟩,
  ⟨some 19, .bin .eql (.s 18) (.c (.int .i64 1)), none⟩,
  ⟨some 20, .mv (.s 19), none⟩,
  ⟨some 21, .fieldAddr (.s 5) 0, some (20, false)⟩,
  ⟨some 22, .load 1 false (.s 21) 5 false, some (20, false)⟩,
  ⟨some 23, .bin .eql (.s 22) (.c (.int .i64 2)), some (20, false)⟩,
  ⟨some 24, .pick (.s 20) (.c (.bool true)) (.s 23), none⟩,
  ⟨some 7, .mv (.s 24), none⟩] [1, 3, 5, 7])
 (.seq (.block 0 (.seq (.seq (.region [⟨some 26, .fieldAddr (.s 5) 0, none⟩,
  ⟨some 27, .load 1 false (.s 26) 5 false, none⟩,
  ⟨some 28, .bin .lss (.s 27) (.c (.int .i64 1)), none⟩,
  ⟨some 29, .mv (.s 28), none⟩,
  ⟨some 30, .fieldAddr (.s 5) 0, some (29, false)⟩,
  ⟨some 31, .load 1 false (.s 30) 5 false, some (29, false)⟩,
  ⟨some 32, .bin .gtr (.s 31) (.c (.int .i64 5)), some (29, false)⟩,
  ⟨some 33, .pick (.s 29) (.c (.bool true)) (.s 32), none⟩,
  ⟨some 25, .mv (.s 33), none⟩] [1, 3, 5, 7, 25])
 (.cond (.s 25) .skip
 (.seq (.region [⟨some 34, .mv (.s 7), none⟩,
  ⟨some 35, .mv (.s 34), none⟩,
  ⟨some 36, .fieldAddr (.s 5) 1, some (35, true)⟩,
  ⟨some 37, .load 1 false (.s 36) 5 false, some (35, true)⟩,
  ⟨some 38, .bin .neq (.s 37) (.c (.int .i64 0)), some (35, true)⟩,
  ⟨some 39, .mv (.s 38), some (35, true)⟩,
  ⟨some 40, .fieldAddr (.s 5) 2, some (39, false)⟩,
  ⟨some 41, .load 1 false (.s 40) 5 false, some (39, false)⟩,
  ⟨some 42, .bin .lss (.s 41) (.c (.int .i64 1)), some (39, false)⟩,
  ⟨some 43, .pick (.s 39) (.c (.bool true)) (.s 42), some (35, true)⟩,
  ⟨some 44, .mv (.s 43), some (35, true)⟩,
  ⟨some 45, .fieldAddr (.s 5) 2, some (44, false)⟩,
  ⟨some 46, .load 1 false (.s 45) 5 false, some (44, false)⟩,
  ⟨some 47, .bin .gtr (.s 46) (.c (.int .i64 100)), some (44, false)⟩,
  ⟨some 48, .pick (.s 44) (.c (.bool true)) (.s 47), some (35, true)⟩,
  ⟨some 49, .pick (.s 35) (.s 48) (.c (.bool false)), none⟩,
  ⟨some 25, .mv (.s 49), none⟩] [1, 3, 5, 7, 25])
 (.cond (.s 25) .skip
 (.region [⟨some 50, .mv (.s 7), none⟩,
  ⟨some 51, .un .not (.s 50), none⟩,
  ⟨some 52, .mv (.s 51), none⟩,
  ⟨some 53, .fieldAddr (.s 5) 2, some (52, true)⟩,
  ⟨some 54, .load 1 false (.s 53) 5 false, some (52, true)⟩,
  ⟨some 55, .bin .neq (.s 54) (.c (.int .i64 0)), some (52, true)⟩,
  ⟨some 56, .mv (.s 55), some (52, true)⟩,
  ⟨some 57, .fieldAddr (.s 5) 1, some (56, false)⟩,
  ⟨some 58, .load 1 false (.s 57) 5 false, some (56, false)⟩,
  ⟨some 59, .bin .lss (.s 58) (.c (.int .i64 0)), some (56, false)⟩,
  ⟨some 60, .pick (.s 56) (.c (.bool true)) (.s 59), some (52, true)⟩,
  ⟨some 61, .mv (.s 60), some (52, true)⟩,
  ⟨some 62, .fieldAddr (.s 5) 1, some (61, false)⟩,
  ⟨some 63, .load 1 false (.s 62) 5 false, some (61, false)⟩,
  ⟨some 64, .fieldAddr (.s 3) 1, some (61, false)⟩,
  ⟨some 65, .load 1 false (.s 64) 3 false, some (61, false)⟩,
  ⟨some 66, .len (.s 65) .l false, some (61, false)⟩,
  ⟨some 67, .bin .geq (.s 63) (.s 66), some (61, false)⟩,
  ⟨some 68, .pick (.s 61) (.c (.bool true)) (.s 67), some (52, true)⟩,
  ⟨some 69, .pick (.s 52) (.s 68) (.c (.bool false)), none⟩,
  ⟨some 25, .mv (.s 69), none⟩] [1, 3, 5, 7, 25])))))
 (.cond (.s 25) (.seq (.region [⟨some 6, .mv (.c (.int .i64 260)), none⟩] [6])
 .ret)
 .skip)))
 (.seq (.region [⟨some 71, .load 2 true (.s 3) 3 false, none⟩,
  ⟨some 72, .mv (.s 1), none⟩,
  ⟨some 73, .fieldAddr (.s 5) 3, none⟩,
  ⟨some 74, .load 21 true (.s 73) 5 false, none⟩,
  ⟨some 75, .call (.fn 48) [(.s 71), (.s 72), (.s 74)] false, none⟩,
  ⟨some 70, .mv (.s 75), none⟩,
  ⟨some 76, .extract (.s 70) 0, none⟩,
  ⟨some 77, .extract (.s 70) 1, none⟩,
  ⟨some 8, .mv (.s 76), none⟩,
  ⟨some 9, .mv (.s 77), none⟩] [1, 3, 5, 7, 8, 9])
 (.seq (.seq (.region [⟨some 78, .mv (.s 9), none⟩,
  ⟨some 79, .bin .neq (.s 78) (.c (.int .i64 0)), none⟩] [1, 3, 5, 7, 8, 9, 79])
 (.cond (.s 79) (.seq (.region [⟨some 80, .mv (.s 9), none⟩,
  ⟨some 6, .mv (.s 80), none⟩] [6])
 .ret)
 .skip))
 (.seq (.region [⟨some 10, .mv (.c (.sl 0 true .exact [])), none⟩] [1, 3, 5, 7, 8, 10])
 (.seq (.seq (.region [⟨some 81, .mv (.s 7), none⟩,
  ⟨some 82, .un .not (.s 81), none⟩] [1, 3, 5, 8, 10, 82])
 (.cond (.s 82) (.seq (.region [⟨some 83, .fieldAddr (.s 3) 1, none⟩,
  ⟨some 84, .load 1 false (.s 83) 3 false, none⟩,
  ⟨some 85, .fieldAddr (.s 5) 1, none⟩,
  ⟨some 86, .load 1 false (.s 85) 5 false, none⟩,
  ⟨some 87, .indexSl (.s 84) (.s 86) 5, none⟩,
  ⟨some 88, .load 5 true (.s 87) 0 true, none⟩,
  ⟨some 11, .alloc [.str [], .sl 0 true .exact [], .int .i64 0, .sl 0 true .exact [], .sl 0 true .exact []], none⟩,
  ⟨none, .store 5 (.s 11) (.s 88) 11 false, none⟩] [1, 3, 5, 8, 10, 11])
 (.seq (.region [⟨some 89, .load 2 true (.s 3) 3 false, none⟩,
  ⟨some 90, .fieldAddr (.s 5) 1, none⟩,
  ⟨some 91, .load 1 false (.s 90) 5 false, none⟩,
  ⟨some 92, .call (.fn 61) [(.s 89), (.s 91)] false, none⟩,
  ⟨some 12, .mv (.s 92), none⟩] [1, 3, 5, 8, 10, 11, 12])
 (.seq (.seq (.region [⟨some 93, .fieldAddr (.s 5) 0, none⟩,
  ⟨some 94, .load 1 false (.s 93) 5 false, none⟩,
  ⟨some 95, .bin .neq (.s 94) (.c (.int .i64 3)), none⟩,
  ⟨some 96, .mv (.s 95), none⟩,
  ⟨some 97, .mv (.s 8), some (96, true)⟩,
  ⟨some 98, .len (.s 97) .l false, some (96, true)⟩,
  ⟨some 99, .mv (.s 12), some (96, true)⟩,
  ⟨some 100, .len (.s 99) .l false, some (96, true)⟩,
  ⟨some 101, .bin .lss (.s 98) (.s 100), some (96, true)⟩,
  ⟨some 102, .mv (.s 101), some (96, true)⟩,
  ⟨some 103, .mv (.s 8), some (102, false)⟩,
  ⟨some 104, .mv (.s 12), some (102, false)⟩,
  ⟨some 105, .len (.s 104) .l false, some (102, false)⟩,
  ⟨some 106, .slice false (.s 103) none (some (.s 105)) none 1, some (102, false)⟩,
  ⟨some 107, .mv (.s 12), some (102, false)⟩,
  ⟨some 108, .call (.fn 62) [(.s 106), (.s 107)] false, some (102, false)⟩,
  ⟨some 109, .un .not (.s 108), some (102, false)⟩,
  ⟨some 110, .pick (.s 102) (.c (.bool true)) (.s 109), some (96, true)⟩,
  ⟨some 111, .pick (.s 96) (.s 110) (.c (.bool false)), none⟩] [1, 3, 5, 8, 10, 11, 111])
 (.cond (.s 111) (.seq (.region [⟨some 6, .mv (.c (.int .i64 260)), none⟩] [6])
 .ret)
 .skip))
 (.seq (.region [⟨some 112, .fieldAddr (.s 5) 0, none⟩,
  ⟨some 113, .load 1 false (.s 112) 5 false, none⟩] [1, 3, 5, 8, 10, 11, 113])
 (.block 1 (.seq (.region [⟨some 115, .bin .eql (.s 113) (.c (.int .i64 3)), none⟩,
  ⟨some 114, .mv (.s 115), none⟩] [1, 3, 5, 8, 10, 11, 113, 114])
 (.cond (.s 114) (.region [⟨some 116, .load 2 true (.s 3) 3 false, none⟩,
  ⟨some 117, .fieldAddr (.s 5) 1, none⟩,
  ⟨some 118, .load 1 false (.s 117) 5 false, none⟩,
  ⟨some 119, .call (.fn 39) [(.s 116), (.s 118)] false, none⟩,
  ⟨some 10, .mv (.s 119), none⟩] [1, 5, 8, 10])
 (.seq (.region [⟨some 121, .bin .eql (.s 113) (.c (.int .i64 4)), none⟩,
  ⟨some 120, .mv (.s 121), none⟩] [1, 5, 8, 10, 11, 120])
 (.cond (.s 120) (.seq (.seq (.region [⟨some 122, .fieldAddr (.s 5) 24, none⟩,
  ⟨some 123, .load 1 false (.s 122) 5 false, none⟩,
  ⟨some 124, .len (.s 123) .l false, none⟩,
  ⟨some 125, .bin .eql (.s 124) (.c (.int .i64 0)), none⟩,
  ⟨some 126, .mv (.s 125), none⟩,
  ⟨some 127, .load 5 true (.s 11) 11 false, some (126, false)⟩,
  ⟨some 128, .fieldAddr (.s 5) 24, some (126, false)⟩,
  ⟨some 129, .load 1 false (.s 128) 5 false, some (126, false)⟩,
  ⟨some 130, .call (.fn 63) [(.s 127), (.s 129)] false, some (126, false)⟩,
  ⟨some 131, .un .not (.s 130), some (126, false)⟩,
  ⟨some 132, .pick (.s 126) (.c (.bool true)) (.s 131), none⟩] [1, 5, 8, 10, 11, 132])
 (.cond (.s 132) (.seq (.region [⟨some 6, .mv (.c (.int .i64 260)), none⟩] [6])
 .ret)
 .skip))
 (.seq (.region [⟨some 133, .fieldAddr (.s 5) 24, none⟩,
  ⟨some 134, .load 1 false (.s 133) 5 false, none⟩,
  ⟨some 135, .len (.s 134) .l false, none⟩,
  ⟨some 136, .mv (.c (.int .i64 0)), none⟩] [1, 5, 8, 10, 11, 134, 135, 136])
 (.block 2 (.loop [1, 5, 8, 10, 11, 134, 135, 136] (.seq (.region [⟨some 137, .bin .lss (.s 136) (.s 135), none⟩] [1, 5, 8, 10, 11, 134, 135, 136, 137])
 (.seq (.cond (.s 137) .skip
 (.exit 2))
 (.seq (.block 3 (.seq (.region [⟨some 138, .indexSl (.s 134) (.s 136) 1, none⟩,
  ⟨some 139, .load 1 false (.s 138) 0 true, none⟩,
  ⟨some 14, .mv (.s 139), none⟩] [1, 5, 8, 10, 11, 14, 134, 135, 136])
 (.region [⟨some 140, .take 10, none⟩,
  ⟨some 141, .fieldAddr (.s 11) 1, none⟩,
  ⟨some 142, .load 1 false (.s 141) 11 false, none⟩,
  ⟨some 143, .mv (.s 14), none⟩,
  ⟨some 144, .indexSl (.s 142) (.s 143) 2, none⟩,
  ⟨some 145, .fieldAddr (.s 144) 1, none⟩,
  ⟨some 146, .load 1 false (.s 145) 0 true, none⟩,
  ⟨some 147, .bsl 1 1 [.int .i64 0] [(0, (.s 146))] false, none⟩,
  ⟨some 148, .append (.s 140) (.s 147) 1 8 false false, none⟩,
  ⟨some 10, .take 148, none⟩] [1, 5, 8, 10, 11, 134, 135, 136])))
 (.region [⟨some 149, .bin .add (.s 136) (.c (.int .i64 1)), none⟩,
  ⟨some 136, .mv (.s 149), none⟩] [1, 5, 8, 10, 11, 134, 135, 136]))))))))
 .skip)))))))))
 .skip))
 (.seq (.seq (.region [⟨some 150, .fieldAddr (.s 5) 0, none⟩,
  ⟨some 151, .load 1 false (.s 150) 5 false, none⟩,
  ⟨some 152, .bin .neq (.s 151) (.c (.int .i64 4)), none⟩,
  ⟨some 153, .mv (.s 152), none⟩,
  ⟨some 154, .fieldAddr (.s 5) 24, some (153, true)⟩,
  ⟨some 155, .load 1 false (.s 154) 5 false, some (153, true)⟩,
  ⟨some 156, .len (.s 155) .l false, some (153, true)⟩,
  ⟨some 157, .bin .gtr (.s 156) (.c (.int .i64 0)), some (153, true)⟩,
  ⟨some 158, .pick (.s 153) (.s 157) (.c (.bool false)), none⟩,
  ⟨some 159, .mv (.s 158), none⟩,
  ⟨some 160, .fieldAddr (.s 5) 25, some (159, false)⟩,
  ⟨some 161, .load 1 false (.s 160) 5 false, some (159, false)⟩,
  ⟨some 162, .len (.s 161) .l false, some (159, false)⟩,
  ⟨some 163, .mv (.s 10), some (159, false)⟩,
  ⟨some 164, .len (.s 163) .l false, some (159, false)⟩,
  ⟨some 165, .bin .neq (.s 162) (.s 164), some (159, false)⟩,
  ⟨some 166, .pick (.s 159) (.c (.bool true)) (.s 165), none⟩] [1, 5, 8, 10, 166])
 (.cond (.s 166) (.seq (.region [⟨some 6, .mv (.c (.int .i64 260)), none⟩] [6])
 .ret)
 .skip))
 (.seq (.seq (.region [⟨some 167, .fieldAddr (.s 5) 25, none⟩,
  ⟨some 168, .load 1 false (.s 167) 5 false, none⟩,
  ⟨some 169, .len (.s 168) .l false, none⟩,
  ⟨some 170, .mv (.c (.int .i64 0)), none⟩] [1, 8, 10, 168, 169, 170])
 (.block 4 (.loop [1, 8, 10, 168, 169, 170] (.seq (.region [⟨some 171, .bin .lss (.s 170) (.s 169), none⟩] [1, 8, 10, 168, 169, 170, 171])
 (.seq (.cond (.s 171) .skip
 (.exit 4))
 (.seq (.block 5 (.seq (.region [⟨some 172, .mv (.s 170), none⟩,
  ⟨some 173, .indexSl (.s 168) (.s 170) 11, none⟩,
  ⟨some 174, .load 11 true (.s 173) 0 true, none⟩,
  ⟨some 16, .alloc [.int .i64 0, .int .i64 0, .int .i64 0, .int .i64 0, .int .i64 0, .str [], .int .i64 0, .int .i64 0, .int .i64 0, .int .i64 0, .str []], none⟩,
  ⟨some 15, .mv (.s 172), none⟩,
  ⟨none, .store 11 (.s 16) (.s 174) 16 false, none⟩] [1, 8, 10, 15, 16, 168, 169, 170])
 (.seq (.region [⟨some 175, .mv (.s 8), none⟩,
  ⟨some 176, .mv (.s 1), none⟩,
  ⟨some 177, .load 11 true (.s 16) 16 false, none⟩,
  ⟨some 178, .call (.fn 64) [(.s 175), (.s 176), (.s 177)] true, none⟩,
  ⟨some 179, .mv (.s 10), none⟩,
  ⟨some 180, .mv (.s 15), none⟩,
  ⟨some 181, .indexSl (.s 179) (.s 180) 1, none⟩,
  ⟨some 182, .load 1 false (.s 181) 0 true, none⟩,
  ⟨some 183, .bin .neq (.s 178) (.s 182), none⟩] [1, 8, 10, 168, 169, 170, 183])
 (.cond (.s 183) (.seq (.region [⟨some 6, .mv (.c (.int .i64 260)), none⟩] [6])
 .ret)
 .skip))))
 (.region [⟨some 184, .bin .add (.s 170) (.c (.int .i64 1)), none⟩,
  ⟨some 170, .mv (.s 184), none⟩] [1, 8, 10, 168, 169, 170])))))))
 (.seq (.region [⟨some 6, .mv (.c (.int .i64 0)), none⟩] [6])
 .ret)))))))))) }

/-- value.Real -/
def g35 : GFun :=
 { nparams := 1, keepHeap := false, results := [.inl 2], body :=
 (.seq (.region [⟨some 1, .box (.s 0), none⟩,
  ⟨some 2, .mv (.c (.bool false)), none⟩] [1])
 (.seq (.region [⟨some 3, .load 3 true (.s 1) 1 false, none⟩,
  ⟨some 4, .call (.fn 41) [(.s 3)] false, none⟩,
  ⟨some 5, .mv (.s 4), none⟩,
  ⟨some 6, .fieldAddr (.s 1) 0, some (5, true)⟩,
  ⟨some 7, .load 1 false (.s 6) 1 false, some (5, true)⟩,
  ⟨some 8, .bin .geq (.s 7) (.c (.int .i64 3)), some (5, true)⟩,
  ⟨some 9, .pick (.s 5) (.s 8) (.c (.bool false)), none⟩,
  ⟨some 2, .mv (.s 9), none⟩] [2])
 .ret)) }

/-- schema.limits -/
def g36 : GFun :=
 { nparams := 1, keepHeap := false, results := [.inl 2], body :=
 (.seq (.region [⟨some 1, .box (.s 0), none⟩,
  ⟨some 2, .mv (.c (.bool false)), none⟩] [1])
 (.seq (.seq (.region [⟨some 5, .fieldAddr (.s 1) 1, none⟩,
  ⟨some 6, .load 1 false (.s 5) 1 false, none⟩,
  ⟨some 7, .len (.s 6) .l false, none⟩,
  ⟨some 8, .bin .gtr (.s 7) (.c (.int .i64 8)), none⟩] [1, 8])
 (.cond (.s 8) (.seq (.region [⟨some 2, .mv (.c (.bool false)), none⟩] [2])
 .ret)
 .skip))
 (.seq (.seq (.region [⟨some 9, .fieldAddr (.s 1) 1, none⟩,
  ⟨some 10, .load 1 false (.s 9) 1 false, none⟩,
  ⟨some 11, .len (.s 10) .l false, none⟩,
  ⟨some 12, .mv (.c (.int .i64 0)), none⟩] [10, 11, 12])
 (.block 0 (.loop [10, 11, 12] (.seq (.region [⟨some 13, .bin .lss (.s 12) (.s 11), none⟩] [10, 11, 12, 13])
 (.seq (.cond (.s 13) .skip
 (.exit 0))
 (.seq (.block 1 (.seq (.region [⟨some 14, .indexSl (.s 10) (.s 12) 5, none⟩,
  ⟨some 15, .load 5 true (.s 14) 0 true, none⟩,
  ⟨some 4, .alloc [.str [], .sl 0 true .exact [], .int .i64 0, .sl 0 true .exact [], .sl 0 true .exact []], none⟩,
  ⟨none, .store 5 (.s 4) (.s 15) 4 false, none⟩] [4, 10, 11, 12])
 (.seq (.region [⟨some 16, .fieldAddr (.s 4) 1, none⟩,
  ⟨some 17, .load 1 false (.s 16) 4 false, none⟩,
  ⟨some 18, .len (.s 17) .l false, none⟩,
  ⟨some 19, .bin .gtr (.s 18) (.c (.int .i64 8)), none⟩,
  ⟨some 20, .mv (.s 19), none⟩,
  ⟨some 21, .fieldAddr (.s 4) 3, some (20, false)⟩,
  ⟨some 22, .load 1 false (.s 21) 4 false, some (20, false)⟩,
  ⟨some 23, .len (.s 22) .l false, some (20, false)⟩,
  ⟨some 24, .bin .gtr (.s 23) (.c (.int .i64 4)), some (20, false)⟩,
  ⟨some 25, .pick (.s 20) (.c (.bool true)) (.s 24), none⟩,
  ⟨some 26, .mv (.s 25), none⟩,
  ⟨some 27, .fieldAddr (.s 4) 4, some (26, false)⟩,
  ⟨some 28, .load 1 false (.s 27) 4 false, some (26, false)⟩,
  ⟨some 29, .len (.s 28) .l false, some (26, false)⟩,
  ⟨some 30, .bin .gtr (.s 29) (.c (.int .i64 4)), some (26, false)⟩,
  ⟨some 31, .pick (.s 26) (.c (.bool true)) (.s 30), none⟩] [10, 11, 12, 31])
 (.cond (.s 31) (.seq (.region [⟨some 2, .mv (.c (.bool false)), none⟩] [2])
 .ret)
 .skip))))
 (.region [⟨some 32, .bin .add (.s 12) (.c (.int .i64 1)), none⟩,
  ⟨some 12, .mv (.s 32), none⟩] [10, 11, 12])))))))
 (.seq (.region [⟨some 2, .mv (.c (.bool true)), none⟩] [2])
 .ret)))) }

/-- schema.sound -/
def g37 : GFun :=
 { nparams := 1, keepHeap := false, results := [.inl 2], body :=
 (.seq (.region [⟨some 1, .box (.s 0), none⟩,
  ⟨some 2, .mv (.c (.bool false)), none⟩] [1])
 (.seq (.seq (.region [⟨some 16, .fieldAddr (.s 1) 0, none⟩,
  ⟨some 17, .load 1 false (.s 16) 1 false, none⟩,
  ⟨some 18, .bin .lss (.s 17) (.c (.int .i64 0)), none⟩,
  ⟨some 19, .mv (.s 18), none⟩,
  ⟨some 20, .fieldAddr (.s 1) 0, some (19, false)⟩,
  ⟨some 21, .load 1 false (.s 20) 1 false, some (19, false)⟩,
  ⟨some 22, .bin .gtr (.s 21) (.c (.int .i64 1000)), some (19, false)⟩,
  ⟨some 23, .pick (.s 19) (.c (.bool true)) (.s 22), none⟩] [1, 23])
 (.cond (.s 23) (.seq (.region [⟨some 2, .mv (.c (.bool false)), none⟩] [2])
 .ret)
 .skip))
 (.seq (.region [⟨some 24, .mkMap, none⟩,
  ⟨some 3, .mv (.s 24), none⟩] [1, 3])
 (.seq (.seq (.region [⟨some 25, .fieldAddr (.s 1) 1, none⟩,
  ⟨some 26, .load 1 false (.s 25) 1 false, none⟩,
  ⟨some 27, .len (.s 26) .l false, none⟩,
  ⟨some 28, .mv (.c (.int .i64 0)), none⟩] [1, 3, 26, 27, 28])
 (.block 0 (.loop [1, 3, 26, 27, 28] (.seq (.region [⟨some 29, .bin .lss (.s 28) (.s 27), none⟩] [1, 3, 26, 27, 28, 29])
 (.seq (.cond (.s 29) .skip
 (.exit 0))
 (.seq (.block 1 (.seq (.region [⟨some 30, .indexSl (.s 26) (.s 28) 5, none⟩,
  ⟨some 31, .load 5 true (.s 30) 0 true, none⟩,
  ⟨some 5, .alloc [.str [], .sl 0 true .exact [], .int .i64 0, .sl 0 true .exact [], .sl 0 true .exact []], none⟩,
  ⟨none, .store 5 (.s 5) (.s 31) 5 false, none⟩] [1, 3, 5, 26, 27, 28])
 (.seq (.seq (.region [⟨some 32, .fieldAddr (.s 5) 0, none⟩,
  ⟨some 33, .load 1 false (.s 32) 5 false, none⟩,
  ⟨some 34, .call (.fn 65) [(.s 33)] false, none⟩,
  ⟨some 35, .un .not (.s 34), none⟩,
  ⟨some 36, .mv (.s 35), none⟩,
  ⟨some 37, .mv (.s 3), some (36, false)⟩,
  ⟨some 38, .fieldAddr (.s 5) 0, some (36, false)⟩,
  ⟨some 39, .load 1 false (.s 38) 5 false, some (36, false)⟩,
  ⟨some 40, .lookup (.s 37) (.s 39) (.bool false) false true, some (36, false)⟩,
  ⟨some 41, .pick (.s 36) (.c (.bool true)) (.s 40), none⟩,
  ⟨some 42, .mv (.s 41), none⟩,
  ⟨some 43, .fieldAddr (.s 5) 1, some (42, false)⟩,
  ⟨some 44, .load 1 false (.s 43) 5 false, some (42, false)⟩,
  ⟨some 45, .len (.s 44) .l false, some (42, false)⟩,
  ⟨some 46, .bin .eql (.s 45) (.c (.int .i64 0)), some (42, false)⟩,
  ⟨some 47, .pick (.s 42) (.c (.bool true)) (.s 46), none⟩,
  ⟨some 48, .mv (.s 47), none⟩,
  ⟨some 49, .fieldAddr (.s 5) 2, some (48, false)⟩,
  ⟨some 50, .load 1 false (.s 49) 5 false, some (48, false)⟩,
  ⟨some 51, .bin .lss (.s 50) (.c (.int .i64 1)), some (48, false)⟩,
  ⟨some 52, .pick (.s 48) (.c (.bool true)) (.s 51), none⟩,
  ⟨some 53, .mv (.s 52), none⟩,
  ⟨some 54, .fieldAddr (.s 5) 2, some (53, false)⟩,
  ⟨some 55, .load 1 false (.s 54) 5 false, some (53, false)⟩,
  ⟨some 56, .fieldAddr (.s 5) 1, some (53, false)⟩,
  ⟨some 57, .load 1 false (.s 56) 5 false, some (53, false)⟩,
  ⟨some 58, .len (.s 57) .l false, some (53, false)⟩,
  ⟨some 59, .bin .gtr (.s 55) (.s 58), some (53, false)⟩,
  ⟨some 60, .pick (.s 53) (.c (.bool true)) (.s 59), none⟩] [1, 3, 5, 26, 27, 28, 60])
 (.cond (.s 60) (.seq (.region [⟨some 2, .mv (.c (.bool false)), none⟩] [2])
 .ret)
 .skip))
 (.seq (.region [⟨some 61, .mv (.s 3), none⟩,
  ⟨some 62, .fieldAddr (.s 5) 0, none⟩,
  ⟨some 63, .load 1 false (.s 62) 5 false, none⟩,
  ⟨none, .mapUpdate (.s 61) (.s 63) (.c (.bool true)) true, none⟩] [1, 3, 5, 26, 27, 28])
 (.seq (.region [⟨some 64, .mkMap, none⟩,
  ⟨some 6, .mv (.s 64), none⟩] [1, 3, 5, 6, 26, 27, 28])
 (.seq (.region [⟨some 65, .fieldAddr (.s 5) 1, none⟩,
  ⟨some 66, .load 1 false (.s 65) 5 false, none⟩,
  ⟨some 67, .len (.s 66) .l false, none⟩,
  ⟨some 68, .mv (.c (.int .i64 0)), none⟩] [1, 3, 6, 26, 27, 28, 66, 67, 68])
 (.block 2 (.loop [1, 3, 6, 26, 27, 28, 66, 67, 68] (.seq (.region [⟨some 69, .bin .lss (.s 68) (.s 67), none⟩] [1, 3, 6, 26, 27, 28, 66, 67, 68, 69])
 (.seq (.cond (.s 69) .skip
 (.exit 2))
 (.seq (.block 3 (.seq (.region [⟨some 70, .indexSl (.s 66) (.s 68) 2, none⟩,
  ⟨some 71, .load 2 true (.s 70) 0 true, none⟩,
  ⟨some 8, .alloc [.str [], .int .i64 0], none⟩,
  ⟨none, .store 2 (.s 8) (.s 71) 8 false, none⟩] [1, 3, 6, 8, 26, 27, 28, 66, 67, 68])
 (.seq (.seq (.region [⟨some 72, .fieldAddr (.s 8) 0, none⟩,
  ⟨some 73, .load 1 false (.s 72) 8 false, none⟩,
  ⟨some 74, .call (.fn 65) [(.s 73)] false, none⟩,
  ⟨some 75, .un .not (.s 74), none⟩,
  ⟨some 76, .mv (.s 75), none⟩,
  ⟨some 77, .mv (.s 6), some (76, false)⟩,
  ⟨some 78, .fieldAddr (.s 8) 0, some (76, false)⟩,
  ⟨some 79, .load 1 false (.s 78) 8 false, some (76, false)⟩,
  ⟨some 80, .lookup (.s 77) (.s 79) (.bool false) false true, some (76, false)⟩,
  ⟨some 81, .pick (.s 76) (.c (.bool true)) (.s 80), none⟩,
  ⟨some 82, .mv (.s 81), none⟩,
  ⟨some 83, .fieldAddr (.s 8) 1, some (82, false)⟩,
  ⟨some 84, .load 1 false (.s 83) 8 false, some (82, false)⟩,
  ⟨some 85, .bin .neq (.s 84) (.c (.int .i64 3)), some (82, false)⟩,
  ⟨some 86, .mv (.s 85), some (82, false)⟩,
  ⟨some 87, .fieldAddr (.s 8) 1, some (86, true)⟩,
  ⟨some 88, .load 1 false (.s 87) 8 false, some (86, true)⟩,
  ⟨some 89, .bin .neq (.s 88) (.c (.int .i64 4)), some (86, true)⟩,
  ⟨some 90, .pick (.s 86) (.s 89) (.c (.bool false)), some (82, false)⟩,
  ⟨some 91, .mv (.s 90), some (82, false)⟩,
  ⟨some 92, .fieldAddr (.s 8) 1, some (91, true)⟩,
  ⟨some 93, .load 1 false (.s 92) 8 false, some (91, true)⟩,
  ⟨some 94, .bin .neq (.s 93) (.c (.int .i64 5)), some (91, true)⟩,
  ⟨some 95, .pick (.s 91) (.s 94) (.c (.bool false)), some (82, false)⟩,
  ⟨some 96, .pick (.s 82) (.c (.bool true)) (.s 95), none⟩] [1, 3, 6, 8, 26, 27, 28, 66, 67, 68, 96])
 (.cond (.s 96) (.seq (.region [⟨some 2, .mv (.c (.bool false)), none⟩] [2])
 .ret)
 .skip))
 (.region [⟨some 97, .mv (.s 6), none⟩,
  ⟨some 98, .fieldAddr (.s 8) 0, none⟩,
  ⟨some 99, .load 1 false (.s 98) 8 false, none⟩,
  ⟨none, .mapUpdate (.s 97) (.s 99) (.c (.bool true)) true, none⟩] [1, 3, 6, 26, 27, 28, 66, 67, 68]))))
 (.region [⟨some 100, .bin .add (.s 68) (.c (.int .i64 1)), none⟩,
  ⟨some 68, .mv (.s 100), none⟩] [1, 3, 6, 26, 27, 28, 66, 67, 68]))))))))))))
 (.region [⟨some 101, .bin .add (.s 28) (.c (.int .i64 1)), none⟩,
  ⟨some 28, .mv (.s 101), none⟩] [1, 3, 26, 27, 28])))))))
 (.seq (.seq (.region [⟨some 102, .fieldAddr (.s 1) 1, none⟩,
  ⟨some 103, .load 1 false (.s 102) 1 false, none⟩,
  ⟨some 104, .len (.s 103) .l false, none⟩,
  ⟨some 105, .mv (.c (.int .i64 0)), none⟩] [1, 103, 104, 105])
 (.block 4 (.loop [1, 103, 104, 105] (.seq (.region [⟨some 106, .bin .lss (.s 105) (.s 104), none⟩] [1, 103, 104, 105, 106])
 (.seq (.cond (.s 106) .skip
 (.exit 4))
 (.seq (.block 5 (.seq (.region [⟨some 107, .indexSl (.s 103) (.s 105) 5, none⟩,
  ⟨some 108, .load 5 true (.s 107) 0 true, none⟩,
  ⟨some 10, .alloc [.str [], .sl 0 true .exact [], .int .i64 0, .sl 0 true .exact [], .sl 0 true .exact []], none⟩,
  ⟨none, .store 5 (.s 10) (.s 108) 10 false, none⟩] [1, 10, 103, 104, 105])
 (.seq (.region [⟨some 109, .fieldAddr (.s 10) 3, none⟩,
  ⟨some 110, .load 1 false (.s 109) 10 false, none⟩,
  ⟨some 111, .len (.s 110) .l false, none⟩,
  ⟨some 112, .mv (.c (.int .i64 0)), none⟩] [1, 10, 103, 104, 105, 110, 111, 112])
 (.block 6 (.loop [1, 10, 103, 104, 105, 110, 111, 112] (.seq (.region [⟨some 113, .bin .lss (.s 112) (.s 111), none⟩] [1, 10, 103, 104, 105, 110, 111, 112, 113])
 (.seq (.cond (.s 113) .skip
 (.exit 6))
 (.seq (.block 7 (.seq (.region [⟨some 114, .indexSl (.s 110) (.s 112) 2, none⟩,
  ⟨some 115, .load 2 true (.s 114) 0 true, none⟩,
  ⟨some 12, .alloc [.sl 0 true .exact [], .int .i64 0], none⟩,
  ⟨none, .store 2 (.s 12) (.s 115) 12 false, none⟩] [1, 10, 12, 103, 104, 105, 110, 111, 112])
 (.seq (.seq (.region [⟨some 116, .fieldAddr (.s 12) 1, none⟩,
  ⟨some 117, .load 1 false (.s 116) 12 false, none⟩,
  ⟨some 118, .bin .lss (.s 117) (.c (.int .i64 0)), none⟩,
  ⟨some 119, .mv (.s 118), none⟩,
  ⟨some 120, .fieldAddr (.s 12) 1, some (119, false)⟩,
  ⟨some 121, .load 1 false (.s 120) 12 false, some (119, false)⟩,
  ⟨some 122, .fieldAddr (.s 1) 1, some (119, false)⟩,
  ⟨some 123, .load 1 false (.s 122) 1 false, some (119, false)⟩,
  ⟨some 124, .len (.s 123) .l false, some (119, false)⟩,
  ⟨some 125, .bin .geq (.s 121) (.s 124), some (119, false)⟩,
  ⟨some 126, .pick (.s 119) (.c (.bool true)) (.s 125), none⟩] [1, 10, 12, 103, 104, 105, 110, 111, 112, 126])
 (.cond (.s 126) (.seq (.region [⟨some 2, .mv (.c (.bool false)), none⟩] [2])
 .ret)
 .skip))
 (.seq (.region [⟨some 127, .fieldAddr (.s 1) 1, none⟩,
  ⟨some 128, .load 1 false (.s 127) 1 false, none⟩,
  ⟨some 129, .fieldAddr (.s 12) 1, none⟩,
  ⟨some 130, .load 1 false (.s 129) 12 false, none⟩,
  ⟨some 131, .indexSl (.s 128) (.s 130) 5, none⟩,
  ⟨some 132, .load 5 true (.s 131) 0 true, none⟩,
  ⟨some 13, .alloc [.str [], .sl 0 true .exact [], .int .i64 0, .sl 0 true .exact [], .sl 0 true .exact []], none⟩,
  ⟨none, .store 5 (.s 13) (.s 132) 13 false, none⟩] [1, 10, 12, 13, 103, 104, 105, 110, 111, 112])
 (.seq (.seq (.region [⟨some 133, .fieldAddr (.s 12) 0, none⟩,
  ⟨some 134, .load 1 false (.s 133) 12 false, none⟩,
  ⟨some 135, .len (.s 134) .l false, none⟩,
  ⟨some 136, .fieldAddr (.s 13) 2, none⟩,
  ⟨some 137, .load 1 false (.s 136) 13 false, none⟩,
  ⟨some 138, .bin .neq (.s 135) (.s 137), none⟩] [1, 10, 12, 13, 103, 104, 105, 110, 111, 112, 138])
 (.cond (.s 138) (.seq (.region [⟨some 2, .mv (.c (.bool false)), none⟩] [2])
 .ret)
 .skip))
 (.seq (.region [⟨some 139, .fieldAddr (.s 12) 0, none⟩,
  ⟨some 140, .load 1 false (.s 139) 12 false, none⟩,
  ⟨some 141, .len (.s 140) .l false, none⟩,
  ⟨some 142, .mv (.c (.int .i64 0)), none⟩] [1, 10, 13, 103, 104, 105, 110, 111, 112, 140, 141, 142])
 (.block 8 (.loop [1, 10, 13, 103, 104, 105, 110, 111, 112, 140, 141, 142] (.seq (.region [⟨some 143, .bin .lss (.s 142) (.s 141), none⟩] [1, 10, 13, 103, 104, 105, 110, 111, 112, 140, 141, 142, 143])
 (.seq (.cond (.s 143) .skip
 (.exit 8))
 (.seq (.block 9 (.seq (.region [⟨some 144, .mv (.s 142), none⟩,
  ⟨some 145, .indexSl (.s 140) (.s 142) 1, none⟩,
  ⟨some 146, .load 1 false (.s 145) 0 true, none⟩,
  ⟨some 14, .mv (.s 144), none⟩,
  ⟨some 15, .mv (.s 146), none⟩] [1, 10, 13, 14, 15, 103, 104, 105, 110, 111, 112, 140, 141, 142])
 (.seq (.region [⟨some 147, .mv (.s 15), none⟩,
  ⟨some 148, .bin .lss (.s 147) (.c (.int .i64 0)), none⟩,
  ⟨some 149, .mv (.s 148), none⟩,
  ⟨some 150, .mv (.s 15), some (149, false)⟩,
  ⟨some 151, .fieldAddr (.s 10) 1, some (149, false)⟩,
  ⟨some 152, .load 1 false (.s 151) 10 false, some (149, false)⟩,
  ⟨some 153, .len (.s 152) .l false, some (149, false)⟩,
  ⟨some 154, .bin .geq (.s 150) (.s 153), some (149, false)⟩,
  ⟨some 155, .pick (.s 149) (.c (.bool true)) (.s 154), none⟩,
  ⟨some 156, .mv (.s 155), none⟩,
  ⟨some 157, .fieldAddr (.s 10) 1, some (156, false)⟩,
  ⟨some 158, .load 1 false (.s 157) 10 false, some (156, false)⟩,
  ⟨some 159, .mv (.s 15), some (156, false)⟩,
  ⟨some 160, .indexSl (.s 158) (.s 159) 2, some (156, false)⟩,
  ⟨some 161, .fieldAddr (.s 160) 1, some (156, false)⟩,
  ⟨some 162, .load 1 false (.s 161) 0 true, some (156, false)⟩,
  ⟨some 163, .fieldAddr (.s 13) 1, some (156, false)⟩,
  ⟨some 164, .load 1 false (.s 163) 13 false, some (156, false)⟩,
  ⟨some 165, .mv (.s 14), some (156, false)⟩,
  ⟨some 166, .indexSl (.s 164) (.s 165) 2, some (156, false)⟩,
  ⟨some 167, .fieldAddr (.s 166) 1, some (156, false)⟩,
  ⟨some 168, .load 1 false (.s 167) 0 true, some (156, false)⟩,
  ⟨some 169, .bin .neq (.s 162) (.s 168), some (156, false)⟩,
  ⟨some 170, .pick (.s 156) (.c (.bool true)) (.s 169), none⟩] [1, 10, 13, 103, 104, 105, 110, 111, 112, 140, 141, 142, 170])
 (.cond (.s 170) (.seq (.region [⟨some 2, .mv (.c (.bool false)), none⟩] [2])
 .ret)
 .skip))))
 (.region [⟨some 171, .bin .add (.s 142) (.c (.int .i64 1)), none⟩,
  ⟨some 142, .mv (.s 171), none⟩] [1, 10, 13, 103, 104, 105, 110, 111, 112, 140, 141, 142]))))))))))))
 (.region [⟨some 172, .bin .add (.s 112) (.c (.int .i64 1)), none⟩,
  ⟨some 112, .mv (.s 172), none⟩] [1, 10, 103, 104, 105, 110, 111, 112])))))))))
 (.region [⟨some 173, .bin .add (.s 105) (.c (.int .i64 1)), none⟩,
  ⟨some 105, .mv (.s 173), none⟩] [1, 103, 104, 105])))))))
 (.seq (.region [⟨some 2, .mv (.c (.bool true)), none⟩] [2])
 .ret)))))) }

/-- predicate.Check -/
def g38 : GFun :=
 { nparams := 3, keepHeap := false, results := [.inl 6], body :=
 (.seq (.region [⟨some 5, .box (.s 2), none⟩,
  ⟨some 6, .mv (.c (.int .i64 0)), none⟩] [0, 1, 5])
 (.seq (.seq (.region [⟨some 12, .mv (.s 0), none⟩,
  ⟨some 13, .mv (.s 1), none⟩,
  ⟨some 14, .bsl 1 2 [.sl 0 true .exact []] [(0, (.s 12)), (1, (.s 13))] false, none⟩,
  ⟨some 15, .len (.s 14) .l false, none⟩,
  ⟨some 16, .mv (.c (.int .i64 0)), none⟩] [0, 1, 5, 14, 15, 16])
 (.block 0 (.loop [0, 1, 5, 14, 15, 16] (.seq (.region [⟨some 17, .bin .lss (.s 16) (.s 15), none⟩] [0, 1, 5, 14, 15, 16, 17])
 (.seq (.cond (.s 17) .skip
 (.exit 0))
 (.seq (.block 1 (.seq (.region [⟨some 18, .indexSl (.s 14) (.s 16) 1, none⟩,
  ⟨some 19, .load 1 false (.s 18) 0 true, none⟩,
  ⟨some 8, .mv (.s 19), none⟩] [0, 1, 5, 8, 14, 15, 16])
 (.seq (.region [⟨some 20, .mv (.s 8), none⟩,
  ⟨some 21, .len (.s 20) .l false, none⟩,
  ⟨some 22, .mv (.c (.int .i64 0)), none⟩] [0, 1, 5, 14, 15, 16, 20, 21, 22])
 (.block 2 (.loop [0, 1, 5, 14, 15, 16, 20, 21, 22] (.seq (.region [⟨some 23, .bin .lss (.s 22) (.s 21), none⟩] [0, 1, 5, 14, 15, 16, 20, 21, 22, 23])
 (.seq (.cond (.s 23) .skip
 (.exit 2))
 (.seq (.block 3 (.seq (.region [⟨some 24, .indexSl (.s 20) (.s 22) 1, none⟩,
  ⟨some 25, .load 1 false (.s 24) 0 true, none⟩,
  ⟨some 10, .mv (.s 25), none⟩] [0, 1, 5, 10, 14, 15, 16, 20, 21, 22])
 (.seq (.region [⟨some 26, .mv (.s 10), none⟩,
  ⟨some 27, .call (.fn 66) [(.s 26)] false, none⟩,
  ⟨some 28, .un .not (.s 27), none⟩] [0, 1, 5, 14, 15, 16, 20, 21, 22, 28])
 (.cond (.s 28) (.seq (.region [⟨some 6, .mv (.c (.int .i64 1)), none⟩] [6])
 .ret)
 .skip))))
 (.region [⟨some 29, .bin .add (.s 22) (.c (.int .i64 1)), none⟩,
  ⟨some 22, .mv (.s 29), none⟩] [0, 1, 5, 14, 15, 16, 20, 21, 22])))))))))
 (.region [⟨some 30, .bin .add (.s 16) (.c (.int .i64 1)), none⟩,
  ⟨some 16, .mv (.s 30), none⟩] [0, 1, 5, 14, 15, 16])))))))
 (.seq (.region [⟨some 11, .halloc [.int .i64 0], none⟩,
  ⟨none, .store 1 (.s 11) (.c (.int .i64 0)) 0 true, none⟩] [0, 1, 5, 11])
 (.seq (.seq (.region [⟨some 31, .load 13 true (.s 5) 5 false, none⟩,
  ⟨some 32, .call (.fn 67) [(.s 31), (.c (.int .i64 1)), (.s 11)] false, none⟩,
  ⟨some 33, .un .not (.s 32), none⟩] [0, 1, 5, 33])
 (.cond (.s 33) (.seq (.region [⟨some 6, .mv (.c (.int .i64 2)), none⟩] [6])
 .ret)
 .skip))
 (.seq (.seq (.region [⟨some 34, .load 13 true (.s 5) 5 false, none⟩,
  ⟨some 35, .mv (.s 0), none⟩,
  ⟨some 36, .mv (.s 1), none⟩,
  ⟨some 37, .call (.fn 68) [(.s 34), (.s 35), (.s 36)] false, none⟩,
  ⟨some 38, .un .not (.s 37), none⟩] [38])
 (.cond (.s 38) (.seq (.region [⟨some 6, .mv (.c (.int .i64 50)), none⟩] [6])
 .ret)
 .skip))
 (.seq (.region [⟨some 6, .mv (.c (.int .i64 0)), none⟩] [6])
 .ret)))))) }

/-- schema.Kinds -/
def g39 : GFun :=
 { nparams := 2, keepHeap := false, results := [.inl 4], body :=
 (.seq (.region [⟨some 2, .box (.s 0), none⟩,
  ⟨some 4, .mv (.c (.sl 0 true .exact [])), none⟩] [1, 2])
 (.seq (.seq (.region [⟨some 8, .load 2 true (.s 2) 2 false, none⟩,
  ⟨some 9, .mv (.s 1), none⟩,
  ⟨some 10, .call (.fn 40) [(.s 8), (.s 9)] false, none⟩,
  ⟨some 11, .un .not (.s 10), none⟩] [1, 2, 11])
 (.cond (.s 11) (.seq (.region [⟨some 4, .mv (.c (.sl 0 true .exact [])), none⟩] [4])
 .ret)
 .skip))
 (.seq (.region [⟨some 5, .mv (.c (.sl 0 true .exact [])), none⟩] [1, 2, 5])
 (.seq (.seq (.region [⟨some 12, .fieldAddr (.s 2) 1, none⟩,
  ⟨some 13, .load 1 false (.s 12) 2 false, none⟩,
  ⟨some 14, .mv (.s 1), none⟩,
  ⟨some 15, .indexSl (.s 13) (.s 14) 5, none⟩,
  ⟨some 16, .fieldAddr (.s 15) 1, none⟩,
  ⟨some 17, .load 1 false (.s 16) 0 true, none⟩,
  ⟨some 18, .len (.s 17) .l false, none⟩,
  ⟨some 19, .mv (.c (.int .i64 0)), none⟩] [5, 17, 18, 19])
 (.block 0 (.loop [5, 17, 18, 19] (.seq (.region [⟨some 20, .bin .lss (.s 19) (.s 18), none⟩] [5, 17, 18, 19, 20])
 (.seq (.cond (.s 20) .skip
 (.exit 0))
 (.seq (.block 1 (.seq (.region [⟨some 21, .indexSl (.s 17) (.s 19) 2, none⟩,
  ⟨some 22, .load 2 true (.s 21) 0 true, none⟩,
  ⟨some 7, .alloc [.str [], .int .i64 0], none⟩,
  ⟨none, .store 2 (.s 7) (.s 22) 7 false, none⟩] [5, 7, 17, 18, 19])
 (.region [⟨some 23, .take 5, none⟩,
  ⟨some 24, .fieldAddr (.s 7) 1, none⟩,
  ⟨some 25, .load 1 false (.s 24) 7 false, none⟩,
  ⟨some 26, .bsl 1 1 [.int .i64 0] [(0, (.s 25))] false, none⟩,
  ⟨some 27, .append (.s 23) (.s 26) 1 8 false false, none⟩,
  ⟨some 5, .take 27, none⟩] [5, 17, 18, 19])))
 (.region [⟨some 28, .bin .add (.s 19) (.c (.int .i64 1)), none⟩,
  ⟨some 19, .mv (.s 28), none⟩] [5, 17, 18, 19])))))))
 (.seq (.region [⟨some 29, .mv (.s 5), none⟩,
  ⟨some 4, .mv (.s 29), none⟩] [4])
 .ret))))) }

/-- schema.has -/
def g40 : GFun :=
 { nparams := 2, keepHeap := false, results := [.inl 4], body :=
 (.seq (.region [⟨some 2, .box (.s 0), none⟩,
  ⟨some 4, .mv (.c (.bool false)), none⟩] [1, 2])
 (.seq (.region [⟨some 5, .mv (.s 1), none⟩,
  ⟨some 6, .bin .geq (.s 5) (.c (.int .i64 0)), none⟩,
  ⟨some 7, .mv (.s 6), none⟩,
  ⟨some 8, .mv (.s 1), some (7, true)⟩,
  ⟨some 9, .fieldAddr (.s 2) 1, some (7, true)⟩,
  ⟨some 10, .load 1 false (.s 9) 2 false, some (7, true)⟩,
  ⟨some 11, .len (.s 10) .l false, some (7, true)⟩,
  ⟨some 12, .bin .lss (.s 8) (.s 11), some (7, true)⟩,
  ⟨some 13, .pick (.s 7) (.s 12) (.c (.bool false)), none⟩,
  ⟨some 4, .mv (.s 13), none⟩] [4])
 .ret)) }

/-- value.Valid -/
def g41 : GFun :=
 { nparams := 1, keepHeap := false, results := [.inl 2], body :=
 (.seq (.region [⟨some 1, .box (.s 0), none⟩,
  ⟨some 2, .mv (.c (.bool false)), none⟩] [1])
 (.seq (.seq (.region [⟨some 3, .fieldAddr (.s 1) 0, none⟩,
  ⟨some 4, .load 1 false (.s 3) 1 false, none⟩] [1, 4])
 (.block 0 (.seq (.seq (.region [⟨some 6, .bin .eql (.s 4) (.c (.int .i64 1)), none⟩,
  ⟨some 5, .mv (.s 6), none⟩] [1, 4, 5])
 (.cond (.s 5) .skip
 (.region [⟨some 7, .bin .eql (.s 4) (.c (.int .i64 2)), none⟩,
  ⟨some 5, .mv (.s 7), none⟩] [1, 4, 5])))
 (.cond (.s 5) (.seq (.region [⟨some 8, .load 3 true (.s 1) 1 false, none⟩,
  ⟨some 9, .fieldAddr (.s 1) 0, none⟩,
  ⟨some 10, .load 1 false (.s 9) 1 false, none⟩,
  ⟨some 11, .build [.int .i64 0, .int .i64 0, .str []] [(0, 1, (.s 10))], none⟩,
  ⟨some 12, .eqv false true [.i, .i, .s] (.s 8) (.s 11), none⟩,
  ⟨some 2, .mv (.s 12), none⟩] [2])
 .ret)
 (.seq (.region [⟨some 14, .bin .eql (.s 4) (.c (.int .i64 3)), none⟩,
  ⟨some 13, .mv (.s 14), none⟩] [1, 4, 13])
 (.cond (.s 13) (.seq (.region [⟨some 15, .fieldAddr (.s 1) 1, none⟩,
  ⟨some 16, .load 1 false (.s 15) 1 false, none⟩,
  ⟨some 17, .bin .eql (.s 16) (.c (.int .i64 0)), none⟩,
  ⟨some 18, .mv (.s 17), none⟩,
  ⟨some 19, .fieldAddr (.s 1) 1, some (18, false)⟩,
  ⟨some 20, .load 1 false (.s 19) 1 false, some (18, false)⟩,
  ⟨some 21, .bin .eql (.s 20) (.c (.int .i64 1)), some (18, false)⟩,
  ⟨some 22, .pick (.s 18) (.c (.bool true)) (.s 21), none⟩,
  ⟨some 23, .mv (.s 22), none⟩,
  ⟨some 24, .fieldAddr (.s 1) 2, some (23, true)⟩,
  ⟨some 25, .load 1 false (.s 24) 1 false, some (23, true)⟩,
  ⟨some 26, .bin .eql (.s 25) (.c (.str [])), some (23, true)⟩,
  ⟨some 27, .pick (.s 23) (.s 26) (.c (.bool false)), none⟩,
  ⟨some 2, .mv (.s 27), none⟩] [2])
 .ret)
 (.seq (.region [⟨some 29, .bin .eql (.s 4) (.c (.int .i64 4)), none⟩,
  ⟨some 28, .mv (.s 29), none⟩] [1, 4, 28])
 (.cond (.s 28) (.seq (.region [⟨some 30, .fieldAddr (.s 1) 2, none⟩,
  ⟨some 31, .load 1 false (.s 30) 1 false, none⟩,
  ⟨some 32, .bin .eql (.s 31) (.c (.str [])), none⟩,
  ⟨some 2, .mv (.s 32), none⟩] [2])
 .ret)
 (.seq (.region [⟨some 34, .bin .eql (.s 4) (.c (.int .i64 5)), none⟩,
  ⟨some 33, .mv (.s 34), none⟩] [1, 33])
 (.cond (.s 33) (.seq (.region [⟨some 35, .fieldAddr (.s 1) 1, none⟩,
  ⟨some 36, .load 1 false (.s 35) 1 false, none⟩,
  ⟨some 37, .bin .eql (.s 36) (.c (.int .i64 0)), none⟩,
  ⟨some 38, .mv (.s 37), none⟩,
  ⟨some 39, .fieldAddr (.s 1) 2, some (38, true)⟩,
  ⟨some 40, .load 1 false (.s 39) 1 false, some (38, true)⟩,
  ⟨some 41, .len (.s 40) .s false, some (38, true)⟩,
  ⟨some 42, .bin .leq (.s 41) (.c (.int .i64 64)), some (38, true)⟩,
  ⟨some 43, .pick (.s 38) (.s 42) (.c (.bool false)), none⟩,
  ⟨some 2, .mv (.s 43), none⟩] [2])
 .ret)
 .skip))))))))))
 (.seq (.region [⟨some 2, .mv (.c (.bool false)), none⟩] [2])
 .ret))) }

/-- column.Needed -/
def g43 : GFun :=
 { nparams := 2, keepHeap := false, results := [.inl 4, .inl 5], body :=
 (.seq (.region [⟨some 2, .box (.s 0), none⟩,
  ⟨some 3, .box (.s 1), none⟩,
  ⟨some 4, .mv (.c (.sl 0 true .exact [])), none⟩,
  ⟨some 5, .mv (.c (.int .i64 0)), none⟩] [2, 3])
 (.seq (.seq (.region [⟨some 10, .load 2 true (.s 2) 2 false, none⟩,
  ⟨some 11, .load 21 true (.s 3) 3 false, none⟩,
  ⟨some 12, .call (.fn 48) [(.s 10), (.c (.sl 0 true .exact [])), (.s 11)] false, none⟩,
  ⟨some 9, .mv (.s 12), none⟩,
  ⟨some 13, .extract (.s 9) 0, none⟩,
  ⟨some 14, .extract (.s 9) 1, none⟩,
  ⟨some 6, .mv (.s 13), none⟩,
  ⟨some 7, .mv (.s 14), none⟩] [2, 3, 7])
 (.seq (.region [⟨some 15, .mv (.s 7), none⟩,
  ⟨some 16, .bin .neq (.s 15) (.c (.int .i64 0)), none⟩] [2, 3, 7, 16])
 (.cond (.s 16) (.seq (.region [⟨some 17, .mv (.s 7), none⟩,
  ⟨some 4, .mv (.c (.sl 0 true .exact [])), none⟩,
  ⟨some 5, .mv (.s 17), none⟩] [4, 5])
 .ret)
 .skip)))
 (.seq (.region [⟨some 18, .load 2 true (.s 2) 2 false, none⟩,
  ⟨some 19, .build [.int .i64 0, .sl 0 true .exact [], .sl 0 true .exact []] [(0, 2, (.s 18))], none⟩,
  ⟨some 8, .halloc [.int .i64 0, .sl 0 true .exact [], .sl 0 true .exact []], none⟩,
  ⟨none, .store 3 (.s 8) (.s 19) 0 true, none⟩] [3, 8])
 (.seq (.region [⟨some 20, .load 21 true (.s 3) 3 false, none⟩,
  ⟨some 21, .load 21 true (.s 3) 3 false, none⟩,
  ⟨some 22, .call (.fn 70) [(.s 8), (.s 21)] false, none⟩,
  ⟨some 23, .call (.fn 69) [(.s 8), (.s 20), (.s 22)] false, none⟩] [8])
 (.seq (.region [⟨some 24, .fieldAddr (.s 8) 2, none⟩,
  ⟨some 25, .load 1 false (.s 24) 0 true, none⟩,
  ⟨some 4, .mv (.s 25), none⟩,
  ⟨some 5, .mv (.c (.int .i64 0)), none⟩] [4, 5])
 .ret))))) }

/-- query.Scans -/
def g44 : GFun :=
 { nparams := 1, keepHeap := false, results := [.inl 2], body :=
 (.seq (.region [⟨some 1, .box (.s 0), none⟩,
  ⟨some 2, .mv (.c (.sl 0 true .exact [])), none⟩] [1])
 (.seq (.region [⟨some 3, .mv (.c (.sl 0 true .exact [])), none⟩] [1, 3])
 (.seq (.seq (.region [⟨some 6, .fieldAddr (.s 1) 0, none⟩,
  ⟨some 7, .load 1 false (.s 6) 1 false, none⟩,
  ⟨some 8, .bin .eql (.s 7) (.c (.int .i64 1)), none⟩] [1, 3, 8])
 (.cond (.s 8) (.region [⟨some 9, .take 3, none⟩,
  ⟨some 10, .fieldAddr (.s 1) 1, none⟩,
  ⟨some 11, .load 1 false (.s 10) 1 false, none⟩,
  ⟨some 12, .bsl 1 1 [.int .i64 0] [(0, (.s 11))] false, none⟩,
  ⟨some 13, .append (.s 9) (.s 12) 1 8 false false, none⟩,
  ⟨some 3, .take 13, none⟩] [1, 3])
 .skip))
 (.seq (.seq (.region [⟨some 14, .fieldAddr (.s 1) 20, none⟩,
  ⟨some 15, .load 1 false (.s 14) 1 false, none⟩,
  ⟨some 16, .len (.s 15) .l false, none⟩,
  ⟨some 17, .mv (.c (.int .i64 0)), none⟩] [3, 15, 16, 17])
 (.block 0 (.loop [3, 15, 16, 17] (.seq (.region [⟨some 18, .bin .lss (.s 17) (.s 16), none⟩] [3, 15, 16, 17, 18])
 (.seq (.cond (.s 18) .skip
 (.exit 0))
 (.seq (.block 1 (.seq (.region [⟨some 19, .indexSl (.s 15) (.s 17) 21, none⟩,
  ⟨some 20, .load 21 true (.s 19) 0 true, none⟩,
  ⟨some 5, .alloc [.int .i64 0, .int .i64 0, .int .i64 0, .int .i64 0, .int .i64 0, .int .i64 0, .int .i64 0, .int .i64 0, .str [], .int .i64 0, .int .i64 0, .int .i64 0, .int .i64 0, .str [], .sl 0 true .exact [], .sl 0 true .exact [], .sl 0 true .exact [], .sl 0 true .exact [], .sl 0 true .exact [], .int .i64 0, .sl 0 true .exact []], none⟩,
  ⟨none, .store 21 (.s 5) (.s 20) 5 false, none⟩] [3, 5, 15, 16, 17])
 (.region [⟨some 21, .take 3, none⟩,
  ⟨some 22, .load 21 true (.s 5) 5 false, none⟩,
  ⟨some 23, .call (.fn 44) [(.s 22)] false, none⟩,
  ⟨some 24, .append (.s 21) (.s 23) 1 8 false false, none⟩,
  ⟨some 3, .take 24, none⟩] [3, 15, 16, 17])))
 (.region [⟨some 25, .bin .add (.s 17) (.c (.int .i64 1)), none⟩,
  ⟨some 17, .mv (.s 25), none⟩] [3, 15, 16, 17])))))))
 (.seq (.region [⟨some 26, .mv (.s 3), none⟩,
  ⟨some 2, .mv (.s 26), none⟩] [2])
 .ret))))) }

/-- column.Holds -/
def g45 : GFun :=
 { nparams := 2, keepHeap := false, results := [.inl 4], body :=
 (.seq (.region [⟨some 4, .mv (.c (.bool false)), none⟩] [0, 1])
 (.seq (.seq (.region [⟨some 7, .mv (.s 1), none⟩,
  ⟨some 8, .len (.s 7) .l false, none⟩,
  ⟨some 9, .mv (.c (.int .i64 0)), none⟩] [0, 7, 8, 9])
 (.block 0 (.loop [0, 7, 8, 9] (.seq (.region [⟨some 10, .bin .lss (.s 9) (.s 8), none⟩] [0, 7, 8, 9, 10])
 (.seq (.cond (.s 10) .skip
 (.exit 0))
 (.seq (.block 1 (.seq (.region [⟨some 11, .indexSl (.s 7) (.s 9) 1, none⟩,
  ⟨some 12, .load 1 false (.s 11) 0 true, none⟩,
  ⟨some 6, .mv (.s 12), none⟩] [0, 6, 7, 8, 9])
 (.seq (.region [⟨some 13, .mv (.s 6), none⟩,
  ⟨some 14, .bin .lss (.s 13) (.c (.int .i64 0)), none⟩,
  ⟨some 15, .mv (.s 14), none⟩,
  ⟨some 16, .mv (.s 6), some (15, false)⟩,
  ⟨some 17, .mv (.s 0), some (15, false)⟩,
  ⟨some 18, .len (.s 17) .l false, some (15, false)⟩,
  ⟨some 19, .bin .geq (.s 16) (.s 18), some (15, false)⟩,
  ⟨some 20, .pick (.s 15) (.c (.bool true)) (.s 19), none⟩,
  ⟨some 21, .mv (.s 20), none⟩,
  ⟨some 22, .mv (.s 0), some (21, false)⟩,
  ⟨some 23, .mv (.s 6), some (21, false)⟩,
  ⟨some 24, .indexSl (.s 22) (.s 23) 3, some (21, false)⟩,
  ⟨some 25, .fieldAddr (.s 24) 0, some (21, false)⟩,
  ⟨some 26, .load 1 false (.s 25) 0 true, some (21, false)⟩,
  ⟨some 27, .bin .eql (.s 26) (.c (.int .i64 1)), some (21, false)⟩,
  ⟨some 28, .pick (.s 21) (.c (.bool true)) (.s 27), none⟩] [0, 7, 8, 9, 28])
 (.cond (.s 28) (.seq (.region [⟨some 4, .mv (.c (.bool false)), none⟩] [4])
 .ret)
 .skip))))
 (.region [⟨some 29, .bin .add (.s 9) (.c (.int .i64 1)), none⟩,
  ⟨some 9, .mv (.s 29), none⟩] [0, 7, 8, 9])))))))
 (.seq (.region [⟨some 4, .mv (.c (.bool true)), none⟩] [4])
 .ret))) }

/-- column.Blank -/
def g46 : GFun :=
 { nparams := 2, keepHeap := false, results := [.inl 4], body :=
 (.seq (.region [⟨some 4, .mv (.c (.sl 0 true .exact [])), none⟩] [0, 1])
 (.seq (.region [⟨some 8, .mv (.s 0), none⟩,
  ⟨some 9, .len (.s 8) .l false, none⟩,
  ⟨some 10, .mkSlice 3 32 [.int .i64 0, .int .i64 0, .str []] (.c (.int .i64 0)) (.s 9) true, none⟩,
  ⟨some 5, .take 10, none⟩] [0, 1, 5])
 (.seq (.seq (.region [⟨some 11, .mv (.s 0), none⟩,
  ⟨some 12, .len (.s 11) .l false, none⟩,
  ⟨some 13, .mv (.c (.int .i64 0)), none⟩] [1, 5, 11, 12, 13])
 (.block 0 (.loop [1, 5, 11, 12, 13] (.seq (.region [⟨some 14, .bin .lss (.s 13) (.s 12), none⟩] [1, 5, 11, 12, 13, 14])
 (.seq (.cond (.s 14) .skip
 (.exit 0))
 (.seq (.block 1 (.seq (.region [⟨some 15, .mv (.s 13), none⟩,
  ⟨some 16, .indexSl (.s 11) (.s 13) 3, none⟩,
  ⟨some 17, .load 3 true (.s 16) 0 true, none⟩,
  ⟨some 7, .alloc [.int .i64 0, .int .i64 0, .str []], none⟩,
  ⟨some 6, .mv (.s 15), none⟩,
  ⟨none, .store 3 (.s 7) (.s 17) 7 false, none⟩] [1, 5, 6, 7, 11, 12, 13])
 (.seq (.seq (.region [⟨some 18, .mv (.s 1), none⟩,
  ⟨some 19, .mv (.s 6), none⟩,
  ⟨some 20, .call (.fn 71) [(.s 18), (.s 19)] false, none⟩,
  ⟨some 21, .un .not (.s 20), none⟩] [1, 5, 7, 11, 12, 13, 21])
 (.cond (.s 21) (.region [⟨some 22, .build [.int .i64 0, .int .i64 0, .str []] [(0, 1, (.c (.int .i64 1)))], none⟩,
  ⟨none, .store 3 (.s 7) (.s 22) 7 false, none⟩] [1, 5, 7, 11, 12, 13])
 .skip))
 (.region [⟨some 23, .take 5, none⟩,
  ⟨some 24, .load 3 true (.s 7) 7 false, none⟩,
  ⟨some 25, .bsl 3 1 [.int .i64 0, .int .i64 0, .str []] [(0, (.s 24))] false, none⟩,
  ⟨some 26, .append (.s 23) (.s 25) 3 32 false false, none⟩,
  ⟨some 5, .take 26, none⟩] [1, 5, 11, 12, 13]))))
 (.region [⟨some 27, .bin .add (.s 13) (.c (.int .i64 1)), none⟩,
  ⟨some 13, .mv (.s 27), none⟩] [1, 5, 11, 12, 13])))))))
 (.seq (.region [⟨some 28, .mv (.s 5), none⟩,
  ⟨some 4, .mv (.s 28), none⟩] [4])
 .ret)))) }

/-- value.Set -/
def g47 : GFun :=
 { nparams := 1, keepHeap := false, results := [.inl 2], body :=
 (.seq (.region [⟨some 2, .mv (.c (.sl 0 true .exact [])), none⟩] [0])
 (.seq (.region [⟨some 8, .mv (.s 0), none⟩,
  ⟨some 9, .len (.s 8) .l false, none⟩,
  ⟨some 10, .mkSlice 1 24 [.sl 0 true .exact []] (.s 9) (.s 9) false, none⟩,
  ⟨some 3, .take 10, none⟩] [0, 3])
 (.seq (.region [⟨some 11, .mv (.s 3), none⟩,
  ⟨some 12, .mv (.s 0), none⟩,
  ⟨some 13, .copy (.s 11) (.s 12) 1, none⟩] [3])
 (.seq (.region [⟨some 14, .mv (.s 3), none⟩,
  ⟨some 15, .call (.fn 72) [(.s 14), (.c (.func (.func 19) [] []))] false, none⟩] [3])
 (.seq (.region [⟨some 4, .mv (.c (.sl 0 true .exact [])), none⟩] [3, 4])
 (.seq (.seq (.region [⟨some 16, .mv (.s 3), none⟩,
  ⟨some 17, .len (.s 16) .l false, none⟩,
  ⟨some 18, .mv (.c (.int .i64 0)), none⟩] [3, 4, 16, 17, 18])
 (.block 0 (.loop [3, 4, 16, 17, 18] (.seq (.region [⟨some 19, .bin .lss (.s 18) (.s 17), none⟩] [3, 4, 16, 17, 18, 19])
 (.seq (.cond (.s 19) .skip
 (.exit 0))
 (.seq (.block 1 (.seq (.region [⟨some 20, .mv (.s 18), none⟩,
  ⟨some 21, .indexSl (.s 16) (.s 18) 1, none⟩,
  ⟨some 22, .load 1 false (.s 21) 0 true, none⟩,
  ⟨some 5, .mv (.s 20), none⟩,
  ⟨some 6, .mv (.s 22), none⟩] [3, 4, 5, 6, 16, 17, 18])
 (.seq (.seq (.region [⟨some 23, .mv (.s 5), none⟩,
  ⟨some 24, .bin .gtr (.s 23) (.c (.int .i64 0)), none⟩,
  ⟨some 25, .mv (.s 24), none⟩,
  ⟨some 26, .mv (.s 3), some (25, true)⟩,
  ⟨some 27, .mv (.s 5), some (25, true)⟩,
  ⟨some 28, .bin .sub (.s 27) (.c (.int .i64 1)), some (25, true)⟩,
  ⟨some 29, .indexSl (.s 26) (.s 28) 1, some (25, true)⟩,
  ⟨some 30, .load 1 false (.s 29) 0 true, some (25, true)⟩,
  ⟨some 31, .mv (.s 6), some (25, true)⟩,
  ⟨some 32, .call (.fn 19) [(.s 30), (.s 31)] false, some (25, true)⟩,
  ⟨some 33, .bin .eql (.s 32) (.c (.int .i64 0)), some (25, true)⟩,
  ⟨some 34, .pick (.s 25) (.s 33) (.c (.bool false)), none⟩] [3, 4, 6, 16, 17, 18, 34])
 (.cond (.s 34) (.exit 1)
 .skip))
 (.seq (.region [⟨some 35, .mv (.s 6), none⟩,
  ⟨some 36, .len (.s 35) .l false, none⟩,
  ⟨some 37, .mkSlice 3 32 [.int .i64 0, .int .i64 0, .str []] (.s 36) (.s 36) false, none⟩,
  ⟨some 7, .take 37, none⟩] [3, 4, 6, 7, 16, 17, 18])
 (.seq (.region [⟨some 38, .mv (.s 7), none⟩,
  ⟨some 39, .mv (.s 6), none⟩,
  ⟨some 40, .copy (.s 38) (.s 39) 3, none⟩] [3, 4, 7, 16, 17, 18])
 (.region [⟨some 41, .take 4, none⟩,
  ⟨some 42, .mv (.s 7), none⟩,
  ⟨some 43, .bsl 1 1 [.sl 0 true .exact []] [(0, (.s 42))] false, none⟩,
  ⟨some 44, .append (.s 41) (.s 43) 1 24 false false, none⟩,
  ⟨some 4, .take 44, none⟩] [3, 4, 16, 17, 18]))))))
 (.region [⟨some 45, .bin .add (.s 18) (.c (.int .i64 1)), none⟩,
  ⟨some 18, .mv (.s 45), none⟩] [3, 4, 16, 17, 18])))))))
 (.seq (.region [⟨some 46, .mv (.s 4), none⟩,
  ⟨some 2, .mv (.s 46), none⟩] [2])
 .ret))))))) }

/-- query.Check -/
def g48 : GFun :=
 { nparams := 3, keepHeap := false, results := [.inr (6, 1, false), .inr (7, 1, false)], body :=
 (.seq (.region [⟨some 3, .hbox (.s 0), none⟩,
  ⟨some 4, .hbox (.s 1), none⟩,
  ⟨some 5, .hbox (.s 2), none⟩,
  ⟨some 6, .halloc [.sl 0 true .exact []], none⟩,
  ⟨some 7, .halloc [.int .i64 0], none⟩] [3, 4, 5, 6, 7])
 (.seq (.seq (.region [⟨some 17, .load 2 true (.s 3) 0 true, none⟩,
  ⟨some 18, .call (.fn 16) [(.s 17)] false, none⟩,
  ⟨some 8, .mv (.s 18), none⟩] [3, 4, 5, 6, 7, 8])
 (.seq (.region [⟨some 19, .mv (.s 8), none⟩,
  ⟨some 20, .bin .neq (.s 19) (.c (.int .i64 0)), none⟩] [3, 4, 5, 6, 7, 8, 20])
 (.cond (.s 20) (.seq (.region [⟨some 21, .mv (.s 8), none⟩,
  ⟨none, .store 1 (.s 6) (.c (.sl 0 true .exact [])) 0 true, none⟩,
  ⟨none, .store 1 (.s 7) (.s 21) 0 true, none⟩] [6, 7])
 .ret)
 .skip)))
 (.seq (.seq (.region [⟨some 22, .load 1 false (.s 4) 0 true, none⟩,
  ⟨some 23, .build [.int .i64 0, .int .i64 0, .int .i64 0, .int .i64 0, .int .i64 0, .int .i64 0, .str [], .int .i64 0, .int .i64 0, .int .i64 0, .int .i64 0, .str [], .sl 0 true .exact []] [(0, 1, (.c (.int .i64 1)))], none⟩,
  ⟨some 24, .call (.fn 38) [(.c (.sl 0 true .exact [])), (.s 22), (.s 23)] false, none⟩,
  ⟨some 9, .mv (.s 24), none⟩] [3, 4, 5, 6, 7, 9])
 (.seq (.region [⟨some 25, .mv (.s 9), none⟩,
  ⟨some 26, .bin .neq (.s 25) (.c (.int .i64 0)), none⟩] [3, 4, 5, 6, 7, 9, 26])
 (.cond (.s 26) (.seq (.region [⟨some 27, .mv (.s 9), none⟩,
  ⟨none, .store 1 (.s 6) (.c (.sl 0 true .exact [])) 0 true, none⟩,
  ⟨none, .store 1 (.s 7) (.s 27) 0 true, none⟩] [6, 7])
 .ret)
 .skip)))
 (.seq (.region [⟨some 10, .halloc [.int .i64 0], none⟩,
  ⟨none, .store 1 (.s 10) (.c (.int .i64 0)) 0 true, none⟩] [3, 4, 5, 6, 7, 10])
 (.seq (.seq (.region [⟨some 28, .load 21 true (.s 5) 0 true, none⟩,
  ⟨some 29, .call (.fn 73) [(.s 28), (.c (.int .i64 1)), (.s 10)] false, none⟩,
  ⟨some 30, .un .not (.s 29), none⟩] [3, 4, 5, 6, 7, 30])
 (.cond (.s 30) (.seq (.region [⟨none, .store 1 (.s 6) (.c (.sl 0 true .exact [])) 0 true, none⟩,
  ⟨none, .store 1 (.s 7) (.c (.int .i64 2)) 0 true, none⟩] [6, 7])
 .ret)
 .skip))
 (.seq (.region [⟨some 31, .call (.fn 74) [] false, none⟩,
  ⟨some 11, .halloc [.nilfunc, .nilfunc, .nilfunc], none⟩,
  ⟨none, .store 3 (.s 11) (.s 31) 0 true, none⟩] [3, 4, 5, 6, 7, 11])
 (.seq (.region [⟨some 12, .halloc [.sl 0 true .exact []], none⟩] [3, 4, 5, 6, 7, 11, 12])
 (.seq (.seq (.region [⟨some 32, .load 21 true (.s 5) 0 true, none⟩,
  ⟨some 33, .call (.fn 75) [(.s 32)] false, none⟩] [3, 4, 6, 7, 11, 12, 33])
 (.block 0 (.rangeFunc (.s 33) [34] (.region [⟨some 13, .halloc [.int .i64 0, .int .i64 0, .int .i64 0, .int .i64 0, .int .i64 0, .int .i64 0, .int .i64 0, .int .i64 0, .str [], .int .i64 0, .int .i64 0, .int .i64 0, .int .i64 0, .str [], .sl 0 true .exact [], .sl 0 true .exact [], .sl 0 true .exact [], .sl 0 true .exact [], .sl 0 true .exact [], .int .i64 0, .sl 0 true .exact []], none⟩,
  ⟨none, .store 21 (.s 13) (.s 34) 0 true, none⟩] [3, 4, 6, 7, 11, 12, 13]) (.block 1 (.seq (.region [⟨some 35, .load 1 false (.s 12) 0 true, none⟩,
  ⟨some 36, .load 1 false (.s 12) 0 true, none⟩,
  ⟨some 37, .len (.s 36) .l false, none⟩,
  ⟨some 38, .fieldAddr (.s 13) 20, none⟩,
  ⟨some 39, .load 1 false (.s 38) 0 true, none⟩,
  ⟨some 40, .len (.s 39) .l false, none⟩,
  ⟨some 41, .bin .sub (.s 37) (.s 40), none⟩,
  ⟨some 42, .slice false (.s 35) (some (.s 41)) none none 1, none⟩,
  ⟨some 14, .mv (.s 42), none⟩] [3, 4, 6, 7, 11, 12, 13, 14])
 (.seq (.region [⟨some 43, .load 1 false (.s 12) 0 true, none⟩,
  ⟨some 44, .load 1 false (.s 12) 0 true, none⟩,
  ⟨some 45, .len (.s 44) .l false, none⟩,
  ⟨some 46, .fieldAddr (.s 13) 20, none⟩,
  ⟨some 47, .load 1 false (.s 46) 0 true, none⟩,
  ⟨some 48, .len (.s 47) .l false, none⟩,
  ⟨some 49, .bin .sub (.s 45) (.s 48), none⟩,
  ⟨some 50, .slice false (.s 43) none (some (.s 49)) none 1, none⟩,
  ⟨none, .store 1 (.s 12) (.s 50) 0 true, none⟩] [3, 4, 6, 7, 11, 12, 13, 14])
 (.seq (.seq (.region [⟨some 51, .fieldAddr (.s 13) 0, none⟩,
  ⟨some 52, .load 1 false (.s 51) 0 true, none⟩,
  ⟨some 53, .call (.fn 76) [(.s 52)] true, none⟩,
  ⟨some 54, .fieldAddr (.s 13) 20, none⟩,
  ⟨some 55, .load 1 false (.s 54) 0 true, none⟩,
  ⟨some 56, .len (.s 55) .l false, none⟩,
  ⟨some 57, .bin .neq (.s 53) (.s 56), none⟩] [3, 4, 6, 7, 11, 12, 13, 14, 57])
 (.cond (.s 57) (.seq (.region [⟨none, .store 1 (.s 6) (.c (.sl 0 true .exact [])) 0 true, none⟩,
  ⟨none, .store 1 (.s 7) (.c (.int .i64 100)) 0 true, none⟩] [])
 .ret)
 .skip))
 (.seq (.region [⟨some 59, .fieldAddr (.s 13) 20, none⟩,
  ⟨some 60, .load 1 false (.s 59) 0 true, none⟩,
  ⟨some 61, .len (.s 60) .l false, none⟩,
  ⟨some 62, .indexArr (.s 11) (.s 61) 3 1, none⟩,
  ⟨some 63, .load 1 false (.s 62) 0 true, none⟩,
  ⟨some 64, .load 2 true (.s 3) 0 true, none⟩,
  ⟨some 65, .load 1 false (.s 4) 0 true, none⟩,
  ⟨some 66, .load 21 true (.s 13) 0 true, none⟩,
  ⟨some 67, .call (.fn 77) [(.s 66)] true, none⟩,
  ⟨some 68, .mv (.s 14), none⟩,
  ⟨some 69, .build [.int .i64 0, .sl 0 true .exact [], .sl 0 true .exact [], .int .i64 0, .int .i64 0, .int .i64 0, .int .i64 0, .int .i64 0, .int .i64 0, .int .i64 0, .int .i64 0, .str [], .int .i64 0, .int .i64 0, .int .i64 0, .int .i64 0, .str [], .sl 0 true .exact [], .sl 0 true .exact [], .sl 0 true .exact [], .sl 0 true .exact [], .sl 0 true .exact [], .int .i64 0, .int .i64 0, .int .i64 0, .sl 0 true .exact []] [(0, 2, (.s 64)), (2, 1, (.s 65)), (3, 22, (.s 67)), (25, 1, (.s 68))], none⟩,
  ⟨some 70, .call (.val (.s 63)) [(.s 69)] false, none⟩,
  ⟨some 58, .mv (.s 70), none⟩,
  ⟨some 71, .extract (.s 58) 0, none⟩,
  ⟨some 72, .extract (.s 58) 1, none⟩,
  ⟨some 15, .mv (.s 71), none⟩,
  ⟨some 16, .mv (.s 72), none⟩] [6, 7, 12, 15, 16])
 (.seq (.seq (.region [⟨some 73, .mv (.s 16), none⟩,
  ⟨some 74, .bin .neq (.s 73) (.c (.int .i64 0)), none⟩] [6, 7, 12, 15, 16, 74])
 (.cond (.s 74) (.seq (.region [⟨some 75, .mv (.s 16), none⟩,
  ⟨none, .store 1 (.s 6) (.c (.sl 0 true .exact [])) 0 true, none⟩,
  ⟨none, .store 1 (.s 7) (.s 75) 0 true, none⟩] [])
 .ret)
 .skip))
 (.region [⟨some 76, .loadTake (.s 12) 0 true, none⟩,
  ⟨some 77, .mv (.s 15), none⟩,
  ⟨some 78, .bsl 1 1 [.sl 0 true .exact []] [(0, (.s 77))] false, none⟩,
  ⟨some 79, .append (.s 76) (.s 78) 1 24 true true, none⟩,
  ⟨none, .storeTake (.s 12) 79 0 true, none⟩] []))))))))))
 (.seq (.region [⟨some 80, .load 1 false (.s 12) 0 true, none⟩,
  ⟨some 81, .indexSl (.s 80) (.c (.int .i64 0)) 1, none⟩,
  ⟨some 82, .load 1 false (.s 81) 0 true, none⟩,
  ⟨none, .store 1 (.s 6) (.s 82) 0 true, none⟩,
  ⟨none, .store 1 (.s 7) (.c (.int .i64 0)) 0 true, none⟩] [6, 7])
 .ret))))))))) }

/-- evaluate.over -/
def g49 : GFun :=
 { nparams := 3, keepHeap := false, results := [.inl 6, .inl 7], body :=
 (.seq (.region [⟨some 5, .box (.s 2), none⟩,
  ⟨some 6, .mv (.c (.sl 0 true .exact [])), none⟩,
  ⟨some 7, .mv (.c (.int .i64 0)), none⟩] [0, 1, 5])
 (.seq (.region [⟨some 11, .build [.sl 0 true .exact [], .sl 0 true .exact []] [], none⟩,
  ⟨some 8, .alloc [.sl 0 true .exact [], .sl 0 true .exact []], none⟩,
  ⟨none, .store 2 (.s 8) (.s 11) 8 false, none⟩] [0, 1, 5, 8])
 (.seq (.seq (.region [⟨some 12, .fieldAddr (.s 5) 0, none⟩,
  ⟨some 13, .load 1 false (.s 12) 5 false, none⟩,
  ⟨some 14, .bin .eql (.s 13) (.c (.int .i64 1)), none⟩] [0, 1, 5, 8, 14])
 (.cond (.s 14) (.seq (.region [⟨some 15, .mv (.s 0), none⟩,
  ⟨some 16, .mv (.s 1), none⟩,
  ⟨some 17, .indexSl (.s 15) (.s 16) 1, none⟩,
  ⟨some 18, .load 1 false (.s 17) 0 true, none⟩,
  ⟨some 19, .indexArr (.s 8) (.c (.int .i64 0)) 2 1, none⟩,
  ⟨none, .store 1 (.s 19) (.s 18) 8 false, none⟩] [0, 1, 5, 8])
 (.region [⟨some 20, .mv (.s 1), none⟩,
  ⟨some 21, .bin .add (.s 20) (.c (.int .i64 1)), none⟩,
  ⟨some 1, .mv (.s 21), none⟩] [0, 1, 5, 8]))
 .skip))
 (.seq (.seq (.region [⟨some 22, .fieldAddr (.s 5) 20, none⟩,
  ⟨some 23, .load 1 false (.s 22) 5 false, none⟩,
  ⟨some 24, .len (.s 23) .l false, none⟩,
  ⟨some 25, .mv (.c (.int .i64 0)), none⟩] [0, 1, 5, 8, 23, 24, 25])
 (.block 0 (.loop [0, 1, 5, 8, 23, 24, 25] (.seq (.region [⟨some 26, .bin .lss (.s 25) (.s 24), none⟩] [0, 1, 5, 8, 23, 24, 25, 26])
 (.seq (.cond (.s 26) .skip
 (.exit 0))
 (.seq (.block 1 (.seq (.region [⟨some 27, .mv (.s 25), none⟩,
  ⟨some 28, .indexSl (.s 23) (.s 25) 21, none⟩,
  ⟨some 29, .load 21 true (.s 28) 0 true, none⟩,
  ⟨some 10, .alloc [.int .i64 0, .int .i64 0, .int .i64 0, .int .i64 0, .int .i64 0, .int .i64 0, .int .i64 0, .int .i64 0, .str [], .int .i64 0, .int .i64 0, .int .i64 0, .int .i64 0, .str [], .sl 0 true .exact [], .sl 0 true .exact [], .sl 0 true .exact [], .sl 0 true .exact [], .sl 0 true .exact [], .int .i64 0, .sl 0 true .exact []], none⟩,
  ⟨some 9, .mv (.s 27), none⟩,
  ⟨none, .store 21 (.s 10) (.s 29) 10 false, none⟩] [0, 1, 5, 8, 9, 10, 23, 24, 25])
 (.region [⟨some 31, .mv (.s 9), none⟩,
  ⟨some 32, .mv (.s 0), none⟩,
  ⟨some 33, .mv (.s 1), none⟩,
  ⟨some 34, .load 21 true (.s 10) 10 false, none⟩,
  ⟨some 35, .call (.fn 49) [(.s 32), (.s 33), (.s 34)] false, none⟩,
  ⟨some 30, .mv (.s 35), none⟩,
  ⟨some 36, .extract (.s 30) 0, none⟩,
  ⟨some 37, .extract (.s 30) 1, none⟩,
  ⟨some 38, .indexArr (.s 8) (.s 31) 2 1, none⟩,
  ⟨none, .store 1 (.s 38) (.s 36) 8 false, none⟩,
  ⟨some 1, .mv (.s 37), none⟩] [0, 1, 5, 8, 23, 24, 25])))
 (.region [⟨some 39, .bin .add (.s 25) (.c (.int .i64 1)), none⟩,
  ⟨some 25, .mv (.s 39), none⟩] [0, 1, 5, 8, 23, 24, 25])))))))
 (.seq (.region [⟨some 40, .fieldAddr (.s 5) 0, none⟩,
  ⟨some 41, .load 1 false (.s 40) 5 false, none⟩,
  ⟨some 42, .call (.fn 78) [(.s 41)] false, none⟩,
  ⟨some 43, .field (.s 42) 0 1 false, none⟩,
  ⟨some 44, .load 21 true (.s 5) 5 false, none⟩,
  ⟨some 45, .call (.fn 77) [(.s 44)] false, none⟩,
  ⟨some 46, .indexArr (.s 8) (.c (.int .i64 0)) 2 1, none⟩,
  ⟨some 47, .load 1 false (.s 46) 8 false, none⟩,
  ⟨some 48, .call (.fn 79) [(.s 47)] false, none⟩,
  ⟨some 49, .indexArr (.s 8) (.c (.int .i64 1)) 2 1, none⟩,
  ⟨some 50, .load 1 false (.s 49) 8 false, none⟩,
  ⟨some 51, .call (.fn 79) [(.s 50)] false, none⟩,
  ⟨some 52, .call (.val (.s 43)) [(.s 45), (.s 48), (.s 51)] false, none⟩,
  ⟨some 53, .mv (.s 1), none⟩,
  ⟨some 6, .mv (.s 52), none⟩,
  ⟨some 7, .mv (.s 53), none⟩] [6, 7])
 .ret))))) }

/-- (*procedure.run).cells -/
def g50 : GFun :=
 { nparams := 3, keepHeap := false, results := [.inl 6], body :=
 (.seq (.pregion false [⟨some 6, .mv (.c (.sl 0 true .exact [])), none⟩] [0, 1, 2])
 (.seq (.pregion false [⟨some 7, .mv (.c (.sl 0 true .exact [])), none⟩] [0, 1, 2, 7])
 (.seq (.seq (.pregion false [⟨some 10, .mv (.s 1), none⟩,
  ⟨some 11, .len (.s 10) .l false, none⟩,
  ⟨some 12, .mv (.c (.int .i64 0)), none⟩] [0, 2, 7, 10, 11, 12])
 (.block 0 (.loop [0, 2, 7, 10, 11, 12] (.seq (.pregion false [⟨some 13, .bin .lss (.s 12) (.s 11), none⟩] [0, 2, 7, 10, 11, 12, 13])
 (.seq (.cond (.s 13) .skip
 (.exit 0))
 (.seq (.block 1 (.seq (.pregion false [⟨some 14, .indexSl (.s 10) (.s 12) 11, none⟩,
  ⟨some 15, .load 11 true (.s 14) 0 true, none⟩,
  ⟨some 9, .alloc [.int .i64 0, .int .i64 0, .int .i64 0, .int .i64 0, .int .i64 0, .str [], .int .i64 0, .int .i64 0, .int .i64 0, .int .i64 0, .str []], none⟩,
  ⟨none, .store 11 (.s 9) (.s 15) 9 false, none⟩] [0, 2, 7, 9, 10, 11, 12])
 (.pregion false [⟨some 16, .take 7, none⟩,
  ⟨some 17, .mv (.s 0), none⟩,
  ⟨some 18, .load 11 true (.s 9) 9 false, none⟩,
  ⟨some 19, .mv (.s 2), none⟩,
  ⟨some 20, .call (.fn 80) [(.s 17), (.s 18), (.s 19)] false, none⟩,
  ⟨some 21, .bsl 3 1 [.int .i64 0, .int .i64 0, .str []] [(0, (.s 20))] false, none⟩,
  ⟨some 22, .append (.s 16) (.s 21) 3 32 false false, none⟩,
  ⟨some 7, .take 22, none⟩] [0, 2, 7, 10, 11, 12])))
 (.pregion false [⟨some 23, .bin .add (.s 12) (.c (.int .i64 1)), none⟩,
  ⟨some 12, .mv (.s 23), none⟩] [0, 2, 7, 10, 11, 12])))))))
 (.seq (.pregion false [⟨some 24, .mv (.s 7), none⟩,
  ⟨some 6, .mv (.s 24), none⟩] [6])
 .ret)))) }

/-- (*procedure.run).write -/
def g51 : GFun :=
 { nparams := 2, keepHeap := false, results := [], body :=
 (.seq (.pregion false [⟨some 3, .box (.s 1), none⟩] [0, 3])
 (.seq (.seq (.pregion false [⟨some 6, .mv (.s 0), none⟩,
  ⟨some 7, .nilCheck (.s 6), none⟩,
  ⟨some 8, .fieldAddr (.s 7) 3, none⟩,
  ⟨some 9, .fieldAddr (.s 8) 2, none⟩,
  ⟨some 10, .load 1 false (.s 9) 0 true, none⟩,
  ⟨some 11, .len (.s 10) .l false, none⟩,
  ⟨some 12, .mv (.c (.int .i64 0)), none⟩] [0, 3, 10, 11, 12])
 (.block 0 (.loop [0, 3, 10, 11, 12] (.seq (.pregion false [⟨some 13, .bin .lss (.s 12) (.s 11), none⟩] [0, 3, 10, 11, 12, 13])
 (.seq (.cond (.s 13) .skip
 (.exit 0))
 (.seq (.block 1 (.seq (.pregion false [⟨some 14, .indexSl (.s 10) (.s 12) 5, none⟩,
  ⟨some 15, .load 5 true (.s 14) 0 true, none⟩,
  ⟨some 5, .alloc [.int .i64 0, .int .i64 0, .sl 0 true .exact [], .sl 0 true .exact [], .sl 0 true .exact []], none⟩,
  ⟨none, .store 5 (.s 5) (.s 15) 5 false, none⟩] [0, 3, 5, 10, 11, 12])
 (.seq (.pregion false [⟨some 16, .fieldAddr (.s 5) 1, none⟩,
  ⟨some 17, .load 1 false (.s 16) 5 false, none⟩,
  ⟨some 18, .fieldAddr (.s 3) 1, none⟩,
  ⟨some 19, .load 1 false (.s 18) 3 false, none⟩,
  ⟨some 20, .bin .eql (.s 17) (.s 19), none⟩,
  ⟨some 21, .mv (.s 20), none⟩,
  ⟨some 22, .fieldAddr (.s 5) 2, some (21, true)⟩,
  ⟨some 23, .load 1 false (.s 22) 5 false, some (21, true)⟩,
  ⟨some 24, .fieldAddr (.s 3) 2, some (21, true)⟩,
  ⟨some 25, .load 1 false (.s 24) 3 false, some (21, true)⟩,
  ⟨some 26, .call (.fn 19) [(.s 23), (.s 25)] false, some (21, true)⟩,
  ⟨some 27, .bin .eql (.s 26) (.c (.int .i64 0)), some (21, true)⟩,
  ⟨some 28, .pick (.s 21) (.s 27) (.c (.bool false)), none⟩] [0, 3, 10, 11, 12, 28])
 (.cond (.s 28) (.pregion false [⟨some 29, .mkIface 92 (.c (.int .i64 (-3))), none⟩,
  ⟨none, .pan (.s 29), none⟩] [0, 3, 10, 11, 12])
 .skip))))
 (.pregion false [⟨some 30, .bin .add (.s 12) (.c (.int .i64 1)), none⟩,
  ⟨some 12, .mv (.s 30), none⟩] [0, 3, 10, 11, 12])))))))
 (.seq (.seq (.pregion false [⟨some 31, .mv (.s 0), none⟩,
  ⟨some 32, .nilCheck (.s 31), none⟩,
  ⟨some 33, .fieldAddr (.s 32) 3, none⟩,
  ⟨some 34, .fieldAddr (.s 33) 2, none⟩,
  ⟨some 35, .load 1 false (.s 34) 0 true, none⟩,
  ⟨some 36, .len (.s 35) .l false, none⟩,
  ⟨some 37, .bin .geq (.s 36) (.c (.int .i64 64)), none⟩] [0, 3, 37])
 (.cond (.s 37) (.pregion false [⟨some 38, .mkIface 92 (.c (.int .i64 (-4))), none⟩,
  ⟨none, .pan (.s 38), none⟩] [0, 3])
 .skip))
 (.pregion true [⟨some 39, .mv (.s 0), none⟩,
  ⟨some 40, .mv (.s 0), none⟩,
  ⟨some 41, .nilCheck (.s 40), none⟩,
  ⟨some 42, .fieldAddr (.s 41) 3, none⟩,
  ⟨some 43, .fieldAddr (.s 42) 2, none⟩,
  ⟨some 44, .loadTake (.s 43) 0 true, none⟩,
  ⟨some 45, .load 5 true (.s 3) 3 false, none⟩,
  ⟨some 46, .bsl 5 1 [.int .i64 0, .int .i64 0, .sl 0 true .exact [], .sl 0 true .exact [], .sl 0 true .exact []] [(0, (.s 45))] false, none⟩,
  ⟨some 47, .append (.s 44) (.s 46) 5 88 false false, none⟩,
  ⟨some 48, .nilCheck (.s 39), none⟩,
  ⟨some 49, .fieldAddr (.s 48) 3, none⟩,
  ⟨some 50, .fieldAddr (.s 49) 2, none⟩,
  ⟨none, .storeTake (.s 50) 47 0 true, none⟩] [])))) }

/-- slices.Clone[api.Row,api.Value] -/
def g52 : GFun :=
 { nparams := 1, keepHeap := false, results := [.inl 2], body :=
 (.seq (.region [⟨some 2, .mv (.c (.sl 0 true .exact [])), none⟩] [0])
 (.seq (.seq (.region [⟨some 3, .mv (.s 0), none⟩,
  ⟨some 4, .eqv false false [.l] (.s 3) (.c (.sl 0 true .exact [])), none⟩] [0, 4])
 (.cond (.s 4) (.seq (.region [⟨some 2, .mv (.c (.sl 0 true .exact [])), none⟩] [2])
 .ret)
 .skip))
 (.seq (.region [⟨some 5, .bsl 3 0 [.int .i64 0, .int .i64 0, .str []] [] false, none⟩,
  ⟨some 6, .mv (.s 0), none⟩,
  ⟨some 7, .append (.s 5) (.s 6) 3 32 false false, none⟩,
  ⟨some 2, .take 7, none⟩] [2])
 .ret))) }

/-- (*procedure.run).key -/
def g53 : GFun :=
 { nparams := 3, keepHeap := false, results := [.inl 6], body :=
 (.seq (.pregion false [⟨some 4, .box (.s 1), none⟩,
  ⟨some 6, .mv (.c (.sl 0 true .exact [])), none⟩] [0, 2, 4])
 (.seq (.pregion true [⟨some 10, .mv (.s 2), none⟩,
  ⟨some 11, .mv (.s 0), none⟩,
  ⟨some 12, .nilCheck (.s 11), none⟩,
  ⟨some 13, .fieldAddr (.s 12) 0, none⟩,
  ⟨some 14, .fieldAddr (.s 13) 1, none⟩,
  ⟨some 15, .load 1 false (.s 14) 0 true, none⟩,
  ⟨some 16, .fieldAddr (.s 4) 1, none⟩,
  ⟨some 17, .load 1 false (.s 16) 4 false, none⟩,
  ⟨some 18, .indexSl (.s 15) (.s 17) 5, none⟩,
  ⟨some 19, .fieldAddr (.s 18) 2, none⟩,
  ⟨some 20, .load 1 false (.s 19) 0 true, none⟩,
  ⟨some 21, .slice false (.s 10) none (some (.s 20)) none 3, none⟩,
  ⟨some 22, .call (.fn 52) [(.s 21)] false, none⟩,
  ⟨some 7, .mv (.s 22), none⟩] [7])
 (.seq (.seq (.pregion false [⟨some 23, .mv (.s 7), none⟩,
  ⟨some 24, .len (.s 23) .l false, none⟩,
  ⟨some 25, .mv (.c (.int .i64 0)), none⟩] [7, 23, 24, 25])
 (.block 0 (.loop [7, 23, 24, 25] (.seq (.pregion false [⟨some 26, .bin .lss (.s 25) (.s 24), none⟩] [7, 23, 24, 25, 26])
 (.seq (.cond (.s 26) .skip
 (.exit 0))
 (.seq (.block 1 (.seq (.pregion false [⟨some 27, .indexSl (.s 23) (.s 25) 3, none⟩,
  ⟨some 28, .load 3 true (.s 27) 0 true, none⟩,
  ⟨some 9, .alloc [.int .i64 0, .int .i64 0, .str []], none⟩,
  ⟨none, .store 3 (.s 9) (.s 28) 9 false, none⟩] [7, 9, 23, 24, 25])
 (.seq (.pregion false [⟨some 29, .load 3 true (.s 9) 9 false, none⟩,
  ⟨some 30, .call (.fn 35) [(.s 29)] false, none⟩,
  ⟨some 31, .un .not (.s 30), none⟩] [7, 23, 24, 25, 31])
 (.cond (.s 31) (.pregion false [⟨some 32, .mkIface 92 (.c (.int .i64 (-1))), none⟩,
  ⟨none, .pan (.s 32), none⟩] [7, 23, 24, 25])
 .skip))))
 (.pregion false [⟨some 33, .bin .add (.s 25) (.c (.int .i64 1)), none⟩,
  ⟨some 25, .mv (.s 33), none⟩] [7, 23, 24, 25])))))))
 (.seq (.pregion false [⟨some 34, .mv (.s 7), none⟩,
  ⟨some 6, .mv (.s 34), none⟩] [6])
 .ret)))) }

/-- slices.Clone[[]int,int] -/
def g54 : GFun :=
 { nparams := 1, keepHeap := false, results := [.inl 2], body :=
 (.seq (.region [⟨some 2, .mv (.c (.sl 0 true .exact [])), none⟩] [0])
 (.seq (.seq (.region [⟨some 3, .mv (.s 0), none⟩,
  ⟨some 4, .eqv false false [.l] (.s 3) (.c (.sl 0 true .exact [])), none⟩] [0, 4])
 (.cond (.s 4) (.seq (.region [⟨some 2, .mv (.c (.sl 0 true .exact [])), none⟩] [2])
 .ret)
 .skip))
 (.seq (.region [⟨some 5, .bsl 1 0 [.int .i64 0] [] false, none⟩,
  ⟨some 6, .mv (.s 0), none⟩,
  ⟨some 7, .append (.s 5) (.s 6) 1 8 false false, none⟩,
  ⟨some 2, .take 7, none⟩] [2])
 .ret))) }

/-- predicate.Bind -/
def g55 : GFun :=
 { nparams := 2, keepHeap := false, results := [.inr (4, 13, true)], body :=
 (.seq (.region [⟨some 2, .box (.s 0), none⟩,
  ⟨some 4, .alloc [.int .i64 0, .int .i64 0, .int .i64 0, .int .i64 0, .int .i64 0, .int .i64 0, .str [], .int .i64 0, .int .i64 0, .int .i64 0, .int .i64 0, .str [], .sl 0 true .exact []], none⟩] [1, 2, 4])
 (.seq (.region [⟨some 8, .fieldAddr (.s 2) 0, none⟩,
  ⟨some 9, .load 1 false (.s 8) 2 false, none⟩,
  ⟨some 10, .fieldAddr (.s 2) 1, none⟩,
  ⟨some 11, .load 1 false (.s 10) 2 false, none⟩,
  ⟨some 12, .fieldAddr (.s 2) 2, none⟩,
  ⟨some 13, .load 5 true (.s 12) 2 false, none⟩,
  ⟨some 14, .mv (.s 1), none⟩,
  ⟨some 15, .call (.fn 81) [(.s 13), (.s 14)] false, none⟩,
  ⟨some 16, .fieldAddr (.s 2) 7, none⟩,
  ⟨some 17, .load 5 true (.s 16) 2 false, none⟩,
  ⟨some 18, .mv (.s 1), none⟩,
  ⟨some 19, .call (.fn 81) [(.s 17), (.s 18)] false, none⟩,
  ⟨some 20, .build [.int .i64 0, .int .i64 0, .int .i64 0, .int .i64 0, .int .i64 0, .int .i64 0, .str [], .int .i64 0, .int .i64 0, .int .i64 0, .int .i64 0, .str [], .sl 0 true .exact []] [(0, 1, (.s 9)), (1, 1, (.s 11)), (2, 5, (.s 15)), (7, 5, (.s 19))], none⟩,
  ⟨some 5, .alloc [.int .i64 0, .int .i64 0, .int .i64 0, .int .i64 0, .int .i64 0, .int .i64 0, .str [], .int .i64 0, .int .i64 0, .int .i64 0, .int .i64 0, .str [], .sl 0 true .exact []], none⟩,
  ⟨none, .store 13 (.s 5) (.s 20) 5 false, none⟩] [1, 2, 4, 5])
 (.seq (.seq (.region [⟨some 21, .fieldAddr (.s 2) 12, none⟩,
  ⟨some 22, .load 1 false (.s 21) 2 false, none⟩,
  ⟨some 23, .len (.s 22) .l false, none⟩,
  ⟨some 24, .mv (.c (.int .i64 0)), none⟩] [1, 4, 5, 22, 23, 24])
 (.block 0 (.loop [1, 4, 5, 22, 23, 24] (.seq (.region [⟨some 25, .bin .lss (.s 24) (.s 23), none⟩] [1, 4, 5, 22, 23, 24, 25])
 (.seq (.cond (.s 25) .skip
 (.exit 0))
 (.seq (.block 1 (.seq (.region [⟨some 26, .indexSl (.s 22) (.s 24) 13, none⟩,
  ⟨some 27, .load 13 true (.s 26) 0 true, none⟩,
  ⟨some 7, .alloc [.int .i64 0, .int .i64 0, .int .i64 0, .int .i64 0, .int .i64 0, .int .i64 0, .str [], .int .i64 0, .int .i64 0, .int .i64 0, .int .i64 0, .str [], .sl 0 true .exact []], none⟩,
  ⟨none, .store 13 (.s 7) (.s 27) 7 false, none⟩] [1, 4, 5, 7, 22, 23, 24])
 (.region [⟨some 28, .fieldAddr (.s 5) 12, none⟩,
  ⟨some 29, .loadTake (.s 28) 5 false, none⟩,
  ⟨some 30, .load 13 true (.s 7) 7 false, none⟩,
  ⟨some 31, .mv (.s 1), none⟩,
  ⟨some 32, .call (.fn 55) [(.s 30), (.s 31)] false, none⟩,
  ⟨some 33, .bsl 13 1 [.int .i64 0, .int .i64 0, .int .i64 0, .int .i64 0, .int .i64 0, .int .i64 0, .str [], .int .i64 0, .int .i64 0, .int .i64 0, .int .i64 0, .str [], .sl 0 true .exact []] [(0, (.s 32))] false, none⟩,
  ⟨some 34, .append (.s 29) (.s 33) 13 136 false false, none⟩,
  ⟨some 35, .fieldAddr (.s 5) 12, none⟩,
  ⟨none, .storeTake (.s 35) 34 5 false, none⟩] [1, 4, 5, 22, 23, 24])))
 (.region [⟨some 36, .bin .add (.s 24) (.c (.int .i64 1)), none⟩,
  ⟨some 24, .mv (.s 36), none⟩] [1, 4, 5, 22, 23, 24])))))))
 (.seq (.region [⟨some 37, .load 13 true (.s 5) 5 false, none⟩,
  ⟨none, .store 13 (.s 4) (.s 37) 4 false, none⟩] [4])
 .ret)))) }

/-- slices.Clone[[][2]int,[2]int] -/
def g56 : GFun :=
 { nparams := 1, keepHeap := false, results := [.inl 2], body :=
 (.seq (.region [⟨some 2, .mv (.c (.sl 0 true .exact [])), none⟩] [0])
 (.seq (.seq (.region [⟨some 3, .mv (.s 0), none⟩,
  ⟨some 4, .eqv false false [.l] (.s 3) (.c (.sl 0 true .exact [])), none⟩] [0, 4])
 (.cond (.s 4) (.seq (.region [⟨some 2, .mv (.c (.sl 0 true .exact [])), none⟩] [2])
 .ret)
 .skip))
 (.seq (.region [⟨some 5, .bsl 2 0 [.int .i64 0, .int .i64 0] [] false, none⟩,
  ⟨some 6, .mv (.s 0), none⟩,
  ⟨some 7, .append (.s 5) (.s 6) 2 16 false false, none⟩,
  ⟨some 2, .take 7, none⟩] [2])
 .ret))) }

/-- slices.Clone[[]api.Sort,api.Sort] -/
def g57 : GFun :=
 { nparams := 1, keepHeap := false, results := [.inl 2], body :=
 (.seq (.region [⟨some 2, .mv (.c (.sl 0 true .exact [])), none⟩] [0])
 (.seq (.seq (.region [⟨some 3, .mv (.s 0), none⟩,
  ⟨some 4, .eqv false false [.l] (.s 3) (.c (.sl 0 true .exact [])), none⟩] [0, 4])
 (.cond (.s 4) (.seq (.region [⟨some 2, .mv (.c (.sl 0 true .exact [])), none⟩] [2])
 .ret)
 .skip))
 (.seq (.region [⟨some 5, .bsl 2 0 [.int .i64 0, .bool false] [] false, none⟩,
  ⟨some 6, .mv (.s 0), none⟩,
  ⟨some 7, .append (.s 5) (.s 6) 2 16 false false, none⟩,
  ⟨some 2, .take 7, none⟩] [2])
 .ret))) }

/-- slices.pdqsortCmpFunc[api.Write] -/
def g58 : GFun :=
 { nparams := 5, keepHeap := false, results := [], body :=
 (.seq (.region [⟨some 10, .mv (.c (.bool true)), none⟩] [0, 1, 2, 3, 4, 10])
 (.seq (.region [⟨some 11, .mv (.c (.bool true)), none⟩] [0, 1, 2, 3, 4, 10, 11])
 (.block 0 (.loop [0, 1, 2, 3, 4, 10, 11] (.block 1 (.seq (.region [⟨some 21, .mv (.s 2), none⟩,
  ⟨some 22, .mv (.s 1), none⟩,
  ⟨some 23, .bin .sub (.s 21) (.s 22), none⟩,
  ⟨some 12, .mv (.s 23), none⟩] [0, 1, 2, 3, 4, 10, 11, 12])
 (.seq (.seq (.region [⟨some 24, .mv (.s 12), none⟩,
  ⟨some 25, .bin .leq (.s 24) (.c (.int .i64 12)), none⟩] [0, 1, 2, 3, 4, 10, 11, 12, 25])
 (.cond (.s 25) (.seq (.region [⟨some 26, .mv (.s 0), none⟩,
  ⟨some 27, .mv (.s 1), none⟩,
  ⟨some 28, .mv (.s 2), none⟩,
  ⟨some 29, .mv (.s 4), none⟩,
  ⟨some 30, .call (.fn 82) [(.s 26), (.s 27), (.s 28), (.s 29)] false, none⟩] [])
 .ret)
 .skip))
 (.seq (.seq (.region [⟨some 31, .mv (.s 3), none⟩,
  ⟨some 32, .bin .eql (.s 31) (.c (.int .i64 0)), none⟩] [0, 1, 2, 3, 4, 10, 11, 12, 32])
 (.cond (.s 32) (.seq (.region [⟨some 33, .mv (.s 0), none⟩,
  ⟨some 34, .mv (.s 1), none⟩,
  ⟨some 35, .mv (.s 2), none⟩,
  ⟨some 36, .mv (.s 4), none⟩,
  ⟨some 37, .call (.fn 83) [(.s 33), (.s 34), (.s 35), (.s 36)] false, none⟩] [])
 .ret)
 .skip))
 (.seq (.seq (.region [⟨some 38, .mv (.s 10), none⟩,
  ⟨some 39, .un .not (.s 38), none⟩] [0, 1, 2, 3, 4, 10, 11, 12, 39])
 (.cond (.s 39) (.seq (.region [⟨some 40, .mv (.s 0), none⟩,
  ⟨some 41, .mv (.s 1), none⟩,
  ⟨some 42, .mv (.s 2), none⟩,
  ⟨some 43, .mv (.s 4), none⟩,
  ⟨some 44, .call (.fn 84) [(.s 40), (.s 41), (.s 42), (.s 43)] false, none⟩] [0, 1, 2, 3, 4, 10, 11, 12])
 (.region [⟨some 45, .mv (.s 3), none⟩,
  ⟨some 46, .bin .sub (.s 45) (.c (.int .i64 1)), none⟩,
  ⟨some 3, .mv (.s 46), none⟩] [0, 1, 2, 3, 4, 10, 11, 12]))
 .skip))
 (.seq (.region [⟨some 48, .mv (.s 0), none⟩,
  ⟨some 49, .mv (.s 1), none⟩,
  ⟨some 50, .mv (.s 2), none⟩,
  ⟨some 51, .mv (.s 4), none⟩,
  ⟨some 52, .call (.fn 85) [(.s 48), (.s 49), (.s 50), (.s 51)] false, none⟩,
  ⟨some 47, .mv (.s 52), none⟩,
  ⟨some 53, .extract (.s 47) 0, none⟩,
  ⟨some 54, .extract (.s 47) 1, none⟩,
  ⟨some 13, .mv (.s 53), none⟩,
  ⟨some 14, .mv (.s 54), none⟩] [0, 1, 2, 3, 4, 10, 11, 12, 13, 14])
 (.seq (.seq (.region [⟨some 55, .mv (.s 14), none⟩,
  ⟨some 56, .bin .eql (.s 55) (.c (.int .i64 2)), none⟩] [0, 1, 2, 3, 4, 10, 11, 12, 13, 14, 56])
 (.cond (.s 56) (.seq (.region [⟨some 57, .mv (.s 0), none⟩,
  ⟨some 58, .mv (.s 1), none⟩,
  ⟨some 59, .mv (.s 2), none⟩,
  ⟨some 60, .mv (.s 4), none⟩,
  ⟨some 61, .call (.fn 86) [(.s 57), (.s 58), (.s 59), (.s 60)] false, none⟩] [0, 1, 2, 3, 4, 10, 11, 12, 13])
 (.seq (.region [⟨some 62, .mv (.s 2), none⟩,
  ⟨some 63, .bin .sub (.s 62) (.c (.int .i64 1)), none⟩,
  ⟨some 64, .mv (.s 13), none⟩,
  ⟨some 65, .mv (.s 1), none⟩,
  ⟨some 66, .bin .sub (.s 64) (.s 65), none⟩,
  ⟨some 67, .bin .sub (.s 63) (.s 66), none⟩,
  ⟨some 13, .mv (.s 67), none⟩] [0, 1, 2, 3, 4, 10, 11, 12, 13])
 (.region [⟨some 14, .mv (.c (.int .i64 1)), none⟩] [0, 1, 2, 3, 4, 10, 11, 12, 13, 14])))
 .skip))
 (.seq (.seq (.region [⟨some 68, .mv (.s 10), none⟩,
  ⟨some 69, .mv (.s 68), none⟩,
  ⟨some 70, .mv (.s 11), some (69, true)⟩,
  ⟨some 71, .pick (.s 69) (.s 70) (.c (.bool false)), none⟩,
  ⟨some 72, .mv (.s 71), none⟩,
  ⟨some 73, .mv (.s 14), some (72, true)⟩,
  ⟨some 74, .bin .eql (.s 73) (.c (.int .i64 1)), some (72, true)⟩,
  ⟨some 75, .pick (.s 72) (.s 74) (.c (.bool false)), none⟩] [0, 1, 2, 3, 4, 10, 11, 12, 13, 75])
 (.cond (.s 75) (.seq (.region [⟨some 76, .mv (.s 0), none⟩,
  ⟨some 77, .mv (.s 1), none⟩,
  ⟨some 78, .mv (.s 2), none⟩,
  ⟨some 79, .mv (.s 4), none⟩,
  ⟨some 80, .call (.fn 87) [(.s 76), (.s 77), (.s 78), (.s 79)] false, none⟩] [0, 1, 2, 3, 4, 10, 11, 12, 13, 80])
 (.cond (.s 80) .ret
 .skip))
 .skip))
 (.seq (.seq (.region [⟨some 81, .mv (.s 1), none⟩,
  ⟨some 82, .bin .gtr (.s 81) (.c (.int .i64 0)), none⟩,
  ⟨some 83, .mv (.s 82), none⟩,
  ⟨some 84, .mv (.s 4), some (83, true)⟩,
  ⟨some 85, .mv (.s 0), some (83, true)⟩,
  ⟨some 86, .mv (.s 1), some (83, true)⟩,
  ⟨some 87, .bin .sub (.s 86) (.c (.int .i64 1)), some (83, true)⟩,
  ⟨some 88, .indexSl (.s 85) (.s 87) 5, some (83, true)⟩,
  ⟨some 89, .load 5 true (.s 88) 0 true, some (83, true)⟩,
  ⟨some 90, .mv (.s 0), some (83, true)⟩,
  ⟨some 91, .mv (.s 13), some (83, true)⟩,
  ⟨some 92, .indexSl (.s 90) (.s 91) 5, some (83, true)⟩,
  ⟨some 93, .load 5 true (.s 92) 0 true, some (83, true)⟩,
  ⟨some 94, .call (.val (.s 84)) [(.s 89), (.s 93)] false, some (83, true)⟩,
  ⟨some 95, .bin .lss (.s 94) (.c (.int .i64 0)), some (83, true)⟩,
  ⟨some 96, .un .not (.s 95), some (83, true)⟩,
  ⟨some 97, .pick (.s 83) (.s 96) (.c (.bool false)), none⟩] [0, 1, 2, 3, 4, 10, 11, 12, 13, 97])
 (.cond (.s 97) (.seq (.region [⟨some 98, .mv (.s 0), none⟩,
  ⟨some 99, .mv (.s 1), none⟩,
  ⟨some 100, .mv (.s 2), none⟩,
  ⟨some 101, .mv (.s 13), none⟩,
  ⟨some 102, .mv (.s 4), none⟩,
  ⟨some 103, .call (.fn 88) [(.s 98), (.s 99), (.s 100), (.s 101), (.s 102)] false, none⟩,
  ⟨some 15, .mv (.s 103), none⟩] [0, 2, 3, 4, 10, 11, 15])
 (.seq (.region [⟨some 104, .mv (.s 15), none⟩,
  ⟨some 1, .mv (.s 104), none⟩] [0, 1, 2, 3, 4, 10, 11])
 (.exit 1)))
 .skip))
 (.seq (.region [⟨some 106, .mv (.s 0), none⟩,
  ⟨some 107, .mv (.s 1), none⟩,
  ⟨some 108, .mv (.s 2), none⟩,
  ⟨some 109, .mv (.s 13), none⟩,
  ⟨some 110, .mv (.s 4), none⟩,
  ⟨some 111, .call (.fn 89) [(.s 106), (.s 107), (.s 108), (.s 109), (.s 110)] false, none⟩,
  ⟨some 105, .mv (.s 111), none⟩,
  ⟨some 112, .extract (.s 105) 0, none⟩,
  ⟨some 113, .extract (.s 105) 1, none⟩,
  ⟨some 16, .mv (.s 112), none⟩,
  ⟨some 17, .mv (.s 113), none⟩] [0, 1, 2, 3, 4, 12, 16, 17])
 (.seq (.region [⟨some 114, .mv (.s 17), none⟩,
  ⟨some 11, .mv (.s 114), none⟩] [0, 1, 2, 3, 4, 11, 12, 16])
 (.seq (.region [⟨some 115, .mv (.s 16), none⟩,
  ⟨some 116, .mv (.s 1), none⟩,
  ⟨some 117, .bin .sub (.s 115) (.s 116), none⟩,
  ⟨some 118, .mv (.s 2), none⟩,
  ⟨some 119, .mv (.s 16), none⟩,
  ⟨some 120, .bin .sub (.s 118) (.s 119), none⟩,
  ⟨some 18, .mv (.s 117), none⟩,
  ⟨some 19, .mv (.s 120), none⟩] [0, 1, 2, 3, 4, 11, 12, 16, 18, 19])
 (.seq (.region [⟨some 121, .mv (.s 12), none⟩,
  ⟨some 122, .bin .quo (.s 121) (.c (.int .i64 8)), none⟩,
  ⟨some 20, .mv (.s 122), none⟩] [0, 1, 2, 3, 4, 11, 16, 18, 19, 20])
 (.seq (.region [⟨some 123, .mv (.s 18), none⟩,
  ⟨some 124, .mv (.s 19), none⟩,
  ⟨some 125, .bin .lss (.s 123) (.s 124), none⟩] [0, 1, 2, 3, 4, 11, 16, 18, 19, 20, 125])
 (.cond (.s 125) (.seq (.region [⟨some 126, .mv (.s 18), none⟩,
  ⟨some 127, .mv (.s 20), none⟩,
  ⟨some 128, .bin .geq (.s 126) (.s 127), none⟩,
  ⟨some 10, .mv (.s 128), none⟩] [0, 1, 2, 3, 4, 10, 11, 16])
 (.seq (.region [⟨some 129, .mv (.s 0), none⟩,
  ⟨some 130, .mv (.s 1), none⟩,
  ⟨some 131, .mv (.s 16), none⟩,
  ⟨some 132, .mv (.s 3), none⟩,
  ⟨some 133, .mv (.s 4), none⟩,
  ⟨some 134, .call (.fn 58) [(.s 129), (.s 130), (.s 131), (.s 132), (.s 133)] false, none⟩] [0, 2, 3, 4, 10, 11, 16])
 (.region [⟨some 135, .mv (.s 16), none⟩,
  ⟨some 136, .bin .add (.s 135) (.c (.int .i64 1)), none⟩,
  ⟨some 1, .mv (.s 136), none⟩] [0, 1, 2, 3, 4, 10, 11])))
 (.seq (.region [⟨some 137, .mv (.s 19), none⟩,
  ⟨some 138, .mv (.s 20), none⟩,
  ⟨some 139, .bin .geq (.s 137) (.s 138), none⟩,
  ⟨some 10, .mv (.s 139), none⟩] [0, 1, 2, 3, 4, 10, 11, 16])
 (.seq (.region [⟨some 140, .mv (.s 0), none⟩,
  ⟨some 141, .mv (.s 16), none⟩,
  ⟨some 142, .bin .add (.s 141) (.c (.int .i64 1)), none⟩,
  ⟨some 143, .mv (.s 2), none⟩,
  ⟨some 144, .mv (.s 3), none⟩,
  ⟨some 145, .mv (.s 4), none⟩,
  ⟨some 146, .call (.fn 58) [(.s 140), (.s 142), (.s 143), (.s 144), (.s 145)] false, none⟩] [0, 1, 3, 4, 10, 11, 16])
 (.region [⟨some 147, .mv (.s 16), none⟩,
  ⟨some 2, .mv (.s 147), none⟩] [0, 1, 2, 3, 4, 10, 11])))))))))))))))))))))) }

/-- math/bits.Len -/
def g59 : GFun :=
 { nparams := 1, keepHeap := false, results := [.inl 2], body :=
 (.seq (.region [⟨some 2, .mv (.c (.int .i64 0)), none⟩] [0])
 (.seq (.cond (.c (.bool false)) (.seq (.region [⟨some 3, .mv (.s 0), none⟩,
  ⟨some 4, .toInt .u32 (.s 3), none⟩,
  ⟨some 5, .call (.fn 90) [(.s 4)] false, none⟩,
  ⟨some 2, .mv (.s 5), none⟩] [2])
 .ret)
 .skip)
 (.seq (.region [⟨some 6, .mv (.s 0), none⟩,
  ⟨some 7, .call (.fn 91) [(.s 6)] false, none⟩,
  ⟨some 2, .mv (.s 7), none⟩] [2])
 .ret))) }

/-- cmp.isNaN[int] -/
def g60 : GFun :=
 { nparams := 1, keepHeap := false, results := [.inl 2], body :=
 (.seq (.region [⟨some 2, .mv (.c (.bool false)), none⟩] [0])
 (.seq (.region [⟨some 3, .mv (.s 0), none⟩,
  ⟨some 4, .mv (.s 0), none⟩,
  ⟨some 5, .bin .neq (.s 3) (.s 4), none⟩,
  ⟨some 2, .mv (.s 5), none⟩] [2])
 .ret)) }

/-- schema.KeyKinds -/
def g61 : GFun :=
 { nparams := 2, keepHeap := false, results := [.inl 4], body :=
 (.seq (.region [⟨some 2, .box (.s 0), none⟩,
  ⟨some 4, .mv (.c (.sl 0 true .exact [])), none⟩] [1, 2])
 (.seq (.region [⟨some 6, .load 2 true (.s 2) 2 false, none⟩,
  ⟨some 7, .mv (.s 1), none⟩,
  ⟨some 8, .call (.fn 39) [(.s 6), (.s 7)] false, none⟩,
  ⟨some 5, .mv (.s 8), none⟩] [1, 2, 5])
 (.seq (.seq (.region [⟨some 9, .load 2 true (.s 2) 2 false, none⟩,
  ⟨some 10, .mv (.s 1), none⟩,
  ⟨some 11, .call (.fn 40) [(.s 9), (.s 10)] false, none⟩,
  ⟨some 12, .un .not (.s 11), none⟩,
  ⟨some 13, .mv (.s 12), none⟩,
  ⟨some 14, .fieldAddr (.s 2) 1, some (13, false)⟩,
  ⟨some 15, .load 1 false (.s 14) 2 false, some (13, false)⟩,
  ⟨some 16, .mv (.s 1), some (13, false)⟩,
  ⟨some 17, .indexSl (.s 15) (.s 16) 5, some (13, false)⟩,
  ⟨some 18, .fieldAddr (.s 17) 2, some (13, false)⟩,
  ⟨some 19, .load 1 false (.s 18) 0 true, some (13, false)⟩,
  ⟨some 20, .bin .lss (.s 19) (.c (.int .i64 0)), some (13, false)⟩,
  ⟨some 21, .pick (.s 13) (.c (.bool true)) (.s 20), none⟩] [1, 2, 5, 21])
 (.cond (.s 21) (.seq (.region [⟨some 4, .mv (.c (.sl 0 true .exact [])), none⟩] [4])
 .ret)
 .skip))
 (.seq (.region [⟨some 22, .mv (.s 5), none⟩,
  ⟨some 23, .mv (.s 5), none⟩,
  ⟨some 24, .len (.s 23) .l false, none⟩,
  ⟨some 25, .fieldAddr (.s 2) 1, none⟩,
  ⟨some 26, .load 1 false (.s 25) 2 false, none⟩,
  ⟨some 27, .mv (.s 1), none⟩,
  ⟨some 28, .indexSl (.s 26) (.s 27) 5, none⟩,
  ⟨some 29, .fieldAddr (.s 28) 2, none⟩,
  ⟨some 30, .load 1 false (.s 29) 0 true, none⟩,
  ⟨some 31, .minmax false [(.s 24), (.s 30)], none⟩,
  ⟨some 32, .slice false (.s 22) none (some (.s 31)) none 1, none⟩,
  ⟨some 4, .mv (.s 32), none⟩] [4])
 .ret)))) }

/-- slices.Equal[[]int,int] -/
def g62 : GFun :=
 { nparams := 2, keepHeap := false, results := [.inl 4], body :=
 (.seq (.region [⟨some 4, .mv (.c (.bool false)), none⟩] [0, 1])
 (.seq (.seq (.region [⟨some 6, .mv (.s 0), none⟩,
  ⟨some 7, .len (.s 6) .l false, none⟩,
  ⟨some 8, .mv (.s 1), none⟩,
  ⟨some 9, .len (.s 8) .l false, none⟩,
  ⟨some 10, .bin .neq (.s 7) (.s 9), none⟩] [0, 1, 10])
 (.cond (.s 10) (.seq (.region [⟨some 4, .mv (.c (.bool false)), none⟩] [4])
 .ret)
 .skip))
 (.seq (.seq (.region [⟨some 11, .mv (.s 0), none⟩,
  ⟨some 12, .len (.s 11) .l false, none⟩,
  ⟨some 13, .mv (.c (.int .i64 0)), none⟩] [0, 1, 12, 13])
 (.block 0 (.loop [0, 1, 12, 13] (.seq (.region [⟨some 14, .bin .lss (.s 13) (.s 12), none⟩] [0, 1, 12, 13, 14])
 (.seq (.cond (.s 14) .skip
 (.exit 0))
 (.seq (.block 1 (.seq (.region [⟨some 15, .mv (.s 13), none⟩,
  ⟨some 5, .mv (.s 15), none⟩] [0, 1, 5, 12, 13])
 (.seq (.region [⟨some 16, .mv (.s 0), none⟩,
  ⟨some 17, .mv (.s 5), none⟩,
  ⟨some 18, .indexSl (.s 16) (.s 17) 1, none⟩,
  ⟨some 19, .load 1 false (.s 18) 0 true, none⟩,
  ⟨some 20, .mv (.s 1), none⟩,
  ⟨some 21, .mv (.s 5), none⟩,
  ⟨some 22, .indexSl (.s 20) (.s 21) 1, none⟩,
  ⟨some 23, .load 1 false (.s 22) 0 true, none⟩,
  ⟨some 24, .bin .neq (.s 19) (.s 23), none⟩] [0, 1, 12, 13, 24])
 (.cond (.s 24) (.seq (.region [⟨some 4, .mv (.c (.bool false)), none⟩] [4])
 .ret)
 .skip))))
 (.region [⟨some 25, .bin .add (.s 13) (.c (.int .i64 1)), none⟩,
  ⟨some 13, .mv (.s 25), none⟩] [0, 1, 12, 13])))))))
 (.seq (.region [⟨some 4, .mv (.c (.bool true)), none⟩] [4])
 .ret)))) }

/-- procedure.ascendOutside -/
def g63 : GFun :=
 { nparams := 2, keepHeap := false, results := [.inl 4], body :=
 (.seq (.region [⟨some 2, .box (.s 0), none⟩,
  ⟨some 4, .mv (.c (.bool false)), none⟩] [1, 2])
 (.seq (.region [⟨some 8, .fieldAddr (.s 2) 2, none⟩,
  ⟨some 9, .load 1 false (.s 8) 2 false, none⟩,
  ⟨some 10, .bin .sub (.s 9) (.c (.int .i64 1)), none⟩,
  ⟨some 5, .mv (.s 10), none⟩] [1, 2, 5])
 (.seq (.seq (.region [⟨some 11, .mv (.s 1), none⟩,
  ⟨some 12, .len (.s 11) .l false, none⟩,
  ⟨some 13, .mv (.c (.int .i64 0)), none⟩] [2, 5, 11, 12, 13])
 (.block 0 (.loop [2, 5, 11, 12, 13] (.seq (.region [⟨some 14, .bin .lss (.s 13) (.s 12), none⟩] [2, 5, 11, 12, 13, 14])
 (.seq (.cond (.s 14) .skip
 (.exit 0))
 (.seq (.block 1 (.seq (.region [⟨some 15, .indexSl (.s 11) (.s 13) 1, none⟩,
  ⟨some 16, .load 1 false (.s 15) 0 true, none⟩,
  ⟨some 7, .mv (.s 16), none⟩] [2, 5, 7, 11, 12, 13])
 (.seq (.seq (.region [⟨some 17, .mv (.s 7), none⟩,
  ⟨some 18, .mv (.s 5), none⟩,
  ⟨some 19, .bin .leq (.s 17) (.s 18), none⟩,
  ⟨some 20, .mv (.s 19), none⟩,
  ⟨some 21, .mv (.s 7), some (20, false)⟩,
  ⟨some 22, .fieldAddr (.s 2) 1, some (20, false)⟩,
  ⟨some 23, .load 1 false (.s 22) 2 false, some (20, false)⟩,
  ⟨some 24, .len (.s 23) .l false, some (20, false)⟩,
  ⟨some 25, .bin .geq (.s 21) (.s 24), some (20, false)⟩,
  ⟨some 26, .pick (.s 20) (.c (.bool true)) (.s 25), none⟩] [2, 7, 11, 12, 13, 26])
 (.cond (.s 26) (.seq (.region [⟨some 4, .mv (.c (.bool false)), none⟩] [4])
 .ret)
 .skip))
 (.region [⟨some 27, .mv (.s 7), none⟩,
  ⟨some 5, .mv (.s 27), none⟩] [2, 5, 11, 12, 13]))))
 (.region [⟨some 28, .bin .add (.s 13) (.c (.int .i64 1)), none⟩,
  ⟨some 13, .mv (.s 28), none⟩] [2, 5, 11, 12, 13])))))))
 (.seq (.region [⟨some 4, .mv (.c (.bool true)), none⟩] [4])
 .ret)))) }

/-- procedure.termKind -/
def g64 : GFun :=
 { nparams := 3, keepHeap := false, results := [.inl 6], body :=
 (.seq (.region [⟨some 5, .box (.s 2), none⟩,
  ⟨some 6, .mv (.c (.int .i64 0)), none⟩] [0, 1, 5])
 (.seq (.region [⟨some 8, .mv (.s 0), none⟩,
  ⟨some 9, .mv (.s 1), none⟩,
  ⟨some 10, .fieldAddr (.s 5) 1, none⟩,
  ⟨some 11, .load 5 true (.s 10) 5 false, none⟩,
  ⟨some 12, .call (.fn 92) [(.s 8), (.s 9), (.s 11)] false, none⟩,
  ⟨some 7, .mv (.s 12), none⟩] [0, 1, 5, 7])
 (.seq (.seq (.region [⟨some 13, .fieldAddr (.s 5) 0, none⟩,
  ⟨some 14, .load 1 false (.s 13) 5 false, none⟩] [0, 1, 5, 7, 14])
 (.block 0 (.seq (.region [⟨some 16, .bin .eql (.s 14) (.c (.int .i64 1)), none⟩,
  ⟨some 15, .mv (.s 16), none⟩] [0, 1, 5, 7, 14, 15])
 (.cond (.s 15) (.seq (.region [⟨some 17, .fieldAddr (.s 5) 6, none⟩,
  ⟨some 18, .load 5 true (.s 17) 5 false, none⟩,
  ⟨some 19, .build [.int .i64 0, .int .i64 0, .int .i64 0, .int .i64 0, .str []] [], none⟩,
  ⟨some 20, .eqv false true [.i, .i, .i, .i, .s] (.s 18) (.s 19), none⟩] [7, 20])
 (.cond (.s 20) (.seq (.region [⟨some 21, .mv (.s 7), none⟩,
  ⟨some 6, .mv (.s 21), none⟩] [6])
 .ret)
 .skip))
 (.seq (.seq (.region [⟨some 23, .bin .eql (.s 14) (.c (.int .i64 2)), none⟩,
  ⟨some 22, .mv (.s 23), none⟩] [0, 1, 5, 7, 14, 22])
 (.cond (.s 22) .skip
 (.region [⟨some 24, .bin .eql (.s 14) (.c (.int .i64 3)), none⟩,
  ⟨some 22, .mv (.s 24), none⟩] [0, 1, 5, 7, 22])))
 (.cond (.s 22) (.seq (.region [⟨some 25, .mv (.s 7), none⟩,
  ⟨some 26, .bin .eql (.s 25) (.c (.int .i64 4)), none⟩,
  ⟨some 27, .mv (.s 26), none⟩,
  ⟨some 28, .mv (.s 0), some (27, true)⟩,
  ⟨some 29, .mv (.s 1), some (27, true)⟩,
  ⟨some 30, .fieldAddr (.s 5) 6, some (27, true)⟩,
  ⟨some 31, .load 5 true (.s 30) 5 false, some (27, true)⟩,
  ⟨some 32, .call (.fn 92) [(.s 28), (.s 29), (.s 31)] false, some (27, true)⟩,
  ⟨some 33, .bin .eql (.s 32) (.c (.int .i64 4)), some (27, true)⟩,
  ⟨some 34, .pick (.s 27) (.s 33) (.c (.bool false)), none⟩] [34])
 (.cond (.s 34) (.seq (.region [⟨some 6, .mv (.c (.int .i64 4)), none⟩] [6])
 .ret)
 .skip))
 .skip))))))
 (.seq (.region [⟨some 6, .mv (.c (.int .i64 0)), none⟩] [6])
 .ret)))) }

/-- schema.name -/
def g65 : GFun :=
 { nparams := 1, keepHeap := false, results := [.inl 2], body :=
 (.seq (.region [⟨some 2, .mv (.c (.bool false)), none⟩] [0])
 (.seq (.seq (.region [⟨some 6, .mv (.s 0), none⟩,
  ⟨some 7, .len (.s 6) .s false, none⟩,
  ⟨some 8, .bin .lss (.s 7) (.c (.int .i64 1)), none⟩,
  ⟨some 9, .mv (.s 8), none⟩,
  ⟨some 10, .mv (.s 0), some (9, false)⟩,
  ⟨some 11, .len (.s 10) .s false, some (9, false)⟩,
  ⟨some 12, .bin .gtr (.s 11) (.c (.int .i64 32)), some (9, false)⟩,
  ⟨some 13, .pick (.s 9) (.c (.bool true)) (.s 12), none⟩] [0, 13])
 (.cond (.s 13) (.seq (.region [⟨some 2, .mv (.c (.bool false)), none⟩] [2])
 .ret)
 .skip))
 (.seq (.seq (.region [⟨some 14, .mv (.s 0), none⟩,
  ⟨some 15, .range (.s 14), none⟩] [15])
 (.block 0 (.loop [15] (.seq (.region [⟨some 16, .next (.s 15), none⟩,
  ⟨some 17, .extract (.s 16) 0, none⟩] [15, 16, 17])
 (.seq (.cond (.s 17) .skip
 (.exit 0))
 (.block 1 (.seq (.region [⟨some 18, .extract (.s 16) 1, none⟩,
  ⟨some 19, .extract (.s 16) 2, none⟩,
  ⟨some 3, .mv (.s 18), none⟩,
  ⟨some 4, .mv (.s 19), none⟩] [3, 4, 15])
 (.seq (.region [⟨some 20, .mv (.s 4), none⟩,
  ⟨some 21, .bin .geq (.s 20) (.c (.int .i32 97)), none⟩,
  ⟨some 22, .mv (.s 21), none⟩,
  ⟨some 23, .mv (.s 4), some (22, true)⟩,
  ⟨some 24, .bin .leq (.s 23) (.c (.int .i32 122)), some (22, true)⟩,
  ⟨some 25, .pick (.s 22) (.s 24) (.c (.bool false)), none⟩,
  ⟨some 5, .mv (.s 25), none⟩] [3, 4, 5, 15])
 (.seq (.region [⟨some 26, .mv (.s 5), none⟩,
  ⟨some 27, .un .not (.s 26), none⟩,
  ⟨some 28, .mv (.s 27), none⟩,
  ⟨some 29, .mv (.s 3), some (28, true)⟩,
  ⟨some 30, .bin .eql (.s 29) (.c (.int .i64 0)), some (28, true)⟩,
  ⟨some 31, .mv (.s 30), some (28, true)⟩,
  ⟨some 32, .mv (.s 4), some (31, false)⟩,
  ⟨some 33, .bin .neq (.s 32) (.c (.int .i32 95)), some (31, false)⟩,
  ⟨some 34, .mv (.s 33), some (31, false)⟩,
  ⟨some 35, .mv (.s 4), some (34, true)⟩,
  ⟨some 36, .bin .lss (.s 35) (.c (.int .i32 48)), some (34, true)⟩,
  ⟨some 37, .mv (.s 36), some (34, true)⟩,
  ⟨some 38, .mv (.s 4), some (37, false)⟩,
  ⟨some 39, .bin .gtr (.s 38) (.c (.int .i32 57)), some (37, false)⟩,
  ⟨some 40, .pick (.s 37) (.c (.bool true)) (.s 39), some (34, true)⟩,
  ⟨some 41, .pick (.s 34) (.s 40) (.c (.bool false)), some (31, false)⟩,
  ⟨some 42, .pick (.s 31) (.c (.bool true)) (.s 41), some (28, true)⟩,
  ⟨some 43, .pick (.s 28) (.s 42) (.c (.bool false)), none⟩] [15, 43])
 (.cond (.s 43) (.seq (.region [⟨some 2, .mv (.c (.bool false)), none⟩] [2])
 .ret)
 .skip))))))))))
 (.seq (.region [⟨some 2, .mv (.c (.bool true)), none⟩] [2])
 .ret)))) }

/-- predicate.columnKind -/
def g66 : GFun :=
 { nparams := 1, keepHeap := false, results := [.inl 2], body :=
 (.seq (.region [⟨some 2, .mv (.c (.bool false)), none⟩] [0])
 (.seq (.region [⟨some 3, .mv (.s 0), none⟩,
  ⟨some 4, .bin .eql (.s 3) (.c (.int .i64 3)), none⟩,
  ⟨some 5, .mv (.s 4), none⟩,
  ⟨some 6, .mv (.s 0), some (5, false)⟩,
  ⟨some 7, .bin .eql (.s 6) (.c (.int .i64 4)), some (5, false)⟩,
  ⟨some 8, .pick (.s 5) (.c (.bool true)) (.s 7), none⟩,
  ⟨some 9, .mv (.s 8), none⟩,
  ⟨some 10, .mv (.s 0), some (9, false)⟩,
  ⟨some 11, .bin .eql (.s 10) (.c (.int .i64 5)), some (9, false)⟩,
  ⟨some 12, .pick (.s 9) (.c (.bool true)) (.s 11), none⟩,
  ⟨some 2, .mv (.s 12), none⟩] [2])
 .ret)) }

/-- predicate.measure -/
def g67 : GFun :=
 { nparams := 3, keepHeap := false, results := [.inl 6], body :=
 (.seq (.region [⟨some 3, .box (.s 0), none⟩,
  ⟨some 6, .mv (.c (.bool false)), none⟩] [1, 2, 3])
 (.seq (.region [⟨some 9, .mv (.s 2), none⟩,
  ⟨some 10, .nilCheck (.s 9), none⟩,
  ⟨some 11, .load 1 false (.s 10) 0 true, none⟩,
  ⟨some 12, .bin .add (.s 11) (.c (.int .i64 1)), none⟩,
  ⟨some 13, .nilCheck (.s 9), none⟩,
  ⟨none, .store 1 (.s 13) (.s 12) 0 true, none⟩] [1, 2, 3])
 (.seq (.seq (.region [⟨some 14, .mv (.s 1), none⟩,
  ⟨some 15, .bin .gtr (.s 14) (.c (.int .i64 8)), none⟩,
  ⟨some 16, .mv (.s 15), none⟩,
  ⟨some 17, .mv (.s 2), some (16, false)⟩,
  ⟨some 18, .nilCheck (.s 17), some (16, false)⟩,
  ⟨some 19, .load 1 false (.s 18) 0 true, some (16, false)⟩,
  ⟨some 20, .bin .gtr (.s 19) (.c (.int .i64 24)), some (16, false)⟩,
  ⟨some 21, .pick (.s 16) (.c (.bool true)) (.s 20), none⟩] [1, 2, 3, 21])
 (.cond (.s 21) (.seq (.region [⟨some 6, .mv (.c (.bool false)), none⟩] [6])
 .ret)
 .skip))
 (.seq (.seq (.region [⟨some 22, .fieldAddr (.s 3) 12, none⟩,
  ⟨some 23, .load 1 false (.s 22) 3 false, none⟩,
  ⟨some 24, .len (.s 23) .l false, none⟩,
  ⟨some 25, .mv (.c (.int .i64 0)), none⟩] [1, 2, 23, 24, 25])
 (.block 0 (.loop [1, 2, 23, 24, 25] (.seq (.region [⟨some 26, .bin .lss (.s 25) (.s 24), none⟩] [1, 2, 23, 24, 25, 26])
 (.seq (.cond (.s 26) .skip
 (.exit 0))
 (.seq (.block 1 (.seq (.region [⟨some 27, .indexSl (.s 23) (.s 25) 13, none⟩,
  ⟨some 28, .load 13 true (.s 27) 0 true, none⟩,
  ⟨some 8, .alloc [.int .i64 0, .int .i64 0, .int .i64 0, .int .i64 0, .int .i64 0, .int .i64 0, .str [], .int .i64 0, .int .i64 0, .int .i64 0, .int .i64 0, .str [], .sl 0 true .exact []], none⟩,
  ⟨none, .store 13 (.s 8) (.s 28) 8 false, none⟩] [1, 2, 8, 23, 24, 25])
 (.seq (.region [⟨some 29, .load 13 true (.s 8) 8 false, none⟩,
  ⟨some 30, .mv (.s 1), none⟩,
  ⟨some 31, .bin .add (.s 30) (.c (.int .i64 1)), none⟩,
  ⟨some 32, .mv (.s 2), none⟩,
  ⟨some 33, .call (.fn 67) [(.s 29), (.s 31), (.s 32)] false, none⟩,
  ⟨some 34, .un .not (.s 33), none⟩] [1, 2, 23, 24, 25, 34])
 (.cond (.s 34) (.seq (.region [⟨some 6, .mv (.c (.bool false)), none⟩] [6])
 .ret)
 .skip))))
 (.region [⟨some 35, .bin .add (.s 25) (.c (.int .i64 1)), none⟩,
  ⟨some 25, .mv (.s 35), none⟩] [1, 2, 23, 24, 25])))))))
 (.seq (.region [⟨some 6, .mv (.c (.bool true)), none⟩] [6])
 .ret))))) }

/-- predicate.node -/
def g68 : GFun :=
 { nparams := 3, keepHeap := false, results := [.inl 6], body :=
 (.seq (.region [⟨some 3, .box (.s 0), none⟩,
  ⟨some 6, .mv (.c (.bool false)), none⟩] [1, 2, 3])
 (.seq (.region [⟨some 12, .build [.int .i64 0, .int .i64 0, .int .i64 0, .int .i64 0, .str []] [], none⟩,
  ⟨some 7, .alloc [.int .i64 0, .int .i64 0, .int .i64 0, .int .i64 0, .str []], none⟩,
  ⟨none, .store 5 (.s 7) (.s 12) 7 false, none⟩] [1, 2, 3, 7])
 (.seq (.region [⟨some 13, .fieldAddr (.s 3) 1, none⟩,
  ⟨some 14, .load 1 false (.s 13) 3 false, none⟩,
  ⟨some 15, .bin .eql (.s 14) (.c (.int .i64 0)), none⟩,
  ⟨some 16, .mv (.s 15), none⟩,
  ⟨some 17, .fieldAddr (.s 3) 2, some (16, true)⟩,
  ⟨some 18, .load 5 true (.s 17) 3 false, some (16, true)⟩,
  ⟨some 19, .load 5 true (.s 7) 7 false, some (16, true)⟩,
  ⟨some 20, .eqv false true [.i, .i, .i, .i, .s] (.s 18) (.s 19), some (16, true)⟩,
  ⟨some 21, .pick (.s 16) (.s 20) (.c (.bool false)), none⟩,
  ⟨some 22, .mv (.s 21), none⟩,
  ⟨some 23, .fieldAddr (.s 3) 7, some (22, true)⟩,
  ⟨some 24, .load 5 true (.s 23) 3 false, some (22, true)⟩,
  ⟨some 25, .load 5 true (.s 7) 7 false, some (22, true)⟩,
  ⟨some 26, .eqv false true [.i, .i, .i, .i, .s] (.s 24) (.s 25), some (22, true)⟩,
  ⟨some 27, .pick (.s 22) (.s 26) (.c (.bool false)), none⟩,
  ⟨some 8, .mv (.s 27), none⟩] [1, 2, 3, 8])
 (.seq (.seq (.region [⟨some 28, .fieldAddr (.s 3) 0, none⟩,
  ⟨some 29, .load 1 false (.s 28) 3 false, none⟩] [1, 2, 3, 8, 29])
 (.block 0 (.seq (.seq (.region [⟨some 31, .bin .eql (.s 29) (.c (.int .i64 1)), none⟩,
  ⟨some 30, .mv (.s 31), none⟩] [1, 2, 3, 8, 29, 30])
 (.cond (.s 30) .skip
 (.region [⟨some 32, .bin .eql (.s 29) (.c (.int .i64 2)), none⟩,
  ⟨some 30, .mv (.s 32), none⟩] [1, 2, 3, 8, 29, 30])))
 (.cond (.s 30) (.seq (.region [⟨some 33, .mv (.s 8), none⟩,
  ⟨some 34, .un .not (.s 33), none⟩,
  ⟨some 35, .mv (.s 34), none⟩,
  ⟨some 36, .fieldAddr (.s 3) 12, some (35, false)⟩,
  ⟨some 37, .load 1 false (.s 36) 3 false, some (35, false)⟩,
  ⟨some 38, .len (.s 37) .l false, some (35, false)⟩,
  ⟨some 39, .bin .gtr (.s 38) (.c (.int .i64 0)), some (35, false)⟩,
  ⟨some 40, .pick (.s 35) (.c (.bool true)) (.s 39), none⟩] [1, 2, 3, 40])
 (.cond (.s 40) (.seq (.region [⟨some 6, .mv (.c (.bool false)), none⟩] [6])
 .ret)
 .skip))
 (.seq (.region [⟨some 42, .bin .eql (.s 29) (.c (.int .i64 3)), none⟩,
  ⟨some 41, .mv (.s 42), none⟩] [1, 2, 3, 8, 29, 41])
 (.cond (.s 41) (.seq (.region [⟨some 43, .fieldAddr (.s 3) 2, none⟩,
  ⟨some 44, .load 5 true (.s 43) 3 false, none⟩,
  ⟨some 45, .mv (.s 1), none⟩,
  ⟨some 46, .mv (.s 2), none⟩,
  ⟨some 47, .call (.fn 93) [(.s 44), (.s 45), (.s 46)] false, none⟩,
  ⟨some 9, .mv (.s 47), none⟩] [1, 2, 3, 9])
 (.seq (.region [⟨some 48, .fieldAddr (.s 3) 12, none⟩,
  ⟨some 49, .load 1 false (.s 48) 3 false, none⟩,
  ⟨some 50, .len (.s 49) .l false, none⟩,
  ⟨some 51, .bin .gtr (.s 50) (.c (.int .i64 0)), none⟩,
  ⟨some 52, .mv (.s 51), none⟩,
  ⟨some 53, .fieldAddr (.s 3) 1, some (52, false)⟩,
  ⟨some 54, .load 1 false (.s 53) 3 false, some (52, false)⟩,
  ⟨some 55, .bin .lss (.s 54) (.c (.int .i64 1)), some (52, false)⟩,
  ⟨some 56, .pick (.s 52) (.c (.bool true)) (.s 55), none⟩,
  ⟨some 57, .mv (.s 56), none⟩,
  ⟨some 58, .fieldAddr (.s 3) 1, some (57, false)⟩,
  ⟨some 59, .load 1 false (.s 58) 3 false, some (57, false)⟩,
  ⟨some 60, .bin .gtr (.s 59) (.c (.int .i64 6)), some (57, false)⟩,
  ⟨some 61, .pick (.s 57) (.c (.bool true)) (.s 60), none⟩,
  ⟨some 62, .mv (.s 61), none⟩,
  ⟨some 63, .mv (.s 9), some (62, false)⟩,
  ⟨some 64, .bin .eql (.s 63) (.c (.int .i64 0)), some (62, false)⟩,
  ⟨some 65, .pick (.s 62) (.c (.bool true)) (.s 64), none⟩,
  ⟨some 66, .mv (.s 65), none⟩,
  ⟨some 67, .mv (.s 9), some (66, false)⟩,
  ⟨some 68, .fieldAddr (.s 3) 7, some (66, false)⟩,
  ⟨some 69, .load 5 true (.s 68) 3 false, some (66, false)⟩,
  ⟨some 70, .mv (.s 1), some (66, false)⟩,
  ⟨some 71, .mv (.s 2), some (66, false)⟩,
  ⟨some 72, .call (.fn 93) [(.s 69), (.s 70), (.s 71)] false, some (66, false)⟩,
  ⟨some 73, .bin .neq (.s 67) (.s 72), some (66, false)⟩,
  ⟨some 74, .pick (.s 66) (.c (.bool true)) (.s 73), none⟩] [1, 2, 3, 74])
 (.cond (.s 74) (.seq (.region [⟨some 6, .mv (.c (.bool false)), none⟩] [6])
 .ret)
 .skip)))
 (.seq (.seq (.region [⟨some 76, .bin .eql (.s 29) (.c (.int .i64 4)), none⟩,
  ⟨some 75, .mv (.s 76), none⟩] [1, 2, 3, 8, 29, 75])
 (.cond (.s 75) .skip
 (.region [⟨some 77, .bin .eql (.s 29) (.c (.int .i64 5)), none⟩,
  ⟨some 75, .mv (.s 77), none⟩] [1, 2, 3, 8, 29, 75])))
 (.cond (.s 75) (.seq (.region [⟨some 78, .mv (.s 8), none⟩,
  ⟨some 79, .un .not (.s 78), none⟩] [1, 2, 3, 79])
 (.cond (.s 79) (.seq (.region [⟨some 6, .mv (.c (.bool false)), none⟩] [6])
 .ret)
 .skip))
 (.seq (.region [⟨some 81, .bin .eql (.s 29) (.c (.int .i64 6)), none⟩,
  ⟨some 80, .mv (.s 81), none⟩] [1, 2, 3, 8, 80])
 (.cond (.s 80) (.seq (.region [⟨some 82, .mv (.s 8), none⟩,
  ⟨some 83, .un .not (.s 82), none⟩,
  ⟨some 84, .mv (.s 83), none⟩,
  ⟨some 85, .fieldAddr (.s 3) 12, some (84, false)⟩,
  ⟨some 86, .load 1 false (.s 85) 3 false, some (84, false)⟩,
  ⟨some 87, .len (.s 86) .l false, some (84, false)⟩,
  ⟨some 88, .bin .neq (.s 87) (.c (.int .i64 1)), some (84, false)⟩,
  ⟨some 89, .pick (.s 84) (.c (.bool true)) (.s 88), none⟩] [1, 2, 3, 89])
 (.cond (.s 89) (.seq (.region [⟨some 6, .mv (.c (.bool false)), none⟩] [6])
 .ret)
 .skip))
 (.seq (.region [⟨some 6, .mv (.c (.bool false)), none⟩] [6])
 .ret)))))))))))
 (.seq (.seq (.region [⟨some 90, .fieldAddr (.s 3) 12, none⟩,
  ⟨some 91, .load 1 false (.s 90) 3 false, none⟩,
  ⟨some 92, .len (.s 91) .l false, none⟩,
  ⟨some 93, .mv (.c (.int .i64 0)), none⟩] [1, 2, 91, 92, 93])
 (.block 1 (.loop [1, 2, 91, 92, 93] (.seq (.region [⟨some 94, .bin .lss (.s 93) (.s 92), none⟩] [1, 2, 91, 92, 93, 94])
 (.seq (.cond (.s 94) .skip
 (.exit 1))
 (.seq (.block 2 (.seq (.region [⟨some 95, .indexSl (.s 91) (.s 93) 13, none⟩,
  ⟨some 96, .load 13 true (.s 95) 0 true, none⟩,
  ⟨some 11, .alloc [.int .i64 0, .int .i64 0, .int .i64 0, .int .i64 0, .int .i64 0, .int .i64 0, .str [], .int .i64 0, .int .i64 0, .int .i64 0, .int .i64 0, .str [], .sl 0 true .exact []], none⟩,
  ⟨none, .store 13 (.s 11) (.s 96) 11 false, none⟩] [1, 2, 11, 91, 92, 93])
 (.seq (.region [⟨some 97, .load 13 true (.s 11) 11 false, none⟩,
  ⟨some 98, .mv (.s 1), none⟩,
  ⟨some 99, .mv (.s 2), none⟩,
  ⟨some 100, .call (.fn 68) [(.s 97), (.s 98), (.s 99)] false, none⟩,
  ⟨some 101, .un .not (.s 100), none⟩] [1, 2, 91, 92, 93, 101])
 (.cond (.s 101) (.seq (.region [⟨some 6, .mv (.c (.bool false)), none⟩] [6])
 .ret)
 .skip))))
 (.region [⟨some 102, .bin .add (.s 93) (.c (.int .i64 1)), none⟩,
  ⟨some 93, .mv (.s 102), none⟩] [1, 2, 91, 92, 93])))))))
 (.seq (.region [⟨some 6, .mv (.c (.bool true)), none⟩] [6])
 .ret)))))) }

/-- (*column.walker).visit -/
def g69 : GFun :=
 { nparams := 3, keepHeap := true, results := [], body :=
 (.seq (.pregion false [⟨some 4, .box (.s 1), none⟩] [0, 2, 4])
 (.seq (.pregion false [⟨some 23, .mv (.s 0), none⟩,
  ⟨some 24, .mkFunc (.func 69) [(.s 23)] [], none⟩,
  ⟨some 6, .mv (.s 24), none⟩] [0, 2, 4, 6])
 (.seq (.pregion false [⟨some 25, .mkMap, none⟩,
  ⟨some 26, .mkMap, none⟩,
  ⟨some 7, .mv (.s 25), none⟩,
  ⟨some 8, .mv (.s 26), none⟩] [0, 2, 4, 6, 7, 8])
 (.seq (.seq (.pregion false [⟨some 27, .mv (.s 2), none⟩,
  ⟨some 28, .mrange (.s 27), none⟩] [0, 2, 4, 6, 7, 8, 28])
 (.block 0 (.loop [0, 2, 4, 6, 7, 8, 28] (.seq (.pregion false [⟨some 29, .mnext (.s 28), none⟩,
  ⟨some 30, .extract (.s 29) 0, none⟩] [0, 2, 4, 6, 7, 8, 28, 30])
 (.seq (.cond (.s 30) .skip
 (.exit 0))
 (.block 1 (.seq (.pregion false [⟨some 31, .mentry (.s 28), none⟩,
  ⟨some 32, .extract (.s 31) 0, none⟩,
  ⟨some 9, .mv (.s 32), none⟩] [0, 2, 4, 6, 7, 8, 9, 28])
 (.pregion false [⟨some 33, .mv (.s 7), none⟩,
  ⟨some 34, .mv (.s 9), none⟩,
  ⟨none, .mapUpdate (.s 33) (.s 34) (.c (.bool true)) false, none⟩] [0, 2, 4, 6, 7, 8, 28]))))))))
 (.seq (.seq (.pregion false [⟨some 35, .fieldAddr (.s 4) 0, none⟩,
  ⟨some 36, .load 1 false (.s 35) 4 false, none⟩] [0, 2, 4, 6, 7, 8, 36])
 (.block 2 (.seq (.pregion false [⟨some 45, .bin .eql (.s 36) (.c (.int .i64 1)), none⟩,
  ⟨some 44, .mv (.s 45), none⟩] [0, 2, 4, 6, 7, 8, 36, 44])
 (.cond (.s 44) (.seq (.seq (.pregion false [⟨some 10, .mv (.c (.int .i64 0)), none⟩] [0, 4, 7, 10])
 (.block 3 (.loop [0, 4, 7, 10] (.seq (.seq (.pregion true [⟨some 46, .mv (.s 10), none⟩,
  ⟨some 47, .mv (.s 0), none⟩,
  ⟨some 48, .nilCheck (.s 47), none⟩,
  ⟨some 49, .fieldAddr (.s 48) 0, none⟩,
  ⟨some 50, .fieldAddr (.s 49) 1, none⟩,
  ⟨some 51, .load 1 false (.s 50) 0 true, none⟩,
  ⟨some 52, .fieldAddr (.s 4) 1, none⟩,
  ⟨some 53, .load 1 false (.s 52) 4 false, none⟩,
  ⟨some 54, .indexSl (.s 51) (.s 53) 5, none⟩,
  ⟨some 55, .fieldAddr (.s 54) 2, none⟩,
  ⟨some 56, .load 1 false (.s 55) 0 true, none⟩,
  ⟨some 57, .bin .lss (.s 46) (.s 56), none⟩] [0, 4, 7, 10, 57])
 (.cond (.s 57) .skip
 (.exit 3)))
 (.seq (.block 4 (.pregion false [⟨some 60, .mv (.s 7), none⟩,
  ⟨some 61, .mv (.s 10), none⟩,
  ⟨none, .mapUpdate (.s 60) (.s 61) (.c (.bool true)) false, none⟩] [0, 4, 7, 10]))
 (.pregion false [⟨some 58, .mv (.s 10), none⟩,
  ⟨some 59, .bin .add (.s 58) (.c (.int .i64 1)), none⟩,
  ⟨some 10, .mv (.s 59), none⟩] [0, 4, 7, 10]))))))
 (.seq (.pregion false [⟨some 62, .bsl 1 0 [.int .i64 0] [] true, none⟩,
  ⟨some 11, .mv (.s 62), none⟩] [0, 7, 11])
 (.seq (.seq (.pregion false [⟨some 63, .mv (.s 7), none⟩,
  ⟨some 64, .mrange (.s 63), none⟩] [0, 11, 64])
 (.block 5 (.loop [0, 11, 64] (.seq (.pregion false [⟨some 65, .mnext (.s 64), none⟩,
  ⟨some 66, .extract (.s 65) 0, none⟩] [0, 11, 64, 66])
 (.seq (.cond (.s 66) .skip
 (.exit 5))
 (.block 6 (.seq (.pregion false [⟨some 67, .mentry (.s 64), none⟩,
  ⟨some 68, .extract (.s 67) 0, none⟩,
  ⟨some 12, .mv (.s 68), none⟩] [0, 11, 12, 64])
 (.pregion false [⟨some 69, .take 11, none⟩,
  ⟨some 70, .mv (.s 12), none⟩,
  ⟨some 71, .bsl 1 1 [.int .i64 0] [(0, (.s 70))] false, none⟩,
  ⟨some 72, .append (.s 69) (.s 71) 1 8 true true, none⟩,
  ⟨some 11, .take 72, none⟩] [0, 11, 64]))))))))
 (.seq (.pregion false [⟨some 73, .mv (.s 11), none⟩,
  ⟨some 74, .call (.fn 94) [(.s 73)] false, none⟩] [0, 11])
 (.seq (.pregion false [⟨some 75, .mv (.s 0), none⟩,
  ⟨some 76, .mv (.s 0), none⟩,
  ⟨some 77, .nilCheck (.s 76), none⟩,
  ⟨some 78, .fieldAddr (.s 77) 2, none⟩,
  ⟨some 79, .loadTake (.s 78) 0 true, none⟩,
  ⟨some 80, .mv (.s 11), none⟩,
  ⟨some 81, .bsl 1 1 [.sl 0 true .exact []] [(0, (.s 80))] false, none⟩,
  ⟨some 82, .append (.s 79) (.s 81) 1 24 false false, none⟩,
  ⟨some 83, .nilCheck (.s 75), none⟩,
  ⟨some 84, .fieldAddr (.s 83) 2, none⟩,
  ⟨none, .storeTake (.s 84) 82 0 true, none⟩] [])
 .ret)))))
 (.seq (.pregion false [⟨some 86, .bin .eql (.s 36) (.c (.int .i64 2)), none⟩,
  ⟨some 85, .mv (.s 86), none⟩] [0, 2, 4, 6, 7, 8, 36, 85])
 (.cond (.s 85) (.seq (.pregion false [⟨some 87, .fieldAddr (.s 4) 2, none⟩,
  ⟨some 88, .load 13 true (.s 87) 4 false, none⟩,
  ⟨some 89, .call (.fn 95) [(.s 88)] false, none⟩,
  ⟨some 90, .len (.s 89) .l false, none⟩,
  ⟨some 91, .mv (.c (.int .i64 0)), none⟩] [4, 6, 7, 8, 89, 90, 91])
 (.block 7 (.loop [4, 6, 7, 8, 89, 90, 91] (.seq (.pregion false [⟨some 92, .bin .lss (.s 91) (.s 90), none⟩] [4, 6, 7, 8, 89, 90, 91, 92])
 (.seq (.cond (.s 92) .skip
 (.exit 7))
 (.seq (.block 8 (.seq (.pregion false [⟨some 93, .indexSl (.s 89) (.s 91) 1, none⟩,
  ⟨some 94, .load 1 false (.s 93) 0 true, none⟩,
  ⟨some 14, .mv (.s 94), none⟩] [4, 6, 7, 8, 14, 89, 90, 91])
 (.pregion false [⟨some 95, .mv (.s 7), none⟩,
  ⟨some 96, .mv (.s 14), none⟩,
  ⟨none, .mapUpdate (.s 95) (.s 96) (.c (.bool true)) false, none⟩] [4, 6, 7, 8, 89, 90, 91])))
 (.pregion false [⟨some 97, .bin .add (.s 91) (.c (.int .i64 1)), none⟩,
  ⟨some 91, .mv (.s 97), none⟩] [4, 6, 7, 8, 89, 90, 91])))))))
 (.seq (.pregion false [⟨some 99, .bin .eql (.s 36) (.c (.int .i64 3)), none⟩,
  ⟨some 98, .mv (.s 99), none⟩] [0, 2, 4, 6, 7, 8, 36, 98])
 (.cond (.s 98) (.seq (.pregion false [⟨some 100, .mkMap, none⟩,
  ⟨some 7, .mv (.s 100), none⟩] [2, 4, 6, 7, 8])
 (.seq (.pregion false [⟨some 101, .fieldAddr (.s 4) 15, none⟩,
  ⟨some 102, .load 1 false (.s 101) 4 false, none⟩,
  ⟨some 103, .len (.s 102) .l false, none⟩,
  ⟨some 104, .mv (.c (.int .i64 0)), none⟩] [2, 4, 6, 7, 8, 102, 103, 104])
 (.block 9 (.loop [2, 4, 6, 7, 8, 102, 103, 104] (.seq (.pregion false [⟨some 105, .bin .lss (.s 104) (.s 103), none⟩] [2, 4, 6, 7, 8, 102, 103, 104, 105])
 (.seq (.cond (.s 105) .skip
 (.exit 9))
 (.seq (.block 10 (.seq (.pregion false [⟨some 106, .mv (.s 104), none⟩,
  ⟨some 107, .indexSl (.s 102) (.s 104) 1, none⟩,
  ⟨some 108, .load 1 false (.s 107) 0 true, none⟩,
  ⟨some 15, .mv (.s 106), none⟩,
  ⟨some 16, .mv (.s 108), none⟩] [2, 4, 6, 7, 8, 15, 16, 102, 103, 104])
 (.seq (.pregion false [⟨some 109, .mv (.s 2), none⟩,
  ⟨some 110, .mv (.s 15), none⟩,
  ⟨some 111, .lookup (.s 109) (.s 110) (.bool false) false false, none⟩] [2, 4, 6, 7, 8, 16, 102, 103, 104, 111])
 (.cond (.s 111) (.pregion false [⟨some 112, .mv (.s 7), none⟩,
  ⟨some 113, .mv (.s 16), none⟩,
  ⟨none, .mapUpdate (.s 112) (.s 113) (.c (.bool true)) false, none⟩] [2, 4, 6, 7, 8, 102, 103, 104])
 .skip))))
 (.pregion false [⟨some 114, .bin .add (.s 104) (.c (.int .i64 1)), none⟩,
  ⟨some 104, .mv (.s 114), none⟩] [2, 4, 6, 7, 8, 102, 103, 104]))))))))
 (.seq (.pregion false [⟨some 116, .bin .eql (.s 36) (.c (.int .i64 4)), none⟩,
  ⟨some 115, .mv (.s 116), none⟩] [0, 2, 4, 6, 7, 8, 36, 115])
 (.cond (.s 115) (.seq (.pregion false [⟨some 117, .mv (.s 0), none⟩,
  ⟨some 118, .fieldAddr (.s 4) 20, none⟩,
  ⟨some 119, .load 1 false (.s 118) 4 false, none⟩,
  ⟨some 120, .indexSl (.s 119) (.c (.int .i64 0)) 21, none⟩,
  ⟨some 121, .load 21 true (.s 120) 0 true, none⟩,
  ⟨some 122, .call (.fn 96) [(.s 117), (.s 121)] false, none⟩,
  ⟨some 17, .mv (.s 122), none⟩] [2, 4, 6, 8, 17])
 (.seq (.pregion false [⟨some 123, .mkMap, none⟩,
  ⟨some 7, .mv (.s 123), none⟩] [2, 4, 6, 7, 8, 17])
 (.seq (.seq (.pregion false [⟨some 124, .mv (.s 2), none⟩,
  ⟨some 125, .mrange (.s 124), none⟩] [4, 6, 7, 8, 17, 125])
 (.block 11 (.loop [4, 6, 7, 8, 17, 125] (.seq (.pregion false [⟨some 126, .mnext (.s 125), none⟩,
  ⟨some 127, .extract (.s 126) 0, none⟩] [4, 6, 7, 8, 17, 125, 127])
 (.seq (.cond (.s 127) .skip
 (.exit 11))
 (.block 12 (.seq (.pregion false [⟨some 128, .mentry (.s 125), none⟩,
  ⟨some 129, .extract (.s 128) 0, none⟩,
  ⟨some 18, .mv (.s 129), none⟩] [4, 6, 7, 8, 17, 18, 125])
 (.seq (.pregion false [⟨some 130, .mv (.s 18), none⟩,
  ⟨some 131, .mv (.s 17), none⟩,
  ⟨some 132, .bin .lss (.s 130) (.s 131), none⟩] [4, 6, 7, 8, 17, 18, 125, 132])
 (.cond (.s 132) (.pregion false [⟨some 133, .mv (.s 7), none⟩,
  ⟨some 134, .mv (.s 18), none⟩,
  ⟨none, .mapUpdate (.s 133) (.s 134) (.c (.bool true)) false, none⟩] [4, 6, 7, 8, 17, 125])
 (.pregion false [⟨some 135, .mv (.s 8), none⟩,
  ⟨some 136, .mv (.s 18), none⟩,
  ⟨some 137, .mv (.s 17), none⟩,
  ⟨some 138, .bin .sub (.s 136) (.s 137), none⟩,
  ⟨none, .mapUpdate (.s 135) (.s 138) (.c (.bool true)) false, none⟩] [4, 6, 7, 8, 17, 125]))))))))))
 (.seq (.pregion false [⟨some 139, .fieldAddr (.s 4) 16, none⟩,
  ⟨some 140, .load 1 false (.s 139) 4 false, none⟩,
  ⟨some 141, .len (.s 140) .l false, none⟩,
  ⟨some 142, .mv (.c (.int .i64 0)), none⟩] [4, 6, 7, 8, 140, 141, 142])
 (.block 13 (.loop [4, 6, 7, 8, 140, 141, 142] (.seq (.pregion false [⟨some 143, .bin .lss (.s 142) (.s 141), none⟩] [4, 6, 7, 8, 140, 141, 142, 143])
 (.seq (.cond (.s 143) .skip
 (.exit 13))
 (.seq (.block 14 (.seq (.pregion false [⟨some 144, .indexSl (.s 140) (.s 142) 2, none⟩,
  ⟨some 145, .load 2 true (.s 144) 0 true, none⟩,
  ⟨some 20, .alloc [.int .i64 0, .int .i64 0], none⟩,
  ⟨none, .store 2 (.s 20) (.s 145) 20 false, none⟩] [4, 6, 7, 8, 20, 140, 141, 142])
 (.pregion true [⟨some 146, .mv (.s 7), none⟩,
  ⟨some 147, .indexArr (.s 20) (.c (.int .i64 0)) 2 1, none⟩,
  ⟨some 148, .load 1 false (.s 147) 20 false, none⟩,
  ⟨some 149, .mv (.s 8), none⟩,
  ⟨some 150, .indexArr (.s 20) (.c (.int .i64 1)) 2 1, none⟩,
  ⟨some 151, .load 1 false (.s 150) 20 false, none⟩,
  ⟨none, .mapUpdate (.s 146) (.s 148) (.c (.bool true)) false, none⟩,
  ⟨none, .mapUpdate (.s 149) (.s 151) (.c (.bool true)) false, none⟩] [4, 6, 7, 8, 140, 141, 142])))
 (.pregion false [⟨some 152, .bin .add (.s 142) (.c (.int .i64 1)), none⟩,
  ⟨some 142, .mv (.s 152), none⟩] [4, 6, 7, 8, 140, 141, 142]))))))))))
 (.seq (.pregion false [⟨some 154, .bin .eql (.s 36) (.c (.int .i64 5)), none⟩,
  ⟨some 153, .mv (.s 154), none⟩] [0, 4, 6, 7, 8, 36, 153])
 (.cond (.s 153) (.seq (.pregion false [⟨some 155, .fieldAddr (.s 4) 16, none⟩,
  ⟨some 156, .load 1 false (.s 155) 4 false, none⟩,
  ⟨some 157, .len (.s 156) .l false, none⟩,
  ⟨some 158, .mv (.c (.int .i64 0)), none⟩] [4, 6, 7, 8, 156, 157, 158])
 (.block 15 (.loop [4, 6, 7, 8, 156, 157, 158] (.seq (.pregion false [⟨some 159, .bin .lss (.s 158) (.s 157), none⟩] [4, 6, 7, 8, 156, 157, 158, 159])
 (.seq (.cond (.s 159) .skip
 (.exit 15))
 (.seq (.block 16 (.seq (.pregion false [⟨some 160, .indexSl (.s 156) (.s 158) 2, none⟩,
  ⟨some 161, .load 2 true (.s 160) 0 true, none⟩,
  ⟨some 22, .alloc [.int .i64 0, .int .i64 0], none⟩,
  ⟨none, .store 2 (.s 22) (.s 161) 22 false, none⟩] [4, 6, 7, 8, 22, 156, 157, 158])
 (.pregion true [⟨some 162, .mv (.s 7), none⟩,
  ⟨some 163, .indexArr (.s 22) (.c (.int .i64 0)) 2 1, none⟩,
  ⟨some 164, .load 1 false (.s 163) 22 false, none⟩,
  ⟨some 165, .mv (.s 8), none⟩,
  ⟨some 166, .indexArr (.s 22) (.c (.int .i64 1)) 2 1, none⟩,
  ⟨some 167, .load 1 false (.s 166) 22 false, none⟩,
  ⟨none, .mapUpdate (.s 162) (.s 164) (.c (.bool true)) false, none⟩,
  ⟨none, .mapUpdate (.s 165) (.s 167) (.c (.bool true)) false, none⟩] [4, 6, 7, 8, 156, 157, 158])))
 (.pregion false [⟨some 168, .bin .add (.s 158) (.c (.int .i64 1)), none⟩,
  ⟨some 158, .mv (.s 168), none⟩] [4, 6, 7, 8, 156, 157, 158])))))))
 (.seq (.pregion false [⟨some 170, .bin .eql (.s 36) (.c (.int .i64 6)), none⟩,
  ⟨some 169, .mv (.s 170), none⟩] [0, 4, 6, 7, 169])
 (.cond (.s 169) (.pregion false [⟨some 171, .mv (.s 7), none⟩,
  ⟨some 8, .mv (.s 171), none⟩] [4, 6, 7, 8])
 (.seq (.pregion false [⟨some 37, .mv (.s 0), none⟩,
  ⟨some 38, .fieldAddr (.s 4) 20, none⟩,
  ⟨some 39, .load 1 false (.s 38) 4 false, none⟩,
  ⟨some 40, .indexSl (.s 39) (.c (.int .i64 0)) 21, none⟩,
  ⟨some 41, .load 21 true (.s 40) 0 true, none⟩,
  ⟨some 42, .call (.fn 70) [(.s 37), (.s 41)] false, none⟩,
  ⟨some 7, .mv (.s 42), none⟩] [4, 6, 7])
 (.pregion false [⟨some 43, .mv (.s 7), none⟩,
  ⟨some 8, .mv (.s 43), none⟩] [4, 6, 7, 8]))))))))))))))))
 (.seq (.pregion false [⟨some 172, .mv (.s 6), none⟩,
  ⟨some 173, .fieldAddr (.s 4) 20, none⟩,
  ⟨some 174, .load 1 false (.s 173) 4 false, none⟩,
  ⟨some 175, .indexSl (.s 174) (.c (.int .i64 0)) 21, none⟩,
  ⟨some 176, .load 21 true (.s 175) 0 true, none⟩,
  ⟨some 177, .mv (.s 7), none⟩,
  ⟨some 178, .call (.val (.s 172)) [(.s 176), (.s 177)] false, none⟩] [4, 6, 8])
 (.seq (.pregion false [⟨some 179, .fieldAddr (.s 4) 20, none⟩,
  ⟨some 180, .load 1 false (.s 179) 4 false, none⟩,
  ⟨some 181, .len (.s 180) .l false, none⟩,
  ⟨some 182, .bin .eql (.s 181) (.c (.int .i64 2)), none⟩] [4, 6, 8, 182])
 (.cond (.s 182) (.pregion false [⟨some 183, .mv (.s 6), none⟩,
  ⟨some 184, .fieldAddr (.s 4) 20, none⟩,
  ⟨some 185, .load 1 false (.s 184) 4 false, none⟩,
  ⟨some 186, .indexSl (.s 185) (.c (.int .i64 1)) 21, none⟩,
  ⟨some 187, .load 21 true (.s 186) 0 true, none⟩,
  ⟨some 188, .mv (.s 8), none⟩,
  ⟨some 189, .call (.val (.s 183)) [(.s 187), (.s 188)] false, none⟩] [])
 .skip)))))))) }

/-- (*column.walker).full -/
def g70 : GFun :=
 { nparams := 2, keepHeap := true, results := [.inl 4], body :=
 (.seq (.region [⟨some 3, .box (.s 1), none⟩,
  ⟨some 4, .mv (.c (.nilmap)), none⟩] [0, 3])
 (.seq (.region [⟨some 7, .mkMap, none⟩,
  ⟨some 5, .mv (.s 7), none⟩] [0, 3, 5])
 (.seq (.seq (.region [⟨some 6, .mv (.c (.int .i64 0)), none⟩] [0, 3, 5, 6])
 (.block 0 (.loop [0, 3, 5, 6] (.seq (.seq (.region [⟨some 8, .mv (.s 6), none⟩,
  ⟨some 9, .mv (.s 0), none⟩,
  ⟨some 10, .load 21 true (.s 3) 3 false, none⟩,
  ⟨some 11, .call (.fn 96) [(.s 9), (.s 10)] false, none⟩,
  ⟨some 12, .bin .lss (.s 8) (.s 11), none⟩] [0, 3, 5, 6, 12])
 (.cond (.s 12) .skip
 (.exit 0)))
 (.seq (.block 1 (.region [⟨some 15, .mv (.s 5), none⟩,
  ⟨some 16, .mv (.s 6), none⟩,
  ⟨none, .mapUpdate (.s 15) (.s 16) (.c (.bool true)) false, none⟩] [0, 3, 5, 6]))
 (.region [⟨some 13, .mv (.s 6), none⟩,
  ⟨some 14, .bin .add (.s 13) (.c (.int .i64 1)), none⟩,
  ⟨some 6, .mv (.s 14), none⟩] [0, 3, 5, 6]))))))
 (.seq (.region [⟨some 17, .mv (.s 5), none⟩,
  ⟨some 4, .mv (.s 17), none⟩] [4])
 .ret)))) }

/-- slices.Contains[[]int,int] -/
def g71 : GFun :=
 { nparams := 2, keepHeap := false, results := [.inl 4], body :=
 (.seq (.region [⟨some 4, .mv (.c (.bool false)), none⟩] [0, 1])
 (.seq (.region [⟨some 5, .mv (.s 0), none⟩,
  ⟨some 6, .mv (.s 1), none⟩,
  ⟨some 7, .call (.fn 97) [(.s 5), (.s 6)] false, none⟩,
  ⟨some 8, .bin .geq (.s 7) (.c (.int .i64 0)), none⟩,
  ⟨some 4, .mv (.s 8), none⟩] [4])
 .ret)) }

/-- slices.SortFunc[[]api.Row,api.Row] -/
def g72 : GFun :=
 { nparams := 2, keepHeap := false, results := [], body :=
 (.seq (.region [⟨some 5, .mv (.s 0), none⟩,
  ⟨some 6, .len (.s 5) .l false, none⟩,
  ⟨some 4, .mv (.s 6), none⟩] [0, 1, 4])
 (.region [⟨some 7, .mv (.s 0), none⟩,
  ⟨some 8, .mv (.s 4), none⟩,
  ⟨some 9, .mv (.s 4), none⟩,
  ⟨some 10, .toInt .u64 (.s 9), none⟩,
  ⟨some 11, .call (.fn 59) [(.s 10)] false, none⟩,
  ⟨some 12, .mv (.s 1), none⟩,
  ⟨some 13, .call (.fn 98) [(.s 7), (.c (.int .i64 0)), (.s 8), (.s 11), (.s 12)] false, none⟩] [])) }

/-- query.measure -/
def g73 : GFun :=
 { nparams := 3, keepHeap := false, results := [.inl 6], body :=
 (.seq (.region [⟨some 3, .box (.s 0), none⟩,
  ⟨some 6, .mv (.c (.bool false)), none⟩] [1, 2, 3])
 (.seq (.region [⟨some 9, .mv (.s 2), none⟩,
  ⟨some 10, .nilCheck (.s 9), none⟩,
  ⟨some 11, .load 1 false (.s 10) 0 true, none⟩,
  ⟨some 12, .bin .add (.s 11) (.c (.int .i64 1)), none⟩,
  ⟨some 13, .nilCheck (.s 9), none⟩,
  ⟨none, .store 1 (.s 13) (.s 12) 0 true, none⟩] [1, 2, 3])
 (.seq (.seq (.region [⟨some 14, .mv (.s 1), none⟩,
  ⟨some 15, .bin .gtr (.s 14) (.c (.int .i64 8)), none⟩,
  ⟨some 16, .mv (.s 15), none⟩,
  ⟨some 17, .mv (.s 2), some (16, false)⟩,
  ⟨some 18, .nilCheck (.s 17), some (16, false)⟩,
  ⟨some 19, .load 1 false (.s 18) 0 true, some (16, false)⟩,
  ⟨some 20, .bin .gtr (.s 19) (.c (.int .i64 24)), some (16, false)⟩,
  ⟨some 21, .pick (.s 16) (.c (.bool true)) (.s 20), none⟩] [1, 2, 3, 21])
 (.cond (.s 21) (.seq (.region [⟨some 6, .mv (.c (.bool false)), none⟩] [6])
 .ret)
 .skip))
 (.seq (.seq (.region [⟨some 22, .fieldAddr (.s 3) 20, none⟩,
  ⟨some 23, .load 1 false (.s 22) 3 false, none⟩,
  ⟨some 24, .len (.s 23) .l false, none⟩,
  ⟨some 25, .mv (.c (.int .i64 0)), none⟩] [1, 2, 23, 24, 25])
 (.block 0 (.loop [1, 2, 23, 24, 25] (.seq (.region [⟨some 26, .bin .lss (.s 25) (.s 24), none⟩] [1, 2, 23, 24, 25, 26])
 (.seq (.cond (.s 26) .skip
 (.exit 0))
 (.seq (.block 1 (.seq (.region [⟨some 27, .indexSl (.s 23) (.s 25) 21, none⟩,
  ⟨some 28, .load 21 true (.s 27) 0 true, none⟩,
  ⟨some 8, .alloc [.int .i64 0, .int .i64 0, .int .i64 0, .int .i64 0, .int .i64 0, .int .i64 0, .int .i64 0, .int .i64 0, .str [], .int .i64 0, .int .i64 0, .int .i64 0, .int .i64 0, .str [], .sl 0 true .exact [], .sl 0 true .exact [], .sl 0 true .exact [], .sl 0 true .exact [], .sl 0 true .exact [], .int .i64 0, .sl 0 true .exact []], none⟩,
  ⟨none, .store 21 (.s 8) (.s 28) 8 false, none⟩] [1, 2, 8, 23, 24, 25])
 (.seq (.region [⟨some 29, .load 21 true (.s 8) 8 false, none⟩,
  ⟨some 30, .mv (.s 1), none⟩,
  ⟨some 31, .bin .add (.s 30) (.c (.int .i64 1)), none⟩,
  ⟨some 32, .mv (.s 2), none⟩,
  ⟨some 33, .call (.fn 73) [(.s 29), (.s 31), (.s 32)] false, none⟩,
  ⟨some 34, .un .not (.s 33), none⟩] [1, 2, 23, 24, 25, 34])
 (.cond (.s 34) (.seq (.region [⟨some 6, .mv (.c (.bool false)), none⟩] [6])
 .ret)
 .skip))))
 (.region [⟨some 35, .bin .add (.s 25) (.c (.int .i64 1)), none⟩,
  ⟨some 25, .mv (.s 35), none⟩] [1, 2, 23, 24, 25])))))))
 (.seq (.region [⟨some 6, .mv (.c (.bool true)), none⟩] [6])
 .ret))))) }

/-- query.checks -/
def g74 : GFun :=
 { nparams := 0, keepHeap := true, results := [.inr (0, 3, true)], body :=
 (.seq (.region [⟨some 0, .alloc [.nilfunc, .nilfunc, .nilfunc], none⟩] [0])
 (.seq (.region [⟨some 1, .build [.nilfunc, .nilfunc, .nilfunc] [(0, 1, (.c (.func (.func 99) [] []))), (1, 1, (.c (.func (.func 100) [] []))), (2, 1, (.c (.func (.func 101) [] [])))], none⟩,
  ⟨none, .store 3 (.s 0) (.s 1) 0 false, none⟩] [0])
 .ret)) }

/-- query.walk -/
def g75 : GFun :=
 { nparams := 1, keepHeap := true, results := [.inl 2], body :=
 (.seq (.region [⟨some 1, .hbox (.s 0), none⟩,
  ⟨some 2, .mv (.c (.nilfunc)), none⟩] [1])
 (.seq (.region [⟨some 3, .mkFunc (.func 102) [] [(.s 1)], none⟩,
  ⟨some 2, .mv (.s 3), none⟩] [2])
 .ret)) }

/-- own.Arity -/
def g76 : GFun :=
 { nparams := 1, keepHeap := false, results := [.inl 2], body :=
 (.seq (.region [⟨some 2, .mv (.c (.int .i64 0)), none⟩] [0])
 (.seq (.seq (.region [⟨some 3, .mv (.s 0), none⟩] [3])
 (.block 0 (.seq (.region [⟨some 5, .bin .eql (.s 3) (.c (.int .i64 1)), none⟩,
  ⟨some 4, .mv (.s 5), none⟩] [3, 4])
 (.cond (.s 4) (.seq (.region [⟨some 2, .mv (.c (.int .i64 0)), none⟩] [2])
 .ret)
 (.seq (.seq (.region [⟨some 7, .bin .eql (.s 3) (.c (.int .i64 2)), none⟩,
  ⟨some 6, .mv (.s 7), none⟩] [3, 6])
 (.cond (.s 6) .skip
 (.seq (.region [⟨some 8, .bin .eql (.s 3) (.c (.int .i64 3)), none⟩,
  ⟨some 6, .mv (.s 8), none⟩] [3, 6])
 (.cond (.s 6) .skip
 (.region [⟨some 9, .bin .eql (.s 3) (.c (.int .i64 9)), none⟩,
  ⟨some 6, .mv (.s 9), none⟩] [3, 6])))))
 (.cond (.s 6) (.seq (.region [⟨some 2, .mv (.c (.int .i64 1)), none⟩] [2])
 .ret)
 (.seq (.seq (.region [⟨some 11, .bin .eql (.s 3) (.c (.int .i64 4)), none⟩,
  ⟨some 10, .mv (.s 11), none⟩] [3, 10])
 (.cond (.s 10) .skip
 (.seq (.region [⟨some 12, .bin .eql (.s 3) (.c (.int .i64 5)), none⟩,
  ⟨some 10, .mv (.s 12), none⟩] [3, 10])
 (.cond (.s 10) .skip
 (.seq (.region [⟨some 13, .bin .eql (.s 3) (.c (.int .i64 6)), none⟩,
  ⟨some 10, .mv (.s 13), none⟩] [3, 10])
 (.cond (.s 10) .skip
 (.seq (.region [⟨some 14, .bin .eql (.s 3) (.c (.int .i64 7)), none⟩,
  ⟨some 10, .mv (.s 14), none⟩] [3, 10])
 (.cond (.s 10) .skip
 (.seq (.region [⟨some 15, .bin .eql (.s 3) (.c (.int .i64 8)), none⟩,
  ⟨some 10, .mv (.s 15), none⟩] [3, 10])
 (.cond (.s 10) .skip
 (.region [⟨some 16, .bin .eql (.s 3) (.c (.int .i64 10)), none⟩,
  ⟨some 10, .mv (.s 16), none⟩] [10])))))))))))
 (.cond (.s 10) (.seq (.region [⟨some 2, .mv (.c (.int .i64 2)), none⟩] [2])
 .ret)
 .skip))))))))
 (.seq (.region [⟨some 2, .mv (.c (.int .i64 (-1))), none⟩] [2])
 .ret))) }

/-- own.OfQuery -/
def g77 : GFun :=
 { nparams := 1, keepHeap := false, results := [.inr (2, 22, true)], body :=
 (.seq (.region [⟨some 1, .box (.s 0), none⟩,
  ⟨some 2, .alloc [.int .i64 0, .int .i64 0, .int .i64 0, .int .i64 0, .int .i64 0, .int .i64 0, .int .i64 0, .int .i64 0, .str [], .int .i64 0, .int .i64 0, .int .i64 0, .int .i64 0, .str [], .sl 0 true .exact [], .sl 0 true .exact [], .sl 0 true .exact [], .sl 0 true .exact [], .sl 0 true .exact [], .int .i64 0, .int .i64 0, .int .i64 0], none⟩] [1, 2])
 (.seq (.region [⟨some 3, .fieldAddr (.s 1) 0, none⟩,
  ⟨some 4, .load 1 false (.s 3) 1 false, none⟩,
  ⟨some 5, .fieldAddr (.s 1) 1, none⟩,
  ⟨some 6, .load 1 false (.s 5) 1 false, none⟩,
  ⟨some 7, .fieldAddr (.s 1) 2, none⟩,
  ⟨some 8, .load 13 true (.s 7) 1 false, none⟩,
  ⟨some 9, .fieldAddr (.s 1) 15, none⟩,
  ⟨some 10, .load 1 false (.s 9) 1 false, none⟩,
  ⟨some 11, .fieldAddr (.s 1) 16, none⟩,
  ⟨some 12, .load 1 false (.s 11) 1 false, none⟩,
  ⟨some 13, .fieldAddr (.s 1) 17, none⟩,
  ⟨some 14, .load 1 false (.s 13) 1 false, none⟩,
  ⟨some 15, .fieldAddr (.s 1) 18, none⟩,
  ⟨some 16, .load 1 false (.s 15) 1 false, none⟩,
  ⟨some 17, .fieldAddr (.s 1) 19, none⟩,
  ⟨some 18, .load 1 false (.s 17) 1 false, none⟩,
  ⟨some 19, .build [.int .i64 0, .int .i64 0, .int .i64 0, .int .i64 0, .int .i64 0, .int .i64 0, .int .i64 0, .int .i64 0, .str [], .int .i64 0, .int .i64 0, .int .i64 0, .int .i64 0, .str [], .sl 0 true .exact [], .sl 0 true .exact [], .sl 0 true .exact [], .sl 0 true .exact [], .sl 0 true .exact [], .int .i64 0, .int .i64 0, .int .i64 0] [(0, 1, (.s 4)), (1, 1, (.s 6)), (2, 13, (.s 8)), (15, 1, (.s 10)), (16, 1, (.s 12)), (17, 1, (.s 14)), (18, 1, (.s 16)), (19, 1, (.s 18))], none⟩,
  ⟨none, .store 22 (.s 2) (.s 19) 2 false, none⟩] [2])
 .ret)) }

/-- evaluate.operators -/
def g78 : GFun :=
 { nparams := 1, keepHeap := false, results := [.inr (2, 1, true)], body :=
 (.seq (.region [⟨some 2, .alloc [.nilfunc], none⟩] [0, 2])
 (.seq (.seq (.region [⟨some 3, .mv (.s 0), none⟩] [2, 3])
 (.block 0 (.seq (.region [⟨some 5, .bin .eql (.s 3) (.c (.int .i64 1)), none⟩,
  ⟨some 4, .mv (.s 5), none⟩] [2, 3, 4])
 (.cond (.s 4) (.seq (.region [⟨some 6, .build [.nilfunc] [(0, 1, (.c (.func (.func 104) [] [])))], none⟩,
  ⟨none, .store 1 (.s 2) (.s 6) 2 false, none⟩] [2])
 .ret)
 (.seq (.region [⟨some 8, .bin .eql (.s 3) (.c (.int .i64 3)), none⟩,
  ⟨some 7, .mv (.s 8), none⟩] [2, 7])
 (.cond (.s 7) (.seq (.region [⟨some 9, .build [.nilfunc] [(0, 1, (.c (.func (.func 106) [] [])))], none⟩,
  ⟨none, .store 1 (.s 2) (.s 9) 2 false, none⟩] [2])
 .ret)
 .skip))))))
 (.seq (.region [⟨some 10, .build [.nilfunc] [(0, 1, (.c (.func (.func 108) [] [])))], none⟩,
  ⟨none, .store 1 (.s 2) (.s 10) 2 false, none⟩] [2])
 .ret))) }

/-- evaluate.each -/
def g79 : GFun :=
 { nparams := 1, keepHeap := true, results := [.inl 2], body :=
 (.seq (.region [⟨some 1, .hbox (.s 0), none⟩,
  ⟨some 2, .mv (.c (.nilfunc)), none⟩] [1])
 (.seq (.region [⟨some 3, .mkFunc (.func 110) [] [(.s 1)], none⟩,
  ⟨some 2, .mv (.s 3), none⟩] [2])
 .ret)) }

/-- (*procedure.run).cell -/
def g80 : GFun :=
 { nparams := 3, keepHeap := false, results := [.inr (6, 3, true)], body :=
 (.seq (.pregion false [⟨some 4, .box (.s 1), none⟩,
  ⟨some 6, .alloc [.int .i64 0, .int .i64 0, .str []], none⟩] [0, 2, 4, 6])
 (.seq (.pregion false [⟨some 11, .mv (.s 0), none⟩,
  ⟨some 12, .fieldAddr (.s 4) 1, none⟩,
  ⟨some 13, .load 5 true (.s 12) 4 false, none⟩,
  ⟨some 14, .mv (.s 2), none⟩,
  ⟨some 15, .call (.fn 111) [(.s 11), (.s 13), (.s 14)] false, none⟩,
  ⟨some 7, .alloc [.int .i64 0, .int .i64 0, .str []], none⟩,
  ⟨none, .store 3 (.s 7) (.s 15) 7 false, none⟩] [0, 2, 4, 6, 7])
 (.seq (.seq (.pregion false [⟨some 16, .load 3 true (.s 7) 7 false, none⟩,
  ⟨some 17, .call (.fn 35) [(.s 16)] false, none⟩,
  ⟨some 18, .un .not (.s 17), none⟩] [0, 2, 4, 6, 7, 18])
 (.cond (.s 18) (.pregion false [⟨some 19, .mkIface 92 (.c (.int .i64 (-1))), none⟩,
  ⟨none, .pan (.s 19), none⟩] [0, 2, 4, 6, 7])
 .skip))
 (.seq (.seq (.pregion false [⟨some 20, .fieldAddr (.s 4) 0, none⟩,
  ⟨some 21, .load 1 false (.s 20) 4 false, none⟩,
  ⟨some 22, .bin .eql (.s 21) (.c (.int .i64 1)), none⟩] [0, 2, 4, 6, 7, 22])
 (.cond (.s 22) (.seq (.pregion false [⟨some 23, .load 3 true (.s 7) 7 false, none⟩,
  ⟨none, .store 3 (.s 6) (.s 23) 6 false, none⟩] [6])
 .ret)
 .skip))
 (.seq (.pregion false [⟨some 24, .mv (.s 0), none⟩,
  ⟨some 25, .fieldAddr (.s 4) 6, none⟩,
  ⟨some 26, .load 5 true (.s 25) 4 false, none⟩,
  ⟨some 27, .mv (.s 2), none⟩,
  ⟨some 28, .call (.fn 111) [(.s 24), (.s 26), (.s 27)] false, none⟩,
  ⟨some 8, .alloc [.int .i64 0, .int .i64 0, .str []], none⟩,
  ⟨none, .store 3 (.s 8) (.s 28) 8 false, none⟩] [4, 6, 7, 8])
 (.seq (.seq (.pregion false [⟨some 29, .load 3 true (.s 8) 8 false, none⟩,
  ⟨some 30, .call (.fn 35) [(.s 29)] false, none⟩,
  ⟨some 31, .un .not (.s 30), none⟩] [4, 6, 7, 8, 31])
 (.cond (.s 31) (.pregion false [⟨some 32, .mkIface 92 (.c (.int .i64 (-1))), none⟩,
  ⟨none, .pan (.s 32), none⟩] [4, 6, 7, 8])
 .skip))
 (.seq (.pregion true [⟨some 33, .fieldAddr (.s 7) 1, none⟩,
  ⟨some 34, .load 1 false (.s 33) 7 false, none⟩,
  ⟨some 35, .fieldAddr (.s 8) 1, none⟩,
  ⟨some 36, .load 1 false (.s 35) 8 false, none⟩,
  ⟨some 9, .mv (.s 34), none⟩,
  ⟨some 10, .mv (.s 36), none⟩] [4, 6, 7, 9, 10])
 (.seq (.seq (.pregion false [⟨some 37, .fieldAddr (.s 4) 0, none⟩,
  ⟨some 38, .load 1 false (.s 37) 4 false, none⟩,
  ⟨some 39, .bin .eql (.s 38) (.c (.int .i64 2)), none⟩] [6, 7, 9, 10, 39])
 (.cond (.s 39) (.seq (.seq (.pregion false [⟨some 40, .mv (.s 10), none⟩,
  ⟨some 41, .bin .gtr (.s 40) (.c (.int .i64 0)), none⟩,
  ⟨some 42, .mv (.s 41), none⟩,
  ⟨some 43, .mv (.s 9), some (42, true)⟩,
  ⟨some 44, .mv (.s 10), some (42, true)⟩,
  ⟨some 45, .bin .sub (.c (.int .i64 9223372036854775807)) (.s 44), some (42, true)⟩,
  ⟨some 46, .bin .gtr (.s 43) (.s 45), some (42, true)⟩,
  ⟨some 47, .pick (.s 42) (.s 46) (.c (.bool false)), none⟩,
  ⟨some 48, .mv (.s 47), none⟩,
  ⟨some 49, .mv (.s 10), some (48, false)⟩,
  ⟨some 50, .bin .lss (.s 49) (.c (.int .i64 0)), some (48, false)⟩,
  ⟨some 51, .mv (.s 50), some (48, false)⟩,
  ⟨some 52, .mv (.s 9), some (51, true)⟩,
  ⟨some 53, .mv (.s 10), some (51, true)⟩,
  ⟨some 54, .bin .sub (.c (.int .i64 (-9223372036854775808))) (.s 53), some (51, true)⟩,
  ⟨some 55, .bin .lss (.s 52) (.s 54), some (51, true)⟩,
  ⟨some 56, .pick (.s 51) (.s 55) (.c (.bool false)), some (48, false)⟩,
  ⟨some 57, .pick (.s 48) (.c (.bool true)) (.s 56), none⟩] [6, 7, 9, 10, 57])
 (.cond (.s 57) (.pregion false [⟨some 58, .mkIface 92 (.c (.int .i64 (-2))), none⟩,
  ⟨none, .pan (.s 58), none⟩] [6, 7, 9, 10])
 .skip))
 (.seq (.pregion false [⟨some 59, .mv (.s 9), none⟩,
  ⟨some 60, .mv (.s 10), none⟩,
  ⟨some 61, .bin .add (.s 59) (.s 60), none⟩,
  ⟨some 62, .fieldAddr (.s 7) 1, none⟩,
  ⟨none, .store 1 (.s 62) (.s 61) 7 false, none⟩] [6, 7])
 (.seq (.pregion false [⟨some 63, .load 3 true (.s 7) 7 false, none⟩,
  ⟨none, .store 3 (.s 6) (.s 63) 6 false, none⟩] [6])
 .ret)))
 .skip))
 (.seq (.seq (.pregion false [⟨some 64, .mv (.s 10), none⟩,
  ⟨some 65, .bin .lss (.s 64) (.c (.int .i64 0)), none⟩,
  ⟨some 66, .mv (.s 65), none⟩,
  ⟨some 67, .mv (.s 9), some (66, true)⟩,
  ⟨some 68, .mv (.s 10), some (66, true)⟩,
  ⟨some 69, .bin .add (.c (.int .i64 9223372036854775807)) (.s 68), some (66, true)⟩,
  ⟨some 70, .bin .gtr (.s 67) (.s 69), some (66, true)⟩,
  ⟨some 71, .pick (.s 66) (.s 70) (.c (.bool false)), none⟩,
  ⟨some 72, .mv (.s 71), none⟩,
  ⟨some 73, .mv (.s 10), some (72, false)⟩,
  ⟨some 74, .bin .gtr (.s 73) (.c (.int .i64 0)), some (72, false)⟩,
  ⟨some 75, .mv (.s 74), some (72, false)⟩,
  ⟨some 76, .mv (.s 9), some (75, true)⟩,
  ⟨some 77, .mv (.s 10), some (75, true)⟩,
  ⟨some 78, .bin .add (.c (.int .i64 (-9223372036854775808))) (.s 77), some (75, true)⟩,
  ⟨some 79, .bin .lss (.s 76) (.s 78), some (75, true)⟩,
  ⟨some 80, .pick (.s 75) (.s 79) (.c (.bool false)), some (72, false)⟩,
  ⟨some 81, .pick (.s 72) (.c (.bool true)) (.s 80), none⟩] [6, 7, 9, 10, 81])
 (.cond (.s 81) (.pregion false [⟨some 82, .mkIface 92 (.c (.int .i64 (-2))), none⟩,
  ⟨none, .pan (.s 82), none⟩] [6, 7, 9, 10])
 .skip))
 (.seq (.pregion false [⟨some 83, .mv (.s 9), none⟩,
  ⟨some 84, .mv (.s 10), none⟩,
  ⟨some 85, .bin .sub (.s 83) (.s 84), none⟩,
  ⟨some 86, .fieldAddr (.s 7) 1, none⟩,
  ⟨none, .store 1 (.s 86) (.s 85) 7 false, none⟩] [6, 7])
 (.seq (.pregion false [⟨some 87, .load 3 true (.s 7) 7 false, none⟩,
  ⟨none, .store 3 (.s 6) (.s 87) 6 false, none⟩] [6])
 .ret))))))))))) }

/-- predicate.bound -/
def g81 : GFun :=
 { nparams := 2, keepHeap := false, results := [.inr (4, 5, true)], body :=
 (.seq (.region [⟨some 2, .box (.s 0), none⟩,
  ⟨some 4, .alloc [.int .i64 0, .int .i64 0, .int .i64 0, .int .i64 0, .str []], none⟩] [1, 2, 4])
 (.seq (.seq (.region [⟨some 5, .fieldAddr (.s 2) 0, none⟩,
  ⟨some 6, .load 1 false (.s 5) 2 false, none⟩,
  ⟨some 7, .bin .eql (.s 6) (.c (.int .i64 2)), none⟩,
  ⟨some 8, .mv (.s 7), none⟩,
  ⟨some 9, .fieldAddr (.s 2) 1, some (8, true)⟩,
  ⟨some 10, .load 1 false (.s 9) 2 false, some (8, true)⟩,
  ⟨some 11, .bin .geq (.s 10) (.c (.int .i64 0)), some (8, true)⟩,
  ⟨some 12, .pick (.s 8) (.s 11) (.c (.bool false)), none⟩,
  ⟨some 13, .mv (.s 12), none⟩,
  ⟨some 14, .fieldAddr (.s 2) 1, some (13, true)⟩,
  ⟨some 15, .load 1 false (.s 14) 2 false, some (13, true)⟩,
  ⟨some 16, .mv (.s 1), some (13, true)⟩,
  ⟨some 17, .len (.s 16) .l false, some (13, true)⟩,
  ⟨some 18, .bin .lss (.s 15) (.s 17), some (13, true)⟩,
  ⟨some 19, .pick (.s 13) (.s 18) (.c (.bool false)), none⟩] [1, 2, 4, 19])
 (.cond (.s 19) (.seq (.region [⟨some 20, .mv (.s 1), none⟩,
  ⟨some 21, .fieldAddr (.s 2) 1, none⟩,
  ⟨some 22, .load 1 false (.s 21) 2 false, none⟩,
  ⟨some 23, .indexSl (.s 20) (.s 22) 3, none⟩,
  ⟨some 24, .load 3 true (.s 23) 0 true, none⟩,
  ⟨some 25, .build [.int .i64 0, .int .i64 0, .int .i64 0, .int .i64 0, .str []] [(0, 1, (.c (.int .i64 3))), (2, 3, (.s 24))], none⟩,
  ⟨none, .store 5 (.s 4) (.s 25) 4 false, none⟩] [4])
 .ret)
 .skip))
 (.seq (.region [⟨some 26, .load 5 true (.s 2) 2 false, none⟩,
  ⟨none, .store 5 (.s 4) (.s 26) 4 false, none⟩] [4])
 .ret))) }

/-- slices.insertionSortCmpFunc[api.Write] -/
def g82 : GFun :=
 { nparams := 4, keepHeap := false, results := [], body :=
 (.seq (.region [⟨some 10, .mv (.s 1), none⟩,
  ⟨some 11, .bin .add (.s 10) (.c (.int .i64 1)), none⟩,
  ⟨some 8, .mv (.s 11), none⟩] [0, 1, 2, 3, 8])
 (.block 0 (.loop [0, 1, 2, 3, 8] (.seq (.seq (.region [⟨some 12, .mv (.s 8), none⟩,
  ⟨some 13, .mv (.s 2), none⟩,
  ⟨some 14, .bin .lss (.s 12) (.s 13), none⟩] [0, 1, 2, 3, 8, 14])
 (.cond (.s 14) .skip
 (.exit 0)))
 (.seq (.block 1 (.seq (.region [⟨some 17, .mv (.s 8), none⟩,
  ⟨some 9, .mv (.s 17), none⟩] [0, 1, 2, 3, 8, 9])
 (.block 2 (.loop [0, 1, 2, 3, 8, 9] (.seq (.seq (.region [⟨some 18, .mv (.s 9), none⟩,
  ⟨some 19, .mv (.s 1), none⟩,
  ⟨some 20, .bin .gtr (.s 18) (.s 19), none⟩,
  ⟨some 21, .mv (.s 20), none⟩,
  ⟨some 22, .mv (.s 3), some (21, true)⟩,
  ⟨some 23, .mv (.s 0), some (21, true)⟩,
  ⟨some 24, .mv (.s 9), some (21, true)⟩,
  ⟨some 25, .indexSl (.s 23) (.s 24) 5, some (21, true)⟩,
  ⟨some 26, .load 5 true (.s 25) 0 true, some (21, true)⟩,
  ⟨some 27, .mv (.s 0), some (21, true)⟩,
  ⟨some 28, .mv (.s 9), some (21, true)⟩,
  ⟨some 29, .bin .sub (.s 28) (.c (.int .i64 1)), some (21, true)⟩,
  ⟨some 30, .indexSl (.s 27) (.s 29) 5, some (21, true)⟩,
  ⟨some 31, .load 5 true (.s 30) 0 true, some (21, true)⟩,
  ⟨some 32, .call (.val (.s 22)) [(.s 26), (.s 31)] false, some (21, true)⟩,
  ⟨some 33, .bin .lss (.s 32) (.c (.int .i64 0)), some (21, true)⟩,
  ⟨some 34, .pick (.s 21) (.s 33) (.c (.bool false)), none⟩] [0, 1, 2, 3, 8, 9, 34])
 (.cond (.s 34) .skip
 (.exit 2)))
 (.seq (.block 3 (.region [⟨some 37, .mv (.s 0), none⟩,
  ⟨some 38, .mv (.s 9), none⟩,
  ⟨some 39, .mv (.s 0), none⟩,
  ⟨some 40, .mv (.s 9), none⟩,
  ⟨some 41, .bin .sub (.s 40) (.c (.int .i64 1)), none⟩,
  ⟨some 42, .mv (.s 0), none⟩,
  ⟨some 43, .mv (.s 9), none⟩,
  ⟨some 44, .bin .sub (.s 43) (.c (.int .i64 1)), none⟩,
  ⟨some 45, .indexSl (.s 42) (.s 44) 5, none⟩,
  ⟨some 46, .load 5 true (.s 45) 0 true, none⟩,
  ⟨some 47, .mv (.s 0), none⟩,
  ⟨some 48, .mv (.s 9), none⟩,
  ⟨some 49, .indexSl (.s 47) (.s 48) 5, none⟩,
  ⟨some 50, .load 5 true (.s 49) 0 true, none⟩,
  ⟨some 51, .indexSl (.s 37) (.s 38) 5, none⟩,
  ⟨none, .store 5 (.s 51) (.s 46) 0 true, none⟩,
  ⟨some 52, .indexSl (.s 39) (.s 41) 5, none⟩,
  ⟨none, .store 5 (.s 52) (.s 50) 0 true, none⟩] [0, 1, 2, 3, 8, 9]))
 (.region [⟨some 35, .mv (.s 9), none⟩,
  ⟨some 36, .bin .sub (.s 35) (.c (.int .i64 1)), none⟩,
  ⟨some 9, .mv (.s 36), none⟩] [0, 1, 2, 3, 8, 9])))))))
 (.region [⟨some 15, .mv (.s 8), none⟩,
  ⟨some 16, .bin .add (.s 15) (.c (.int .i64 1)), none⟩,
  ⟨some 8, .mv (.s 16), none⟩] [0, 1, 2, 3, 8])))))) }

/-- math/bits.Len64 -/
def g91 : GFun :=
 { nparams := 1, keepHeap := false, results := [.inl 2], body :=
 (.seq (.region [⟨some 2, .mv (.c (.int .i64 0)), none⟩] [0, 2])
 (.seq (.seq (.region [⟨some 3, .mv (.s 0), none⟩,
  ⟨some 4, .bin .geq (.s 3) (.c (.int .u64 4294967296)), none⟩] [0, 2, 4])
 (.cond (.s 4) (.seq (.region [⟨some 5, .mv (.s 0), none⟩,
  ⟨some 6, .bin .shr (.s 5) (.c (.int .u64 32)), none⟩,
  ⟨some 0, .mv (.s 6), none⟩] [0])
 (.region [⟨some 2, .mv (.c (.int .i64 32)), none⟩] [0, 2]))
 .skip))
 (.seq (.seq (.region [⟨some 7, .mv (.s 0), none⟩,
  ⟨some 8, .bin .geq (.s 7) (.c (.int .u64 65536)), none⟩] [0, 2, 8])
 (.cond (.s 8) (.seq (.region [⟨some 9, .mv (.s 0), none⟩,
  ⟨some 10, .bin .shr (.s 9) (.c (.int .u64 16)), none⟩,
  ⟨some 0, .mv (.s 10), none⟩] [0, 2])
 (.region [⟨some 11, .mv (.s 2), none⟩,
  ⟨some 12, .bin .add (.s 11) (.c (.int .i64 16)), none⟩,
  ⟨some 2, .mv (.s 12), none⟩] [0, 2]))
 .skip))
 (.seq (.seq (.region [⟨some 13, .mv (.s 0), none⟩,
  ⟨some 14, .bin .geq (.s 13) (.c (.int .u64 256)), none⟩] [0, 2, 14])
 (.cond (.s 14) (.seq (.region [⟨some 15, .mv (.s 0), none⟩,
  ⟨some 16, .bin .shr (.s 15) (.c (.int .u64 8)), none⟩,
  ⟨some 0, .mv (.s 16), none⟩] [0, 2])
 (.region [⟨some 17, .mv (.s 2), none⟩,
  ⟨some 18, .bin .add (.s 17) (.c (.int .i64 8)), none⟩,
  ⟨some 2, .mv (.s 18), none⟩] [0, 2]))
 .skip))
 (.seq (.region [⟨some 19, .mv (.s 2), none⟩,
  ⟨some 20, .mv (.s 0), none⟩,
  ⟨some 21, .toInt .u8 (.s 20), none⟩,
  ⟨some 22, .indexStr (.c (.str [0, 1, 2, 2, 3, 3, 3, 3, 4, 4, 4, 4, 4, 4, 4, 4, 5, 5, 5, 5, 5, 5, 5, 5, 5, 5, 5, 5, 5, 5, 5, 5, 6, 6, 6, 6, 6, 6, 6, 6, 6, 6, 6, 6, 6, 6, 6, 6, 6, 6, 6, 6, 6, 6, 6, 6, 6, 6, 6, 6, 6, 6, 6, 6, 7, 7, 7, 7, 7, 7, 7, 7, 7, 7, 7, 7, 7, 7, 7, 7, 7, 7, 7, 7, 7, 7, 7, 7, 7, 7, 7, 7, 7, 7, 7, 7, 7, 7, 7, 7, 7, 7, 7, 7, 7, 7, 7, 7, 7, 7, 7, 7, 7, 7, 7, 7, 7, 7, 7, 7, 7, 7, 7, 7, 7, 7, 7, 7, 8, 8, 8, 8, 8, 8, 8, 8, 8, 8, 8, 8, 8, 8, 8, 8, 8, 8, 8, 8, 8, 8, 8, 8, 8, 8, 8, 8, 8, 8, 8, 8, 8, 8, 8, 8, 8, 8, 8, 8, 8, 8, 8, 8, 8, 8, 8, 8, 8, 8, 8, 8, 8, 8, 8, 8, 8, 8, 8, 8, 8, 8, 8, 8, 8, 8, 8, 8, 8, 8, 8, 8, 8, 8, 8, 8, 8, 8, 8, 8, 8, 8, 8, 8, 8, 8, 8, 8, 8, 8, 8, 8, 8, 8, 8, 8, 8, 8, 8, 8, 8, 8, 8, 8, 8, 8, 8, 8, 8, 8, 8, 8, 8, 8, 8, 8, 8, 8, 8, 8, 8, 8, 8, 8, 8, 8, 8, 8])) (.s 21), none⟩,
  ⟨some 23, .toInt .i64 (.s 22), none⟩,
  ⟨some 24, .bin .add (.s 19) (.s 23), none⟩,
  ⟨some 2, .mv (.s 24), none⟩] [2])
 .ret))))) }

/-- procedure.operandKind -/
def g92 : GFun :=
 { nparams := 3, keepHeap := false, results := [.inl 6], body :=
 (.seq (.region [⟨some 5, .hbox (.s 2), none⟩,
  ⟨some 6, .mv (.c (.int .i64 0)), none⟩] [0, 1, 5])
 (.seq (.region [⟨some 8, .mkFunc (.func 117) [] [(.s 5)], none⟩,
  ⟨some 7, .mv (.s 8), none⟩] [0, 1, 5, 7])
 (.seq (.seq (.region [⟨some 9, .fieldAddr (.s 5) 0, none⟩,
  ⟨some 10, .load 1 false (.s 9) 0 true, none⟩] [0, 1, 5, 7, 10])
 (.block 0 (.seq (.region [⟨some 12, .bin .eql (.s 10) (.c (.int .i64 1)), none⟩,
  ⟨some 11, .mv (.s 12), none⟩] [0, 1, 5, 7, 10, 11])
 (.cond (.s 11) (.seq (.region [⟨some 13, .mv (.s 7), none⟩,
  ⟨some 14, .mv (.s 0), none⟩,
  ⟨some 15, .call (.val (.s 13)) [(.s 14)] false, none⟩,
  ⟨some 6, .mv (.s 15), none⟩] [6])
 .ret)
 (.seq (.region [⟨some 17, .bin .eql (.s 10) (.c (.int .i64 2)), none⟩,
  ⟨some 16, .mv (.s 17), none⟩] [1, 5, 7, 10, 16])
 (.cond (.s 16) (.seq (.region [⟨some 18, .mv (.s 7), none⟩,
  ⟨some 19, .mv (.s 1), none⟩,
  ⟨some 20, .call (.val (.s 18)) [(.s 19)] false, none⟩,
  ⟨some 6, .mv (.s 20), none⟩] [6])
 .ret)
 (.seq (.region [⟨some 22, .bin .eql (.s 10) (.c (.int .i64 3)), none⟩,
  ⟨some 21, .mv (.s 22), none⟩] [5, 21])
 (.cond (.s 21) (.seq (.region [⟨some 23, .fieldAddr (.s 5) 1, none⟩,
  ⟨some 24, .load 1 false (.s 23) 0 true, none⟩,
  ⟨some 25, .bin .eql (.s 24) (.c (.int .i64 0)), none⟩,
  ⟨some 26, .mv (.s 25), none⟩,
  ⟨some 27, .fieldAddr (.s 5) 2, some (26, true)⟩,
  ⟨some 28, .load 3 true (.s 27) 0 true, some (26, true)⟩,
  ⟨some 29, .call (.fn 35) [(.s 28)] false, some (26, true)⟩,
  ⟨some 30, .pick (.s 26) (.s 29) (.c (.bool false)), none⟩] [5, 30])
 (.cond (.s 30) (.seq (.region [⟨some 31, .fieldAddr (.s 5) 2, none⟩,
  ⟨some 32, .fieldAddr (.s 31) 0, none⟩,
  ⟨some 33, .load 1 false (.s 32) 0 true, none⟩,
  ⟨some 6, .mv (.s 33), none⟩] [6])
 .ret)
 .skip))
 .skip))))))))
 (.seq (.region [⟨some 6, .mv (.c (.int .i64 0)), none⟩] [6])
 .ret)))) }

/-- slices.Sort[[]int,int] -/
def g94 : GFun :=
 { nparams := 1, keepHeap := false, results := [], body :=
 (.seq (.region [⟨some 3, .mv (.s 0), none⟩,
  ⟨some 4, .len (.s 3) .l false, none⟩,
  ⟨some 2, .mv (.s 4), none⟩] [0, 2])
 (.region [⟨some 5, .mv (.s 0), none⟩,
  ⟨some 6, .mv (.s 2), none⟩,
  ⟨some 7, .mv (.s 2), none⟩,
  ⟨some 8, .toInt .u64 (.s 7), none⟩,
  ⟨some 9, .call (.fn 59) [(.s 8)] false, none⟩,
  ⟨some 10, .call (.fn 118) [(.s 5), (.c (.int .i64 0)), (.s 6), (.s 9)] false, none⟩] [])) }

/-- (*column.walker).width -/
def g96 : GFun :=
 { nparams := 2, keepHeap := false, results := [.inl 4], body :=
 (.seq (.region [⟨some 3, .box (.s 1), none⟩,
  ⟨some 4, .mv (.c (.int .i64 0)), none⟩] [0, 3])
 (.seq (.region [⟨some 8, .mv (.s 0), none⟩,
  ⟨some 9, .nilCheck (.s 8), none⟩,
  ⟨some 10, .fieldAddr (.s 9) 0, none⟩,
  ⟨some 11, .load 2 true (.s 10) 0 true, none⟩,
  ⟨some 12, .load 21 true (.s 3) 3 false, none⟩,
  ⟨some 13, .call (.fn 48) [(.s 11), (.c (.sl 0 true .exact [])), (.s 12)] false, none⟩,
  ⟨some 7, .mv (.s 13), none⟩,
  ⟨some 14, .extract (.s 7) 0, none⟩,
  ⟨some 15, .extract (.s 7) 1, none⟩,
  ⟨some 5, .mv (.s 14), none⟩,
  ⟨some 6, .mv (.s 15), none⟩] [5])
 (.seq (.region [⟨some 16, .mv (.s 5), none⟩,
  ⟨some 17, .len (.s 16) .l false, none⟩,
  ⟨some 4, .mv (.s 17), none⟩] [4])
 .ret))) }

/-- slices.Index[[]int,int] -/
def g97 : GFun :=
 { nparams := 2, keepHeap := false, results := [.inl 4], body :=
 (.seq (.region [⟨some 4, .mv (.c (.int .i64 0)), none⟩] [0, 1])
 (.seq (.seq (.region [⟨some 6, .mv (.s 0), none⟩,
  ⟨some 7, .len (.s 6) .l false, none⟩,
  ⟨some 8, .mv (.c (.int .i64 0)), none⟩] [0, 1, 7, 8])
 (.block 0 (.loop [0, 1, 7, 8] (.seq (.region [⟨some 9, .bin .lss (.s 8) (.s 7), none⟩] [0, 1, 7, 8, 9])
 (.seq (.cond (.s 9) .skip
 (.exit 0))
 (.seq (.block 1 (.seq (.region [⟨some 10, .mv (.s 8), none⟩,
  ⟨some 5, .mv (.s 10), none⟩] [0, 1, 5, 7, 8])
 (.seq (.region [⟨some 11, .mv (.s 1), none⟩,
  ⟨some 12, .mv (.s 0), none⟩,
  ⟨some 13, .mv (.s 5), none⟩,
  ⟨some 14, .indexSl (.s 12) (.s 13) 1, none⟩,
  ⟨some 15, .load 1 false (.s 14) 0 true, none⟩,
  ⟨some 16, .bin .eql (.s 11) (.s 15), none⟩] [0, 1, 5, 7, 8, 16])
 (.cond (.s 16) (.seq (.region [⟨some 17, .mv (.s 5), none⟩,
  ⟨some 4, .mv (.s 17), none⟩] [4])
 .ret)
 .skip))))
 (.region [⟨some 18, .bin .add (.s 8) (.c (.int .i64 1)), none⟩,
  ⟨some 8, .mv (.s 18), none⟩] [0, 1, 7, 8])))))))
 (.seq (.region [⟨some 4, .mv (.c (.int .i64 (-1))), none⟩] [4])
 .ret))) }

/-- slices.pdqsortCmpFunc[api.Row] -/
def g98 : GFun :=
 { nparams := 5, keepHeap := false, results := [], body :=
 (.seq (.region [⟨some 10, .mv (.c (.bool true)), none⟩] [0, 1, 2, 3, 4, 10])
 (.seq (.region [⟨some 11, .mv (.c (.bool true)), none⟩] [0, 1, 2, 3, 4, 10, 11])
 (.block 0 (.loop [0, 1, 2, 3, 4, 10, 11] (.block 1 (.seq (.region [⟨some 21, .mv (.s 2), none⟩,
  ⟨some 22, .mv (.s 1), none⟩,
  ⟨some 23, .bin .sub (.s 21) (.s 22), none⟩,
  ⟨some 12, .mv (.s 23), none⟩] [0, 1, 2, 3, 4, 10, 11, 12])
 (.seq (.seq (.region [⟨some 24, .mv (.s 12), none⟩,
  ⟨some 25, .bin .leq (.s 24) (.c (.int .i64 12)), none⟩] [0, 1, 2, 3, 4, 10, 11, 12, 25])
 (.cond (.s 25) (.seq (.region [⟨some 26, .mv (.s 0), none⟩,
  ⟨some 27, .mv (.s 1), none⟩,
  ⟨some 28, .mv (.s 2), none⟩,
  ⟨some 29, .mv (.s 4), none⟩,
  ⟨some 30, .call (.fn 121) [(.s 26), (.s 27), (.s 28), (.s 29)] false, none⟩] [])
 .ret)
 .skip))
 (.seq (.seq (.region [⟨some 31, .mv (.s 3), none⟩,
  ⟨some 32, .bin .eql (.s 31) (.c (.int .i64 0)), none⟩] [0, 1, 2, 3, 4, 10, 11, 12, 32])
 (.cond (.s 32) (.seq (.region [⟨some 33, .mv (.s 0), none⟩,
  ⟨some 34, .mv (.s 1), none⟩,
  ⟨some 35, .mv (.s 2), none⟩,
  ⟨some 36, .mv (.s 4), none⟩,
  ⟨some 37, .call (.fn 122) [(.s 33), (.s 34), (.s 35), (.s 36)] false, none⟩] [])
 .ret)
 .skip))
 (.seq (.seq (.region [⟨some 38, .mv (.s 10), none⟩,
  ⟨some 39, .un .not (.s 38), none⟩] [0, 1, 2, 3, 4, 10, 11, 12, 39])
 (.cond (.s 39) (.seq (.region [⟨some 40, .mv (.s 0), none⟩,
  ⟨some 41, .mv (.s 1), none⟩,
  ⟨some 42, .mv (.s 2), none⟩,
  ⟨some 43, .mv (.s 4), none⟩,
  ⟨some 44, .call (.fn 123) [(.s 40), (.s 41), (.s 42), (.s 43)] false, none⟩] [0, 1, 2, 3, 4, 10, 11, 12])
 (.region [⟨some 45, .mv (.s 3), none⟩,
  ⟨some 46, .bin .sub (.s 45) (.c (.int .i64 1)), none⟩,
  ⟨some 3, .mv (.s 46), none⟩] [0, 1, 2, 3, 4, 10, 11, 12]))
 .skip))
 (.seq (.region [⟨some 48, .mv (.s 0), none⟩,
  ⟨some 49, .mv (.s 1), none⟩,
  ⟨some 50, .mv (.s 2), none⟩,
  ⟨some 51, .mv (.s 4), none⟩,
  ⟨some 52, .call (.fn 124) [(.s 48), (.s 49), (.s 50), (.s 51)] false, none⟩,
  ⟨some 47, .mv (.s 52), none⟩,
  ⟨some 53, .extract (.s 47) 0, none⟩,
  ⟨some 54, .extract (.s 47) 1, none⟩,
  ⟨some 13, .mv (.s 53), none⟩,
  ⟨some 14, .mv (.s 54), none⟩] [0, 1, 2, 3, 4, 10, 11, 12, 13, 14])
 (.seq (.seq (.region [⟨some 55, .mv (.s 14), none⟩,
  ⟨some 56, .bin .eql (.s 55) (.c (.int .i64 2)), none⟩] [0, 1, 2, 3, 4, 10, 11, 12, 13, 14, 56])
 (.cond (.s 56) (.seq (.region [⟨some 57, .mv (.s 0), none⟩,
  ⟨some 58, .mv (.s 1), none⟩,
  ⟨some 59, .mv (.s 2), none⟩,
  ⟨some 60, .mv (.s 4), none⟩,
  ⟨some 61, .call (.fn 125) [(.s 57), (.s 58), (.s 59), (.s 60)] false, none⟩] [0, 1, 2, 3, 4, 10, 11, 12, 13])
 (.seq (.region [⟨some 62, .mv (.s 2), none⟩,
  ⟨some 63, .bin .sub (.s 62) (.c (.int .i64 1)), none⟩,
  ⟨some 64, .mv (.s 13), none⟩,
  ⟨some 65, .mv (.s 1), none⟩,
  ⟨some 66, .bin .sub (.s 64) (.s 65), none⟩,
  ⟨some 67, .bin .sub (.s 63) (.s 66), none⟩,
  ⟨some 13, .mv (.s 67), none⟩] [0, 1, 2, 3, 4, 10, 11, 12, 13])
 (.region [⟨some 14, .mv (.c (.int .i64 1)), none⟩] [0, 1, 2, 3, 4, 10, 11, 12, 13, 14])))
 .skip))
 (.seq (.seq (.region [⟨some 68, .mv (.s 10), none⟩,
  ⟨some 69, .mv (.s 68), none⟩,
  ⟨some 70, .mv (.s 11), some (69, true)⟩,
  ⟨some 71, .pick (.s 69) (.s 70) (.c (.bool false)), none⟩,
  ⟨some 72, .mv (.s 71), none⟩,
  ⟨some 73, .mv (.s 14), some (72, true)⟩,
  ⟨some 74, .bin .eql (.s 73) (.c (.int .i64 1)), some (72, true)⟩,
  ⟨some 75, .pick (.s 72) (.s 74) (.c (.bool false)), none⟩] [0, 1, 2, 3, 4, 10, 11, 12, 13, 75])
 (.cond (.s 75) (.seq (.region [⟨some 76, .mv (.s 0), none⟩,
  ⟨some 77, .mv (.s 1), none⟩,
  ⟨some 78, .mv (.s 2), none⟩,
  ⟨some 79, .mv (.s 4), none⟩,
  ⟨some 80, .call (.fn 126) [(.s 76), (.s 77), (.s 78), (.s 79)] false, none⟩] [0, 1, 2, 3, 4, 10, 11, 12, 13, 80])
 (.cond (.s 80) .ret
 .skip))
 .skip))
 (.seq (.seq (.region [⟨some 81, .mv (.s 1), none⟩,
  ⟨some 82, .bin .gtr (.s 81) (.c (.int .i64 0)), none⟩,
  ⟨some 83, .mv (.s 82), none⟩,
  ⟨some 84, .mv (.s 4), some (83, true)⟩,
  ⟨some 85, .mv (.s 0), some (83, true)⟩,
  ⟨some 86, .mv (.s 1), some (83, true)⟩,
  ⟨some 87, .bin .sub (.s 86) (.c (.int .i64 1)), some (83, true)⟩,
  ⟨some 88, .indexSl (.s 85) (.s 87) 1, some (83, true)⟩,
  ⟨some 89, .load 1 false (.s 88) 0 true, some (83, true)⟩,
  ⟨some 90, .mv (.s 0), some (83, true)⟩,
  ⟨some 91, .mv (.s 13), some (83, true)⟩,
  ⟨some 92, .indexSl (.s 90) (.s 91) 1, some (83, true)⟩,
  ⟨some 93, .load 1 false (.s 92) 0 true, some (83, true)⟩,
  ⟨some 94, .call (.val (.s 84)) [(.s 89), (.s 93)] false, some (83, true)⟩,
  ⟨some 95, .bin .lss (.s 94) (.c (.int .i64 0)), some (83, true)⟩,
  ⟨some 96, .un .not (.s 95), some (83, true)⟩,
  ⟨some 97, .pick (.s 83) (.s 96) (.c (.bool false)), none⟩] [0, 1, 2, 3, 4, 10, 11, 12, 13, 97])
 (.cond (.s 97) (.seq (.region [⟨some 98, .mv (.s 0), none⟩,
  ⟨some 99, .mv (.s 1), none⟩,
  ⟨some 100, .mv (.s 2), none⟩,
  ⟨some 101, .mv (.s 13), none⟩,
  ⟨some 102, .mv (.s 4), none⟩,
  ⟨some 103, .call (.fn 127) [(.s 98), (.s 99), (.s 100), (.s 101), (.s 102)] false, none⟩,
  ⟨some 15, .mv (.s 103), none⟩] [0, 2, 3, 4, 10, 11, 15])
 (.seq (.region [⟨some 104, .mv (.s 15), none⟩,
  ⟨some 1, .mv (.s 104), none⟩] [0, 1, 2, 3, 4, 10, 11])
 (.exit 1)))
 .skip))
 (.seq (.region [⟨some 106, .mv (.s 0), none⟩,
  ⟨some 107, .mv (.s 1), none⟩,
  ⟨some 108, .mv (.s 2), none⟩,
  ⟨some 109, .mv (.s 13), none⟩,
  ⟨some 110, .mv (.s 4), none⟩,
  ⟨some 111, .call (.fn 128) [(.s 106), (.s 107), (.s 108), (.s 109), (.s 110)] false, none⟩,
  ⟨some 105, .mv (.s 111), none⟩,
  ⟨some 112, .extract (.s 105) 0, none⟩,
  ⟨some 113, .extract (.s 105) 1, none⟩,
  ⟨some 16, .mv (.s 112), none⟩,
  ⟨some 17, .mv (.s 113), none⟩] [0, 1, 2, 3, 4, 12, 16, 17])
 (.seq (.region [⟨some 114, .mv (.s 17), none⟩,
  ⟨some 11, .mv (.s 114), none⟩] [0, 1, 2, 3, 4, 11, 12, 16])
 (.seq (.region [⟨some 115, .mv (.s 16), none⟩,
  ⟨some 116, .mv (.s 1), none⟩,
  ⟨some 117, .bin .sub (.s 115) (.s 116), none⟩,
  ⟨some 118, .mv (.s 2), none⟩,
  ⟨some 119, .mv (.s 16), none⟩,
  ⟨some 120, .bin .sub (.s 118) (.s 119), none⟩,
  ⟨some 18, .mv (.s 117), none⟩,
  ⟨some 19, .mv (.s 120), none⟩] [0, 1, 2, 3, 4, 11, 12, 16, 18, 19])
 (.seq (.region [⟨some 121, .mv (.s 12), none⟩,
  ⟨some 122, .bin .quo (.s 121) (.c (.int .i64 8)), none⟩,
  ⟨some 20, .mv (.s 122), none⟩] [0, 1, 2, 3, 4, 11, 16, 18, 19, 20])
 (.seq (.region [⟨some 123, .mv (.s 18), none⟩,
  ⟨some 124, .mv (.s 19), none⟩,
  ⟨some 125, .bin .lss (.s 123) (.s 124), none⟩] [0, 1, 2, 3, 4, 11, 16, 18, 19, 20, 125])
 (.cond (.s 125) (.seq (.region [⟨some 126, .mv (.s 18), none⟩,
  ⟨some 127, .mv (.s 20), none⟩,
  ⟨some 128, .bin .geq (.s 126) (.s 127), none⟩,
  ⟨some 10, .mv (.s 128), none⟩] [0, 1, 2, 3, 4, 10, 11, 16])
 (.seq (.region [⟨some 129, .mv (.s 0), none⟩,
  ⟨some 130, .mv (.s 1), none⟩,
  ⟨some 131, .mv (.s 16), none⟩,
  ⟨some 132, .mv (.s 3), none⟩,
  ⟨some 133, .mv (.s 4), none⟩,
  ⟨some 134, .call (.fn 98) [(.s 129), (.s 130), (.s 131), (.s 132), (.s 133)] false, none⟩] [0, 2, 3, 4, 10, 11, 16])
 (.region [⟨some 135, .mv (.s 16), none⟩,
  ⟨some 136, .bin .add (.s 135) (.c (.int .i64 1)), none⟩,
  ⟨some 1, .mv (.s 136), none⟩] [0, 1, 2, 3, 4, 10, 11])))
 (.seq (.region [⟨some 137, .mv (.s 19), none⟩,
  ⟨some 138, .mv (.s 20), none⟩,
  ⟨some 139, .bin .geq (.s 137) (.s 138), none⟩,
  ⟨some 10, .mv (.s 139), none⟩] [0, 1, 2, 3, 4, 10, 11, 16])
 (.seq (.region [⟨some 140, .mv (.s 0), none⟩,
  ⟨some 141, .mv (.s 16), none⟩,
  ⟨some 142, .bin .add (.s 141) (.c (.int .i64 1)), none⟩,
  ⟨some 143, .mv (.s 2), none⟩,
  ⟨some 144, .mv (.s 3), none⟩,
  ⟨some 145, .mv (.s 4), none⟩,
  ⟨some 146, .call (.fn 98) [(.s 140), (.s 142), (.s 143), (.s 144), (.s 145)] false, none⟩] [0, 1, 3, 4, 10, 11, 16])
 (.region [⟨some 147, .mv (.s 16), none⟩,
  ⟨some 2, .mv (.s 147), none⟩] [0, 1, 2, 3, 4, 10, 11])))))))))))))))))))))) }

/-- (query.node).leaf -/
def g99 : GFun :=
 { nparams := 1, keepHeap := false, results := [.inl 2, .inl 3], body :=
 (.seq (.region [⟨some 1, .box (.s 0), none⟩,
  ⟨some 2, .mv (.c (.sl 0 true .exact [])), none⟩,
  ⟨some 3, .mv (.c (.int .i64 0)), none⟩] [1])
 (.seq (.region [⟨some 4, .fieldAddr (.s 1) 0, none⟩,
  ⟨some 5, .load 2 true (.s 4) 1 false, none⟩,
  ⟨some 6, .fieldAddr (.s 1) 2, none⟩,
  ⟨some 7, .load 1 false (.s 6) 1 false, none⟩,
  ⟨some 8, .fieldAddr (.s 1) 3, none⟩,
  ⟨some 9, .load 22 true (.s 8) 1 false, none⟩,
  ⟨some 10, .call (.fn 129) [(.s 5), (.s 7), (.s 9), (.c (.sl 0 true .exact [])), (.c (.sl 0 true .exact [])), (.c (.int .i64 100))] false, none⟩,
  ⟨some 11, .extract (.s 10) 0, none⟩,
  ⟨some 12, .extract (.s 10) 1, none⟩,
  ⟨some 2, .mv (.s 11), none⟩,
  ⟨some 3, .mv (.s 12), none⟩] [2, 3])
 .ret)) }

/-- query.walk$1 -/
def g102 : GFun :=
 { nparams := 2, keepHeap := true, results := [], body :=
 (.region [⟨some 3, .load 21 true (.s 1) 0 true, none⟩,
  ⟨some 4, .mv (.s 0), none⟩,
  ⟨some 5, .call (.fn 103) [(.s 3), (.s 4)] false, none⟩] []) }

/-- query.visit -/
def g103 : GFun :=
 { nparams := 2, keepHeap := true, results := [.inl 4], body :=
 (.seq (.region [⟨some 2, .box (.s 0), none⟩,
  ⟨some 4, .mv (.c (.bool false)), none⟩] [1, 2])
 (.seq (.seq (.region [⟨some 7, .fieldAddr (.s 2) 20, none⟩,
  ⟨some 8, .load 1 false (.s 7) 2 false, none⟩,
  ⟨some 9, .len (.s 8) .l false, none⟩,
  ⟨some 10, .mv (.c (.int .i64 0)), none⟩] [1, 2, 8, 9, 10])
 (.block 0 (.loop [1, 2, 8, 9, 10] (.seq (.region [⟨some 11, .bin .lss (.s 10) (.s 9), none⟩] [1, 2, 8, 9, 10, 11])
 (.seq (.cond (.s 11) .skip
 (.exit 0))
 (.seq (.block 1 (.seq (.region [⟨some 12, .indexSl (.s 8) (.s 10) 21, none⟩,
  ⟨some 13, .load 21 true (.s 12) 0 true, none⟩,
  ⟨some 6, .alloc [.int .i64 0, .int .i64 0, .int .i64 0, .int .i64 0, .int .i64 0, .int .i64 0, .int .i64 0, .int .i64 0, .str [], .int .i64 0, .int .i64 0, .int .i64 0, .int .i64 0, .str [], .sl 0 true .exact [], .sl 0 true .exact [], .sl 0 true .exact [], .sl 0 true .exact [], .sl 0 true .exact [], .int .i64 0, .sl 0 true .exact []], none⟩,
  ⟨none, .store 21 (.s 6) (.s 13) 6 false, none⟩] [1, 2, 6, 8, 9, 10])
 (.seq (.region [⟨some 14, .load 21 true (.s 6) 6 false, none⟩,
  ⟨some 15, .mv (.s 1), none⟩,
  ⟨some 16, .call (.fn 103) [(.s 14), (.s 15)] false, none⟩,
  ⟨some 17, .un .not (.s 16), none⟩] [1, 2, 8, 9, 10, 17])
 (.cond (.s 17) (.seq (.region [⟨some 4, .mv (.c (.bool false)), none⟩] [4])
 .ret)
 .skip))))
 (.region [⟨some 18, .bin .add (.s 10) (.c (.int .i64 1)), none⟩,
  ⟨some 10, .mv (.s 18), none⟩] [1, 2, 8, 9, 10])))))))
 (.seq (.region [⟨some 19, .mv (.s 1), none⟩,
  ⟨some 20, .load 21 true (.s 2) 2 false, none⟩,
  ⟨some 21, .call (.val (.s 19)) [(.s 20)] false, none⟩,
  ⟨some 4, .mv (.s 21), none⟩] [4])
 .ret))) }

/-- evaluate.operators$1 -/
def g104 : GFun :=
 { nparams := 3, keepHeap := false, results := [.inl 6], body :=
 (.seq (.region [⟨some 3, .box (.s 0), none⟩,
  ⟨some 6, .mv (.c (.sl 0 true .exact [])), none⟩] [1])
 (.seq (.region [⟨some 7, .mv (.s 1), none⟩,
  ⟨some 8, .call (.fn 105) [(.s 7)] false, none⟩,
  ⟨some 9, .call (.fn 47) [(.s 8)] false, none⟩,
  ⟨some 6, .mv (.s 9), none⟩] [6])
 .ret)) }

/-- evaluate.list -/
def g105 : GFun :=
 { nparams := 1, keepHeap := false, results := [.inl 2], body :=
 (.seq (.region [⟨some 2, .mv (.c (.sl 0 true .exact [])), none⟩] [0, 2])
 (.seq (.region [⟨some 3, .halloc [.sl 0 true .exact []], none⟩] [0, 2, 3])
 (.seq (.seq (.region [⟨some 5, .mv (.s 0), none⟩] [2, 3, 5])
 (.block 0 (.rangeFunc (.s 5) [6] (.region [⟨some 4, .mv (.s 6), none⟩] [3, 4]) (.block 1 (.region [⟨some 7, .loadTake (.s 3) 0 true, none⟩,
  ⟨some 8, .mv (.s 4), none⟩,
  ⟨some 9, .bsl 1 1 [.sl 0 true .exact []] [(0, (.s 8))] false, none⟩,
  ⟨some 10, .append (.s 7) (.s 9) 1 24 false false, none⟩,
  ⟨none, .storeTake (.s 3) 10 0 true, none⟩] [])))))
 (.seq (.region [⟨some 11, .load 1 false (.s 3) 0 true, none⟩,
  ⟨some 2, .mv (.s 11), none⟩] [2])
 .ret)))) }

/-- evaluate.each$1 -/
def g110 : GFun :=
 { nparams := 2, keepHeap := false, results := [], body :=
 (.seq (.region [⟨some 5, .load 1 false (.s 1) 0 true, none⟩,
  ⟨some 6, .len (.s 5) .l false, none⟩,
  ⟨some 7, .mv (.c (.int .i64 0)), none⟩] [0, 5, 6, 7])
 (.block 0 (.loop [0, 5, 6, 7] (.seq (.region [⟨some 8, .bin .lss (.s 7) (.s 6), none⟩] [0, 5, 6, 7, 8])
 (.seq (.cond (.s 8) .skip
 (.exit 0))
 (.seq (.block 1 (.seq (.region [⟨some 9, .indexSl (.s 5) (.s 7) 1, none⟩,
  ⟨some 10, .load 1 false (.s 9) 0 true, none⟩,
  ⟨some 4, .mv (.s 10), none⟩] [0, 4, 5, 6, 7])
 (.seq (.region [⟨some 11, .mv (.s 0), none⟩,
  ⟨some 12, .mv (.s 4), none⟩,
  ⟨some 13, .call (.val (.s 11)) [(.s 12)] false, none⟩,
  ⟨some 14, .un .not (.s 13), none⟩] [0, 5, 6, 7, 14])
 (.cond (.s 14) .ret
 .skip))))
 (.region [⟨some 15, .bin .add (.s 7) (.c (.int .i64 1)), none⟩,
  ⟨some 7, .mv (.s 15), none⟩] [0, 5, 6, 7]))))))) }

/-- (*procedure.run).denote -/
def g111 : GFun :=
 { nparams := 3, keepHeap := false, results := [.inr (6, 3, true)], body :=
 (.seq (.region [⟨some 4, .box (.s 1), none⟩,
  ⟨some 6, .alloc [.int .i64 0, .int .i64 0, .str []], none⟩] [0, 2, 4, 6])
 (.seq (.seq (.region [⟨some 7, .fieldAddr (.s 4) 0, none⟩,
  ⟨some 8, .load 1 false (.s 7) 4 false, none⟩] [0, 2, 4, 6, 8])
 (.block 0 (.seq (.region [⟨some 10, .bin .eql (.s 8) (.c (.int .i64 1)), none⟩,
  ⟨some 9, .mv (.s 10), none⟩] [0, 2, 4, 6, 8, 9])
 (.cond (.s 9) (.seq (.region [⟨some 11, .mv (.s 2), none⟩,
  ⟨some 12, .fieldAddr (.s 4) 1, none⟩,
  ⟨some 13, .load 1 false (.s 12) 4 false, none⟩,
  ⟨some 14, .indexSl (.s 11) (.s 13) 3, none⟩,
  ⟨some 15, .load 3 true (.s 14) 0 true, none⟩,
  ⟨none, .store 3 (.s 6) (.s 15) 6 false, none⟩] [6])
 .ret)
 (.seq (.region [⟨some 17, .bin .eql (.s 8) (.c (.int .i64 2)), none⟩,
  ⟨some 16, .mv (.s 17), none⟩] [0, 4, 6, 16])
 (.cond (.s 16) (.seq (.region [⟨some 18, .mv (.s 0), none⟩,
  ⟨some 19, .nilCheck (.s 18), none⟩,
  ⟨some 20, .fieldAddr (.s 19) 2, none⟩,
  ⟨some 21, .load 1 false (.s 20) 0 true, none⟩,
  ⟨some 22, .fieldAddr (.s 4) 1, none⟩,
  ⟨some 23, .load 1 false (.s 22) 4 false, none⟩,
  ⟨some 24, .indexSl (.s 21) (.s 23) 3, none⟩,
  ⟨some 25, .load 3 true (.s 24) 0 true, none⟩,
  ⟨none, .store 3 (.s 6) (.s 25) 6 false, none⟩] [6])
 .ret)
 .skip))))))
 (.seq (.region [⟨some 26, .fieldAddr (.s 4) 2, none⟩,
  ⟨some 27, .load 3 true (.s 26) 4 false, none⟩,
  ⟨none, .store 3 (.s 6) (.s 27) 6 false, none⟩] [6])
 .ret))) }

/-- procedure.operandKind$1 -/
def g117 : GFun :=
 { nparams := 2, keepHeap := false, results := [.inl 3], body :=
 (.seq (.region [⟨some 3, .mv (.c (.int .i64 0)), none⟩] [0, 1])
 (.seq (.seq (.region [⟨some 4, .fieldAddr (.s 1) 1, none⟩,
  ⟨some 5, .load 1 false (.s 4) 0 true, none⟩,
  ⟨some 6, .bin .lss (.s 5) (.c (.int .i64 0)), none⟩,
  ⟨some 7, .mv (.s 6), none⟩,
  ⟨some 8, .fieldAddr (.s 1) 1, some (7, false)⟩,
  ⟨some 9, .load 1 false (.s 8) 0 true, some (7, false)⟩,
  ⟨some 10, .mv (.s 0), some (7, false)⟩,
  ⟨some 11, .len (.s 10) .l false, some (7, false)⟩,
  ⟨some 12, .bin .geq (.s 9) (.s 11), some (7, false)⟩,
  ⟨some 13, .pick (.s 7) (.c (.bool true)) (.s 12), none⟩,
  ⟨some 14, .mv (.s 13), none⟩,
  ⟨some 15, .fieldAddr (.s 1) 2, some (14, false)⟩,
  ⟨some 16, .load 3 true (.s 15) 0 true, some (14, false)⟩,
  ⟨some 17, .build [.int .i64 0, .int .i64 0, .str []] [], some (14, false)⟩,
  ⟨some 18, .eqv true true [.i, .i, .s] (.s 16) (.s 17), some (14, false)⟩,
  ⟨some 19, .pick (.s 14) (.c (.bool true)) (.s 18), none⟩] [0, 1, 19])
 (.cond (.s 19) (.seq (.region [⟨some 3, .mv (.c (.int .i64 0)), none⟩] [3])
 .ret)
 .skip))
 (.seq (.region [⟨some 20, .mv (.s 0), none⟩,
  ⟨some 21, .fieldAddr (.s 1) 1, none⟩,
  ⟨some 22, .load 1 false (.s 21) 0 true, none⟩,
  ⟨some 23, .indexSl (.s 20) (.s 22) 1, none⟩,
  ⟨some 24, .load 1 false (.s 23) 0 true, none⟩,
  ⟨some 3, .mv (.s 24), none⟩] [3])
 .ret))) }

/-- slices.pdqsortOrdered[int] -/
def g118 : GFun :=
 { nparams := 4, keepHeap := false, results := [], body :=
 (.seq (.region [⟨some 8, .mv (.c (.bool true)), none⟩] [0, 1, 2, 3, 8])
 (.seq (.region [⟨some 9, .mv (.c (.bool true)), none⟩] [0, 1, 2, 3, 8, 9])
 (.block 0 (.loop [0, 1, 2, 3, 8, 9] (.block 1 (.seq (.region [⟨some 19, .mv (.s 2), none⟩,
  ⟨some 20, .mv (.s 1), none⟩,
  ⟨some 21, .bin .sub (.s 19) (.s 20), none⟩,
  ⟨some 10, .mv (.s 21), none⟩] [0, 1, 2, 3, 8, 9, 10])
 (.seq (.seq (.region [⟨some 22, .mv (.s 10), none⟩,
  ⟨some 23, .bin .leq (.s 22) (.c (.int .i64 12)), none⟩] [0, 1, 2, 3, 8, 9, 10, 23])
 (.cond (.s 23) (.seq (.region [⟨some 24, .mv (.s 0), none⟩,
  ⟨some 25, .mv (.s 1), none⟩,
  ⟨some 26, .mv (.s 2), none⟩,
  ⟨some 27, .call (.fn 140) [(.s 24), (.s 25), (.s 26)] false, none⟩] [])
 .ret)
 .skip))
 (.seq (.seq (.region [⟨some 28, .mv (.s 3), none⟩,
  ⟨some 29, .bin .eql (.s 28) (.c (.int .i64 0)), none⟩] [0, 1, 2, 3, 8, 9, 10, 29])
 (.cond (.s 29) (.seq (.region [⟨some 30, .mv (.s 0), none⟩,
  ⟨some 31, .mv (.s 1), none⟩,
  ⟨some 32, .mv (.s 2), none⟩,
  ⟨some 33, .call (.fn 141) [(.s 30), (.s 31), (.s 32)] false, none⟩] [])
 .ret)
 .skip))
 (.seq (.seq (.region [⟨some 34, .mv (.s 8), none⟩,
  ⟨some 35, .un .not (.s 34), none⟩] [0, 1, 2, 3, 8, 9, 10, 35])
 (.cond (.s 35) (.seq (.region [⟨some 36, .mv (.s 0), none⟩,
  ⟨some 37, .mv (.s 1), none⟩,
  ⟨some 38, .mv (.s 2), none⟩,
  ⟨some 39, .call (.fn 142) [(.s 36), (.s 37), (.s 38)] false, none⟩] [0, 1, 2, 3, 8, 9, 10])
 (.region [⟨some 40, .mv (.s 3), none⟩,
  ⟨some 41, .bin .sub (.s 40) (.c (.int .i64 1)), none⟩,
  ⟨some 3, .mv (.s 41), none⟩] [0, 1, 2, 3, 8, 9, 10]))
 .skip))
 (.seq (.region [⟨some 43, .mv (.s 0), none⟩,
  ⟨some 44, .mv (.s 1), none⟩,
  ⟨some 45, .mv (.s 2), none⟩,
  ⟨some 46, .call (.fn 143) [(.s 43), (.s 44), (.s 45)] false, none⟩,
  ⟨some 42, .mv (.s 46), none⟩,
  ⟨some 47, .extract (.s 42) 0, none⟩,
  ⟨some 48, .extract (.s 42) 1, none⟩,
  ⟨some 11, .mv (.s 47), none⟩,
  ⟨some 12, .mv (.s 48), none⟩] [0, 1, 2, 3, 8, 9, 10, 11, 12])
 (.seq (.seq (.region [⟨some 49, .mv (.s 12), none⟩,
  ⟨some 50, .bin .eql (.s 49) (.c (.int .i64 2)), none⟩] [0, 1, 2, 3, 8, 9, 10, 11, 12, 50])
 (.cond (.s 50) (.seq (.region [⟨some 51, .mv (.s 0), none⟩,
  ⟨some 52, .mv (.s 1), none⟩,
  ⟨some 53, .mv (.s 2), none⟩,
  ⟨some 54, .call (.fn 144) [(.s 51), (.s 52), (.s 53)] false, none⟩] [0, 1, 2, 3, 8, 9, 10, 11])
 (.seq (.region [⟨some 55, .mv (.s 2), none⟩,
  ⟨some 56, .bin .sub (.s 55) (.c (.int .i64 1)), none⟩,
  ⟨some 57, .mv (.s 11), none⟩,
  ⟨some 58, .mv (.s 1), none⟩,
  ⟨some 59, .bin .sub (.s 57) (.s 58), none⟩,
  ⟨some 60, .bin .sub (.s 56) (.s 59), none⟩,
  ⟨some 11, .mv (.s 60), none⟩] [0, 1, 2, 3, 8, 9, 10, 11])
 (.region [⟨some 12, .mv (.c (.int .i64 1)), none⟩] [0, 1, 2, 3, 8, 9, 10, 11, 12])))
 .skip))
 (.seq (.seq (.region [⟨some 61, .mv (.s 8), none⟩,
  ⟨some 62, .mv (.s 61), none⟩,
  ⟨some 63, .mv (.s 9), some (62, true)⟩,
  ⟨some 64, .pick (.s 62) (.s 63) (.c (.bool false)), none⟩,
  ⟨some 65, .mv (.s 64), none⟩,
  ⟨some 66, .mv (.s 12), some (65, true)⟩,
  ⟨some 67, .bin .eql (.s 66) (.c (.int .i64 1)), some (65, true)⟩,
  ⟨some 68, .pick (.s 65) (.s 67) (.c (.bool false)), none⟩] [0, 1, 2, 3, 8, 9, 10, 11, 68])
 (.cond (.s 68) (.seq (.region [⟨some 69, .mv (.s 0), none⟩,
  ⟨some 70, .mv (.s 1), none⟩,
  ⟨some 71, .mv (.s 2), none⟩,
  ⟨some 72, .call (.fn 145) [(.s 69), (.s 70), (.s 71)] false, none⟩] [0, 1, 2, 3, 8, 9, 10, 11, 72])
 (.cond (.s 72) .ret
 .skip))
 .skip))
 (.seq (.seq (.region [⟨some 73, .mv (.s 1), none⟩,
  ⟨some 74, .bin .gtr (.s 73) (.c (.int .i64 0)), none⟩,
  ⟨some 75, .mv (.s 74), none⟩,
  ⟨some 76, .mv (.s 0), some (75, true)⟩,
  ⟨some 77, .mv (.s 1), some (75, true)⟩,
  ⟨some 78, .bin .sub (.s 77) (.c (.int .i64 1)), some (75, true)⟩,
  ⟨some 79, .indexSl (.s 76) (.s 78) 1, some (75, true)⟩,
  ⟨some 80, .load 1 false (.s 79) 0 true, some (75, true)⟩,
  ⟨some 81, .mv (.s 0), some (75, true)⟩,
  ⟨some 82, .mv (.s 11), some (75, true)⟩,
  ⟨some 83, .indexSl (.s 81) (.s 82) 1, some (75, true)⟩,
  ⟨some 84, .load 1 false (.s 83) 0 true, some (75, true)⟩,
  ⟨some 85, .call (.fn 146) [(.s 80), (.s 84)] false, some (75, true)⟩,
  ⟨some 86, .un .not (.s 85), some (75, true)⟩,
  ⟨some 87, .pick (.s 75) (.s 86) (.c (.bool false)), none⟩] [0, 1, 2, 3, 8, 9, 10, 11, 87])
 (.cond (.s 87) (.seq (.region [⟨some 88, .mv (.s 0), none⟩,
  ⟨some 89, .mv (.s 1), none⟩,
  ⟨some 90, .mv (.s 2), none⟩,
  ⟨some 91, .mv (.s 11), none⟩,
  ⟨some 92, .call (.fn 147) [(.s 88), (.s 89), (.s 90), (.s 91)] false, none⟩,
  ⟨some 13, .mv (.s 92), none⟩] [0, 2, 3, 8, 9, 13])
 (.seq (.region [⟨some 93, .mv (.s 13), none⟩,
  ⟨some 1, .mv (.s 93), none⟩] [0, 1, 2, 3, 8, 9])
 (.exit 1)))
 .skip))
 (.seq (.region [⟨some 95, .mv (.s 0), none⟩,
  ⟨some 96, .mv (.s 1), none⟩,
  ⟨some 97, .mv (.s 2), none⟩,
  ⟨some 98, .mv (.s 11), none⟩,
  ⟨some 99, .call (.fn 148) [(.s 95), (.s 96), (.s 97), (.s 98)] false, none⟩,
  ⟨some 94, .mv (.s 99), none⟩,
  ⟨some 100, .extract (.s 94) 0, none⟩,
  ⟨some 101, .extract (.s 94) 1, none⟩,
  ⟨some 14, .mv (.s 100), none⟩,
  ⟨some 15, .mv (.s 101), none⟩] [0, 1, 2, 3, 10, 14, 15])
 (.seq (.region [⟨some 102, .mv (.s 15), none⟩,
  ⟨some 9, .mv (.s 102), none⟩] [0, 1, 2, 3, 9, 10, 14])
 (.seq (.region [⟨some 103, .mv (.s 14), none⟩,
  ⟨some 104, .mv (.s 1), none⟩,
  ⟨some 105, .bin .sub (.s 103) (.s 104), none⟩,
  ⟨some 106, .mv (.s 2), none⟩,
  ⟨some 107, .mv (.s 14), none⟩,
  ⟨some 108, .bin .sub (.s 106) (.s 107), none⟩,
  ⟨some 16, .mv (.s 105), none⟩,
  ⟨some 17, .mv (.s 108), none⟩] [0, 1, 2, 3, 9, 10, 14, 16, 17])
 (.seq (.region [⟨some 109, .mv (.s 10), none⟩,
  ⟨some 110, .bin .quo (.s 109) (.c (.int .i64 8)), none⟩,
  ⟨some 18, .mv (.s 110), none⟩] [0, 1, 2, 3, 9, 14, 16, 17, 18])
 (.seq (.region [⟨some 111, .mv (.s 16), none⟩,
  ⟨some 112, .mv (.s 17), none⟩,
  ⟨some 113, .bin .lss (.s 111) (.s 112), none⟩] [0, 1, 2, 3, 9, 14, 16, 17, 18, 113])
 (.cond (.s 113) (.seq (.region [⟨some 114, .mv (.s 16), none⟩,
  ⟨some 115, .mv (.s 18), none⟩,
  ⟨some 116, .bin .geq (.s 114) (.s 115), none⟩,
  ⟨some 8, .mv (.s 116), none⟩] [0, 1, 2, 3, 8, 9, 14])
 (.seq (.region [⟨some 117, .mv (.s 0), none⟩,
  ⟨some 118, .mv (.s 1), none⟩,
  ⟨some 119, .mv (.s 14), none⟩,
  ⟨some 120, .mv (.s 3), none⟩,
  ⟨some 121, .call (.fn 118) [(.s 117), (.s 118), (.s 119), (.s 120)] false, none⟩] [0, 2, 3, 8, 9, 14])
 (.region [⟨some 122, .mv (.s 14), none⟩,
  ⟨some 123, .bin .add (.s 122) (.c (.int .i64 1)), none⟩,
  ⟨some 1, .mv (.s 123), none⟩] [0, 1, 2, 3, 8, 9])))
 (.seq (.region [⟨some 124, .mv (.s 17), none⟩,
  ⟨some 125, .mv (.s 18), none⟩,
  ⟨some 126, .bin .geq (.s 124) (.s 125), none⟩,
  ⟨some 8, .mv (.s 126), none⟩] [0, 1, 2, 3, 8, 9, 14])
 (.seq (.region [⟨some 127, .mv (.s 0), none⟩,
  ⟨some 128, .mv (.s 14), none⟩,
  ⟨some 129, .bin .add (.s 128) (.c (.int .i64 1)), none⟩,
  ⟨some 130, .mv (.s 2), none⟩,
  ⟨some 131, .mv (.s 3), none⟩,
  ⟨some 132, .call (.fn 118) [(.s 127), (.s 129), (.s 130), (.s 131)] false, none⟩] [0, 1, 3, 8, 9, 14])
 (.region [⟨some 133, .mv (.s 14), none⟩,
  ⟨some 2, .mv (.s 133), none⟩] [0, 1, 2, 3, 8, 9])))))))))))))))))))))) }

/-- slices.insertionSortCmpFunc[api.Row] -/
def g121 : GFun :=
 { nparams := 4, keepHeap := false, results := [], body :=
 (.seq (.region [⟨some 10, .mv (.s 1), none⟩,
  ⟨some 11, .bin .add (.s 10) (.c (.int .i64 1)), none⟩,
  ⟨some 8, .mv (.s 11), none⟩] [0, 1, 2, 3, 8])
 (.block 0 (.loop [0, 1, 2, 3, 8] (.seq (.seq (.region [⟨some 12, .mv (.s 8), none⟩,
  ⟨some 13, .mv (.s 2), none⟩,
  ⟨some 14, .bin .lss (.s 12) (.s 13), none⟩] [0, 1, 2, 3, 8, 14])
 (.cond (.s 14) .skip
 (.exit 0)))
 (.seq (.block 1 (.seq (.region [⟨some 17, .mv (.s 8), none⟩,
  ⟨some 9, .mv (.s 17), none⟩] [0, 1, 2, 3, 8, 9])
 (.block 2 (.loop [0, 1, 2, 3, 8, 9] (.seq (.seq (.region [⟨some 18, .mv (.s 9), none⟩,
  ⟨some 19, .mv (.s 1), none⟩,
  ⟨some 20, .bin .gtr (.s 18) (.s 19), none⟩,
  ⟨some 21, .mv (.s 20), none⟩,
  ⟨some 22, .mv (.s 3), some (21, true)⟩,
  ⟨some 23, .mv (.s 0), some (21, true)⟩,
  ⟨some 24, .mv (.s 9), some (21, true)⟩,
  ⟨some 25, .indexSl (.s 23) (.s 24) 1, some (21, true)⟩,
  ⟨some 26, .load 1 false (.s 25) 0 true, some (21, true)⟩,
  ⟨some 27, .mv (.s 0), some (21, true)⟩,
  ⟨some 28, .mv (.s 9), some (21, true)⟩,
  ⟨some 29, .bin .sub (.s 28) (.c (.int .i64 1)), some (21, true)⟩,
  ⟨some 30, .indexSl (.s 27) (.s 29) 1, some (21, true)⟩,
  ⟨some 31, .load 1 false (.s 30) 0 true, some (21, true)⟩,
  ⟨some 32, .call (.val (.s 22)) [(.s 26), (.s 31)] false, some (21, true)⟩,
  ⟨some 33, .bin .lss (.s 32) (.c (.int .i64 0)), some (21, true)⟩,
  ⟨some 34, .pick (.s 21) (.s 33) (.c (.bool false)), none⟩] [0, 1, 2, 3, 8, 9, 34])
 (.cond (.s 34) .skip
 (.exit 2)))
 (.seq (.block 3 (.region [⟨some 37, .mv (.s 0), none⟩,
  ⟨some 38, .mv (.s 9), none⟩,
  ⟨some 39, .mv (.s 0), none⟩,
  ⟨some 40, .mv (.s 9), none⟩,
  ⟨some 41, .bin .sub (.s 40) (.c (.int .i64 1)), none⟩,
  ⟨some 42, .mv (.s 0), none⟩,
  ⟨some 43, .mv (.s 9), none⟩,
  ⟨some 44, .bin .sub (.s 43) (.c (.int .i64 1)), none⟩,
  ⟨some 45, .indexSl (.s 42) (.s 44) 1, none⟩,
  ⟨some 46, .load 1 false (.s 45) 0 true, none⟩,
  ⟨some 47, .mv (.s 0), none⟩,
  ⟨some 48, .mv (.s 9), none⟩,
  ⟨some 49, .indexSl (.s 47) (.s 48) 1, none⟩,
  ⟨some 50, .load 1 false (.s 49) 0 true, none⟩,
  ⟨some 51, .indexSl (.s 37) (.s 38) 1, none⟩,
  ⟨none, .store 1 (.s 51) (.s 46) 0 true, none⟩,
  ⟨some 52, .indexSl (.s 39) (.s 41) 1, none⟩,
  ⟨none, .store 1 (.s 52) (.s 50) 0 true, none⟩] [0, 1, 2, 3, 8, 9]))
 (.region [⟨some 35, .mv (.s 9), none⟩,
  ⟨some 36, .bin .sub (.s 35) (.c (.int .i64 1)), none⟩,
  ⟨some 9, .mv (.s 36), none⟩] [0, 1, 2, 3, 8, 9])))))))
 (.region [⟨some 15, .mv (.s 8), none⟩,
  ⟨some 16, .bin .add (.s 15) (.c (.int .i64 1)), none⟩,
  ⟨some 8, .mv (.s 16), none⟩] [0, 1, 2, 3, 8])))))) }

/-- own.Kinds -/
def g129 : GFun :=
 { nparams := 6, keepHeap := false, results := [.inl 12, .inl 13], body :=
 (.seq (.region [⟨some 6, .box (.s 0), none⟩,
  ⟨some 8, .box (.s 2), none⟩,
  ⟨some 12, .mv (.c (.sl 0 true .exact [])), none⟩,
  ⟨some 13, .mv (.c (.int .i64 0)), none⟩] [1, 3, 4, 5, 6, 8])
 (.seq (.seq (.region [⟨some 18, .fieldAddr (.s 8) 0, none⟩,
  ⟨some 19, .load 1 false (.s 18) 8 false, none⟩,
  ⟨some 20, .call (.fn 76) [(.s 19)] false, none⟩,
  ⟨some 21, .bin .lss (.s 20) (.c (.int .i64 0)), none⟩,
  ⟨some 22, .mv (.s 21), none⟩,
  ⟨some 23, .load 22 true (.s 8) 8 false, some (22, false)⟩,
  ⟨some 24, .call (.fn 152) [(.s 23)] false, some (22, false)⟩,
  ⟨some 25, .un .not (.s 24), some (22, false)⟩,
  ⟨some 26, .pick (.s 22) (.c (.bool true)) (.s 25), none⟩] [1, 3, 4, 5, 6, 8, 26])
 (.cond (.s 26) (.seq (.region [⟨some 27, .mv (.s 5), none⟩,
  ⟨some 12, .mv (.c (.sl 0 true .exact [])), none⟩,
  ⟨some 13, .mv (.s 27), none⟩] [12, 13])
 .ret)
 .skip))
 (.seq (.region [⟨some 28, .mv (.s 3), none⟩,
  ⟨some 29, .call (.fn 54) [(.s 28)] false, none⟩,
  ⟨some 14, .mv (.s 29), none⟩] [1, 3, 4, 5, 6, 8, 14])
 (.seq (.seq (.region [⟨some 30, .fieldAddr (.s 8) 0, none⟩,
  ⟨some 31, .load 1 false (.s 30) 8 false, none⟩] [1, 3, 4, 5, 6, 8, 14, 31])
 (.block 0 (.seq (.region [⟨some 49, .bin .eql (.s 31) (.c (.int .i64 1)), none⟩,
  ⟨some 48, .mv (.s 49), none⟩] [1, 3, 4, 5, 6, 8, 14, 31, 48])
 (.cond (.s 48) (.seq (.seq (.region [⟨some 50, .fieldAddr (.s 8) 1, none⟩,
  ⟨some 51, .load 1 false (.s 50) 8 false, none⟩,
  ⟨some 52, .bin .lss (.s 51) (.c (.int .i64 0)), none⟩,
  ⟨some 53, .mv (.s 52), none⟩,
  ⟨some 54, .fieldAddr (.s 8) 1, some (53, false)⟩,
  ⟨some 55, .load 1 false (.s 54) 8 false, some (53, false)⟩,
  ⟨some 56, .fieldAddr (.s 6) 1, some (53, false)⟩,
  ⟨some 57, .load 1 false (.s 56) 6 false, some (53, false)⟩,
  ⟨some 58, .len (.s 57) .l false, some (53, false)⟩,
  ⟨some 59, .bin .geq (.s 55) (.s 58), some (53, false)⟩,
  ⟨some 60, .pick (.s 53) (.c (.bool true)) (.s 59), none⟩] [5, 6, 8, 60])
 (.cond (.s 60) (.seq (.region [⟨some 61, .mv (.s 5), none⟩,
  ⟨some 12, .mv (.c (.sl 0 true .exact [])), none⟩,
  ⟨some 13, .mv (.s 61), none⟩] [12, 13])
 .ret)
 .skip))
 (.region [⟨some 62, .load 2 true (.s 6) 6 false, none⟩,
  ⟨some 63, .fieldAddr (.s 8) 1, none⟩,
  ⟨some 64, .load 1 false (.s 63) 8 false, none⟩,
  ⟨some 65, .call (.fn 39) [(.s 62), (.s 64)] false, none⟩,
  ⟨some 14, .mv (.s 65), none⟩] [14]))
 (.seq (.region [⟨some 67, .bin .eql (.s 31) (.c (.int .i64 2)), none⟩,
  ⟨some 66, .mv (.s 67), none⟩] [1, 3, 4, 5, 8, 14, 31, 66])
 (.cond (.s 66) (.seq (.region [⟨some 68, .mv (.s 3), none⟩,
  ⟨some 69, .mv (.s 1), none⟩,
  ⟨some 70, .fieldAddr (.s 8) 2, none⟩,
  ⟨some 71, .load 13 true (.s 70) 8 false, none⟩,
  ⟨some 72, .call (.fn 38) [(.s 68), (.s 69), (.s 71)] false, none⟩,
  ⟨some 15, .mv (.s 72), none⟩] [14, 15])
 (.seq (.region [⟨some 73, .mv (.s 15), none⟩,
  ⟨some 74, .bin .neq (.s 73) (.c (.int .i64 0)), none⟩] [14, 15, 74])
 (.cond (.s 74) (.seq (.region [⟨some 75, .mv (.s 15), none⟩,
  ⟨some 12, .mv (.c (.sl 0 true .exact [])), none⟩,
  ⟨some 13, .mv (.s 75), none⟩] [12, 13])
 .ret)
 .skip)))
 (.seq (.region [⟨some 77, .bin .eql (.s 31) (.c (.int .i64 3)), none⟩,
  ⟨some 76, .mv (.s 77), none⟩] [3, 4, 5, 8, 14, 31, 76])
 (.cond (.s 76) (.seq (.seq (.region [⟨some 78, .fieldAddr (.s 8) 15, none⟩,
  ⟨some 79, .load 1 false (.s 78) 8 false, none⟩,
  ⟨some 80, .len (.s 79) .l false, none⟩,
  ⟨some 81, .bin .eql (.s 80) (.c (.int .i64 0)), none⟩] [3, 5, 8, 81])
 (.cond (.s 81) (.seq (.region [⟨some 82, .mv (.s 5), none⟩,
  ⟨some 12, .mv (.c (.sl 0 true .exact [])), none⟩,
  ⟨some 13, .mv (.s 82), none⟩] [12, 13])
 .ret)
 .skip))
 (.seq (.region [⟨some 14, .mv (.c (.sl 0 true .exact [])), none⟩] [3, 5, 8, 14])
 (.seq (.region [⟨some 83, .fieldAddr (.s 8) 15, none⟩,
  ⟨some 84, .load 1 false (.s 83) 8 false, none⟩,
  ⟨some 85, .len (.s 84) .l false, none⟩,
  ⟨some 86, .mv (.c (.int .i64 0)), none⟩] [3, 5, 14, 84, 85, 86])
 (.block 1 (.loop [3, 5, 14, 84, 85, 86] (.seq (.region [⟨some 87, .bin .lss (.s 86) (.s 85), none⟩] [3, 5, 14, 84, 85, 86, 87])
 (.seq (.cond (.s 87) .skip
 (.exit 1))
 (.seq (.block 2 (.seq (.region [⟨some 88, .indexSl (.s 84) (.s 86) 1, none⟩,
  ⟨some 89, .load 1 false (.s 88) 0 true, none⟩,
  ⟨some 17, .mv (.s 89), none⟩] [3, 5, 14, 17, 84, 85, 86])
 (.seq (.seq (.region [⟨some 90, .mv (.s 17), none⟩,
  ⟨some 91, .bin .lss (.s 90) (.c (.int .i64 0)), none⟩,
  ⟨some 92, .mv (.s 91), none⟩,
  ⟨some 93, .mv (.s 17), some (92, false)⟩,
  ⟨some 94, .mv (.s 3), some (92, false)⟩,
  ⟨some 95, .len (.s 94) .l false, some (92, false)⟩,
  ⟨some 96, .bin .geq (.s 93) (.s 95), some (92, false)⟩,
  ⟨some 97, .pick (.s 92) (.c (.bool true)) (.s 96), none⟩] [3, 5, 14, 17, 84, 85, 86, 97])
 (.cond (.s 97) (.seq (.region [⟨some 98, .mv (.s 5), none⟩,
  ⟨some 12, .mv (.c (.sl 0 true .exact [])), none⟩,
  ⟨some 13, .mv (.s 98), none⟩] [12, 13])
 .ret)
 .skip))
 (.region [⟨some 99, .take 14, none⟩,
  ⟨some 100, .mv (.s 3), none⟩,
  ⟨some 101, .mv (.s 17), none⟩,
  ⟨some 102, .indexSl (.s 100) (.s 101) 1, none⟩,
  ⟨some 103, .load 1 false (.s 102) 0 true, none⟩,
  ⟨some 104, .bsl 1 1 [.int .i64 0] [(0, (.s 103))] false, none⟩,
  ⟨some 105, .append (.s 99) (.s 104) 1 8 false false, none⟩,
  ⟨some 14, .take 105, none⟩] [3, 5, 14, 84, 85, 86]))))
 (.region [⟨some 106, .bin .add (.s 86) (.c (.int .i64 1)), none⟩,
  ⟨some 86, .mv (.s 106), none⟩] [3, 5, 14, 84, 85, 86])))))))))
 (.seq (.seq (.region [⟨some 108, .bin .eql (.s 31) (.c (.int .i64 4)), none⟩,
  ⟨some 107, .mv (.s 108), none⟩] [3, 4, 5, 8, 14, 31, 107])
 (.cond (.s 107) .skip
 (.region [⟨some 109, .bin .eql (.s 31) (.c (.int .i64 5)), none⟩,
  ⟨some 107, .mv (.s 109), none⟩] [3, 4, 5, 8, 14, 31, 107])))
 (.cond (.s 107) (.seq (.seq (.region [⟨some 110, .fieldAddr (.s 8) 16, none⟩,
  ⟨some 111, .load 1 false (.s 110) 8 false, none⟩,
  ⟨some 112, .mv (.s 3), none⟩,
  ⟨some 113, .mv (.s 4), none⟩,
  ⟨some 114, .call (.fn 153) [(.s 111), (.s 112), (.s 113)] false, none⟩,
  ⟨some 115, .un .not (.s 114), none⟩] [4, 5, 8, 14, 115])
 (.cond (.s 115) (.seq (.region [⟨some 116, .mv (.s 5), none⟩,
  ⟨some 12, .mv (.c (.sl 0 true .exact [])), none⟩,
  ⟨some 13, .mv (.s 116), none⟩] [12, 13])
 .ret)
 .skip))
 (.seq (.region [⟨some 117, .fieldAddr (.s 8) 0, none⟩,
  ⟨some 118, .load 1 false (.s 117) 8 false, none⟩,
  ⟨some 119, .bin .eql (.s 118) (.c (.int .i64 4)), none⟩] [4, 14, 119])
 (.cond (.s 119) (.region [⟨some 120, .take 14, none⟩,
  ⟨some 121, .mv (.s 4), none⟩,
  ⟨some 122, .append (.s 120) (.s 121) 1 8 false false, none⟩,
  ⟨some 14, .take 122, none⟩] [14])
 .skip)))
 (.seq (.region [⟨some 124, .bin .eql (.s 31) (.c (.int .i64 9)), none⟩,
  ⟨some 123, .mv (.s 124), none⟩] [3, 4, 5, 8, 14, 123])
 (.cond (.s 123) (.seq (.region [⟨some 125, .load 22 true (.s 8) 8 false, none⟩,
  ⟨some 126, .mv (.s 3), none⟩,
  ⟨some 127, .call (.fn 154) [(.s 125), (.s 126)] false, none⟩,
  ⟨some 128, .un .not (.s 127), none⟩] [5, 14, 128])
 (.cond (.s 128) (.seq (.region [⟨some 129, .mv (.s 5), none⟩,
  ⟨some 12, .mv (.c (.sl 0 true .exact [])), none⟩,
  ⟨some 13, .mv (.s 129), none⟩] [12, 13])
 .ret)
 .skip))
 (.seq (.region [⟨some 32, .mv (.s 3), none⟩,
  ⟨some 33, .mv (.s 4), none⟩,
  ⟨some 34, .call (.fn 62) [(.s 32), (.s 33)] false, none⟩,
  ⟨some 35, .un .not (.s 34), none⟩,
  ⟨some 36, .mv (.s 35), none⟩,
  ⟨some 37, .fieldAddr (.s 8) 0, some (36, false)⟩,
  ⟨some 38, .load 1 false (.s 37) 8 false, some (36, false)⟩,
  ⟨some 39, .bin .eql (.s 38) (.c (.int .i64 10)), some (36, false)⟩,
  ⟨some 40, .mv (.s 39), some (36, false)⟩,
  ⟨some 41, .load 22 true (.s 8) 8 false, some (40, true)⟩,
  ⟨some 42, .mv (.s 3), some (40, true)⟩,
  ⟨some 43, .call (.fn 154) [(.s 41), (.s 42)] false, some (40, true)⟩,
  ⟨some 44, .un .not (.s 43), some (40, true)⟩,
  ⟨some 45, .pick (.s 40) (.s 44) (.c (.bool false)), some (36, false)⟩,
  ⟨some 46, .pick (.s 36) (.c (.bool true)) (.s 45), none⟩] [5, 14, 46])
 (.cond (.s 46) (.seq (.region [⟨some 47, .mv (.s 5), none⟩,
  ⟨some 12, .mv (.c (.sl 0 true .exact [])), none⟩,
  ⟨some 13, .mv (.s 47), none⟩] [12, 13])
 .ret)
 .skip))))))))))))))
 (.seq (.seq (.region [⟨some 130, .mv (.s 14), none⟩,
  ⟨some 131, .len (.s 130) .l false, none⟩,
  ⟨some 132, .bin .gtr (.s 131) (.c (.int .i64 12)), none⟩] [14, 132])
 (.cond (.s 132) (.seq (.region [⟨some 12, .mv (.c (.sl 0 true .exact [])), none⟩,
  ⟨some 13, .mv (.c (.int .i64 2)), none⟩] [12, 13])
 .ret)
 .skip))
 (.seq (.region [⟨some 133, .mv (.s 14), none⟩,
  ⟨some 12, .mv (.s 133), none⟩,
  ⟨some 13, .mv (.c (.int .i64 0)), none⟩] [12, 13])
 .ret)))))) }

/-- slices.insertionSortOrdered[int] -/
def g140 : GFun :=
 { nparams := 3, keepHeap := false, results := [], body :=
 (.seq (.region [⟨some 8, .mv (.s 1), none⟩,
  ⟨some 9, .bin .add (.s 8) (.c (.int .i64 1)), none⟩,
  ⟨some 6, .mv (.s 9), none⟩] [0, 1, 2, 6])
 (.block 0 (.loop [0, 1, 2, 6] (.seq (.seq (.region [⟨some 10, .mv (.s 6), none⟩,
  ⟨some 11, .mv (.s 2), none⟩,
  ⟨some 12, .bin .lss (.s 10) (.s 11), none⟩] [0, 1, 2, 6, 12])
 (.cond (.s 12) .skip
 (.exit 0)))
 (.seq (.block 1 (.seq (.region [⟨some 15, .mv (.s 6), none⟩,
  ⟨some 7, .mv (.s 15), none⟩] [0, 1, 2, 6, 7])
 (.block 2 (.loop [0, 1, 2, 6, 7] (.seq (.seq (.region [⟨some 16, .mv (.s 7), none⟩,
  ⟨some 17, .mv (.s 1), none⟩,
  ⟨some 18, .bin .gtr (.s 16) (.s 17), none⟩,
  ⟨some 19, .mv (.s 18), none⟩,
  ⟨some 20, .mv (.s 0), some (19, true)⟩,
  ⟨some 21, .mv (.s 7), some (19, true)⟩,
  ⟨some 22, .indexSl (.s 20) (.s 21) 1, some (19, true)⟩,
  ⟨some 23, .load 1 false (.s 22) 0 true, some (19, true)⟩,
  ⟨some 24, .mv (.s 0), some (19, true)⟩,
  ⟨some 25, .mv (.s 7), some (19, true)⟩,
  ⟨some 26, .bin .sub (.s 25) (.c (.int .i64 1)), some (19, true)⟩,
  ⟨some 27, .indexSl (.s 24) (.s 26) 1, some (19, true)⟩,
  ⟨some 28, .load 1 false (.s 27) 0 true, some (19, true)⟩,
  ⟨some 29, .call (.fn 146) [(.s 23), (.s 28)] false, some (19, true)⟩,
  ⟨some 30, .pick (.s 19) (.s 29) (.c (.bool false)), none⟩] [0, 1, 2, 6, 7, 30])
 (.cond (.s 30) .skip
 (.exit 2)))
 (.seq (.block 3 (.region [⟨some 33, .mv (.s 0), none⟩,
  ⟨some 34, .mv (.s 7), none⟩,
  ⟨some 35, .mv (.s 0), none⟩,
  ⟨some 36, .mv (.s 7), none⟩,
  ⟨some 37, .bin .sub (.s 36) (.c (.int .i64 1)), none⟩,
  ⟨some 38, .mv (.s 0), none⟩,
  ⟨some 39, .mv (.s 7), none⟩,
  ⟨some 40, .bin .sub (.s 39) (.c (.int .i64 1)), none⟩,
  ⟨some 41, .indexSl (.s 38) (.s 40) 1, none⟩,
  ⟨some 42, .load 1 false (.s 41) 0 true, none⟩,
  ⟨some 43, .mv (.s 0), none⟩,
  ⟨some 44, .mv (.s 7), none⟩,
  ⟨some 45, .indexSl (.s 43) (.s 44) 1, none⟩,
  ⟨some 46, .load 1 false (.s 45) 0 true, none⟩,
  ⟨some 47, .indexSl (.s 33) (.s 34) 1, none⟩,
  ⟨none, .store 1 (.s 47) (.s 42) 0 true, none⟩,
  ⟨some 48, .indexSl (.s 35) (.s 37) 1, none⟩,
  ⟨none, .store 1 (.s 48) (.s 46) 0 true, none⟩] [0, 1, 2, 6, 7]))
 (.region [⟨some 31, .mv (.s 7), none⟩,
  ⟨some 32, .bin .sub (.s 31) (.c (.int .i64 1)), none⟩,
  ⟨some 7, .mv (.s 32), none⟩] [0, 1, 2, 6, 7])))))))
 (.region [⟨some 13, .mv (.s 6), none⟩,
  ⟨some 14, .bin .add (.s 13) (.c (.int .i64 1)), none⟩,
  ⟨some 6, .mv (.s 14), none⟩] [0, 1, 2, 6])))))) }

/-- cmp.Less[int] -/
def g146 : GFun :=
 { nparams := 2, keepHeap := false, results := [.inl 4], body :=
 (.seq (.region [⟨some 4, .mv (.c (.bool false)), none⟩] [0, 1])
 (.seq (.region [⟨some 5, .mv (.s 0), none⟩,
  ⟨some 6, .call (.fn 60) [(.s 5)] false, none⟩,
  ⟨some 7, .mv (.s 6), none⟩,
  ⟨some 8, .mv (.s 1), some (7, true)⟩,
  ⟨some 9, .call (.fn 60) [(.s 8)] false, some (7, true)⟩,
  ⟨some 10, .un .not (.s 9), some (7, true)⟩,
  ⟨some 11, .pick (.s 7) (.s 10) (.c (.bool false)), none⟩,
  ⟨some 12, .mv (.s 11), none⟩,
  ⟨some 13, .mv (.s 0), some (12, false)⟩,
  ⟨some 14, .mv (.s 1), some (12, false)⟩,
  ⟨some 15, .bin .lss (.s 13) (.s 14), some (12, false)⟩,
  ⟨some 16, .pick (.s 12) (.c (.bool true)) (.s 15), none⟩,
  ⟨some 4, .mv (.s 16), none⟩] [4])
 .ret)) }

/-- own.Plain -/
def g152 : GFun :=
 { nparams := 1, keepHeap := false, results := [.inl 2], body :=
 (.seq (.region [⟨some 1, .box (.s 0), none⟩,
  ⟨some 2, .mv (.c (.bool false)), none⟩] [1])
 (.seq (.region [⟨some 4, .fieldAddr (.s 1) 0, none⟩,
  ⟨some 5, .load 1 false (.s 4) 1 false, none⟩,
  ⟨some 6, .bin .eql (.s 5) (.c (.int .i64 9)), none⟩,
  ⟨some 7, .mv (.s 6), none⟩,
  ⟨some 8, .fieldAddr (.s 1) 0, some (7, false)⟩,
  ⟨some 9, .load 1 false (.s 8) 1 false, some (7, false)⟩,
  ⟨some 10, .bin .eql (.s 9) (.c (.int .i64 10)), some (7, false)⟩,
  ⟨some 11, .pick (.s 7) (.c (.bool true)) (.s 10), none⟩,
  ⟨some 3, .mv (.s 11), none⟩] [1, 3])
 (.seq (.block 0 (.seq (.seq (.region [⟨some 13, .fieldAddr (.s 1) 0, none⟩,
  ⟨some 14, .load 1 false (.s 13) 1 false, none⟩,
  ⟨some 15, .bin .neq (.s 14) (.c (.int .i64 1)), none⟩,
  ⟨some 16, .mv (.s 15), none⟩,
  ⟨some 17, .fieldAddr (.s 1) 1, some (16, true)⟩,
  ⟨some 18, .load 1 false (.s 17) 1 false, some (16, true)⟩,
  ⟨some 19, .bin .neq (.s 18) (.c (.int .i64 0)), some (16, true)⟩,
  ⟨some 20, .pick (.s 16) (.s 19) (.c (.bool false)), none⟩,
  ⟨some 12, .mv (.s 20), none⟩] [1, 3, 12])
 (.cond (.s 12) .skip
 (.seq (.region [⟨some 21, .fieldAddr (.s 1) 0, none⟩,
  ⟨some 22, .load 1 false (.s 21) 1 false, none⟩,
  ⟨some 23, .bin .neq (.s 22) (.c (.int .i64 2)), none⟩,
  ⟨some 24, .mv (.s 23), none⟩,
  ⟨some 25, .fieldAddr (.s 1) 2, some (24, true)⟩,
  ⟨some 26, .load 13 true (.s 25) 1 false, some (24, true)⟩,
  ⟨some 27, .build [.int .i64 0, .int .i64 0, .int .i64 0, .int .i64 0, .int .i64 0, .int .i64 0, .str [], .int .i64 0, .int .i64 0, .int .i64 0, .int .i64 0, .str [], .sl 0 true .exact []] [], some (24, true)⟩,
  ⟨some 28, .call (.fn 173) [(.s 26), (.s 27)] false, some (24, true)⟩,
  ⟨some 29, .un .not (.s 28), some (24, true)⟩,
  ⟨some 30, .pick (.s 24) (.s 29) (.c (.bool false)), none⟩,
  ⟨some 12, .mv (.s 30), none⟩] [1, 3, 12])
 (.cond (.s 12) .skip
 (.seq (.region [⟨some 31, .fieldAddr (.s 1) 0, none⟩,
  ⟨some 32, .load 1 false (.s 31) 1 false, none⟩,
  ⟨some 33, .bin .neq (.s 32) (.c (.int .i64 3)), none⟩,
  ⟨some 34, .mv (.s 33), none⟩,
  ⟨some 35, .fieldAddr (.s 1) 15, some (34, true)⟩,
  ⟨some 36, .load 1 false (.s 35) 1 false, some (34, true)⟩,
  ⟨some 37, .len (.s 36) .l false, some (34, true)⟩,
  ⟨some 38, .bin .gtr (.s 37) (.c (.int .i64 0)), some (34, true)⟩,
  ⟨some 39, .pick (.s 34) (.s 38) (.c (.bool false)), none⟩,
  ⟨some 12, .mv (.s 39), none⟩] [1, 3, 12])
 (.cond (.s 12) .skip
 (.seq (.region [⟨some 40, .fieldAddr (.s 1) 0, none⟩,
  ⟨some 41, .load 1 false (.s 40) 1 false, none⟩,
  ⟨some 42, .bin .neq (.s 41) (.c (.int .i64 4)), none⟩,
  ⟨some 43, .mv (.s 42), none⟩,
  ⟨some 44, .fieldAddr (.s 1) 0, some (43, true)⟩,
  ⟨some 45, .load 1 false (.s 44) 1 false, some (43, true)⟩,
  ⟨some 46, .bin .neq (.s 45) (.c (.int .i64 5)), some (43, true)⟩,
  ⟨some 47, .pick (.s 43) (.s 46) (.c (.bool false)), none⟩,
  ⟨some 48, .mv (.s 47), none⟩,
  ⟨some 49, .fieldAddr (.s 1) 16, some (48, true)⟩,
  ⟨some 50, .load 1 false (.s 49) 1 false, some (48, true)⟩,
  ⟨some 51, .len (.s 50) .l false, some (48, true)⟩,
  ⟨some 52, .bin .gtr (.s 51) (.c (.int .i64 0)), some (48, true)⟩,
  ⟨some 53, .pick (.s 48) (.s 52) (.c (.bool false)), none⟩,
  ⟨some 12, .mv (.s 53), none⟩] [1, 3, 12])
 (.cond (.s 12) .skip
 (.region [⟨some 54, .mv (.s 3), none⟩,
  ⟨some 55, .un .not (.s 54), none⟩,
  ⟨some 56, .mv (.s 55), none⟩,
  ⟨some 57, .fieldAddr (.s 1) 17, some (56, true)⟩,
  ⟨some 58, .load 1 false (.s 57) 1 false, some (56, true)⟩,
  ⟨some 59, .len (.s 58) .l false, some (56, true)⟩,
  ⟨some 60, .bin .gtr (.s 59) (.c (.int .i64 0)), some (56, true)⟩,
  ⟨some 61, .mv (.s 60), some (56, true)⟩,
  ⟨some 62, .fieldAddr (.s 1) 18, some (61, false)⟩,
  ⟨some 63, .load 1 false (.s 62) 1 false, some (61, false)⟩,
  ⟨some 64, .len (.s 63) .l false, some (61, false)⟩,
  ⟨some 65, .bin .gtr (.s 64) (.c (.int .i64 0)), some (61, false)⟩,
  ⟨some 66, .pick (.s 61) (.c (.bool true)) (.s 65), some (56, true)⟩,
  ⟨some 67, .mv (.s 66), some (56, true)⟩,
  ⟨some 68, .fieldAddr (.s 1) 19, some (67, false)⟩,
  ⟨some 69, .load 1 false (.s 68) 1 false, some (67, false)⟩,
  ⟨some 70, .bin .neq (.s 69) (.c (.int .i64 0)), some (67, false)⟩,
  ⟨some 71, .pick (.s 67) (.c (.bool true)) (.s 70), some (56, true)⟩,
  ⟨some 72, .pick (.s 56) (.s 71) (.c (.bool false)), none⟩,
  ⟨some 12, .mv (.s 72), none⟩] [12])))))))))
 (.cond (.s 12) (.seq (.region [⟨some 2, .mv (.c (.bool false)), none⟩] [2])
 .ret)
 .skip)))
 (.seq (.region [⟨some 2, .mv (.c (.bool true)), none⟩] [2])
 .ret)))) }

/-- predicate.Equal -/
def g173 : GFun :=
 { nparams := 2, keepHeap := false, results := [.inl 4], body :=
 (.seq (.region [⟨some 2, .box (.s 0), none⟩,
  ⟨some 3, .box (.s 1), none⟩,
  ⟨some 4, .mv (.c (.bool false)), none⟩] [2, 3])
 (.seq (.region [⟨some 5, .fieldAddr (.s 2) 0, none⟩,
  ⟨some 6, .load 1 false (.s 5) 2 false, none⟩,
  ⟨some 7, .fieldAddr (.s 3) 0, none⟩,
  ⟨some 8, .load 1 false (.s 7) 3 false, none⟩,
  ⟨some 9, .bin .eql (.s 6) (.s 8), none⟩,
  ⟨some 10, .mv (.s 9), none⟩,
  ⟨some 11, .fieldAddr (.s 2) 1, some (10, true)⟩,
  ⟨some 12, .load 1 false (.s 11) 2 false, some (10, true)⟩,
  ⟨some 13, .fieldAddr (.s 3) 1, some (10, true)⟩,
  ⟨some 14, .load 1 false (.s 13) 3 false, some (10, true)⟩,
  ⟨some 15, .bin .eql (.s 12) (.s 14), some (10, true)⟩,
  ⟨some 16, .pick (.s 10) (.s 15) (.c (.bool false)), none⟩,
  ⟨some 17, .mv (.s 16), none⟩,
  ⟨some 18, .fieldAddr (.s 2) 2, some (17, true)⟩,
  ⟨some 19, .load 5 true (.s 18) 2 false, some (17, true)⟩,
  ⟨some 20, .fieldAddr (.s 3) 2, some (17, true)⟩,
  ⟨some 21, .load 5 true (.s 20) 3 false, some (17, true)⟩,
  ⟨some 22, .eqv false true [.i, .i, .i, .i, .s] (.s 19) (.s 21), some (17, true)⟩,
  ⟨some 23, .pick (.s 17) (.s 22) (.c (.bool false)), none⟩,
  ⟨some 24, .mv (.s 23), none⟩,
  ⟨some 25, .fieldAddr (.s 2) 7, some (24, true)⟩,
  ⟨some 26, .load 5 true (.s 25) 2 false, some (24, true)⟩,
  ⟨some 27, .fieldAddr (.s 3) 7, some (24, true)⟩,
  ⟨some 28, .load 5 true (.s 27) 3 false, some (24, true)⟩,
  ⟨some 29, .eqv false true [.i, .i, .i, .i, .s] (.s 26) (.s 28), some (24, true)⟩,
  ⟨some 30, .pick (.s 24) (.s 29) (.c (.bool false)), none⟩,
  ⟨some 31, .mv (.s 30), none⟩,
  ⟨some 32, .fieldAddr (.s 2) 12, some (31, true)⟩,
  ⟨some 33, .load 1 false (.s 32) 2 false, some (31, true)⟩,
  ⟨some 34, .fieldAddr (.s 3) 12, some (31, true)⟩,
  ⟨some 35, .load 1 false (.s 34) 3 false, some (31, true)⟩,
  ⟨some 36, .call (.fn 180) [(.s 33), (.s 35), (.c (.func (.func 173) [] []))] false, some (31, true)⟩,
  ⟨some 37, .pick (.s 31) (.s 36) (.c (.bool false)), none⟩,
  ⟨some 4, .mv (.s 37), none⟩] [4])
 .ret)) }

/-- slices.EqualFunc[[]api.Predicate,[]api.Predicate,api.Predicate,api.Predicate] -/
def g180 : GFun :=
 { nparams := 3, keepHeap := false, results := [.inl 6], body :=
 (.seq (.region [⟨some 6, .mv (.c (.bool false)), none⟩] [0, 1, 2])
 (.seq (.seq (.region [⟨some 10, .mv (.s 0), none⟩,
  ⟨some 11, .len (.s 10) .l false, none⟩,
  ⟨some 12, .mv (.s 1), none⟩,
  ⟨some 13, .len (.s 12) .l false, none⟩,
  ⟨some 14, .bin .neq (.s 11) (.s 13), none⟩] [0, 1, 2, 14])
 (.cond (.s 14) (.seq (.region [⟨some 6, .mv (.c (.bool false)), none⟩] [6])
 .ret)
 .skip))
 (.seq (.seq (.region [⟨some 15, .mv (.s 0), none⟩,
  ⟨some 16, .len (.s 15) .l false, none⟩,
  ⟨some 17, .mv (.c (.int .i64 0)), none⟩] [1, 2, 15, 16, 17])
 (.block 0 (.loop [1, 2, 15, 16, 17] (.seq (.region [⟨some 18, .bin .lss (.s 17) (.s 16), none⟩] [1, 2, 15, 16, 17, 18])
 (.seq (.cond (.s 18) .skip
 (.exit 0))
 (.seq (.block 1 (.seq (.region [⟨some 19, .mv (.s 17), none⟩,
  ⟨some 20, .indexSl (.s 15) (.s 17) 13, none⟩,
  ⟨some 21, .load 13 true (.s 20) 0 true, none⟩,
  ⟨some 8, .alloc [.int .i64 0, .int .i64 0, .int .i64 0, .int .i64 0, .int .i64 0, .int .i64 0, .str [], .int .i64 0, .int .i64 0, .int .i64 0, .int .i64 0, .str [], .sl 0 true .exact []], none⟩,
  ⟨some 7, .mv (.s 19), none⟩,
  ⟨none, .store 13 (.s 8) (.s 21) 8 false, none⟩] [1, 2, 7, 8, 15, 16, 17])
 (.seq (.region [⟨some 22, .mv (.s 1), none⟩,
  ⟨some 23, .mv (.s 7), none⟩,
  ⟨some 24, .indexSl (.s 22) (.s 23) 13, none⟩,
  ⟨some 25, .load 13 true (.s 24) 0 true, none⟩,
  ⟨some 9, .alloc [.int .i64 0, .int .i64 0, .int .i64 0, .int .i64 0, .int .i64 0, .int .i64 0, .str [], .int .i64 0, .int .i64 0, .int .i64 0, .int .i64 0, .str [], .sl 0 true .exact []], none⟩,
  ⟨none, .store 13 (.s 9) (.s 25) 9 false, none⟩] [1, 2, 8, 9, 15, 16, 17])
 (.seq (.region [⟨some 26, .mv (.s 2), none⟩,
  ⟨some 27, .load 13 true (.s 8) 8 false, none⟩,
  ⟨some 28, .load 13 true (.s 9) 9 false, none⟩,
  ⟨some 29, .call (.val (.s 26)) [(.s 27), (.s 28)] false, none⟩,
  ⟨some 30, .un .not (.s 29), none⟩] [1, 2, 15, 16, 17, 30])
 (.cond (.s 30) (.seq (.region [⟨some 6, .mv (.c (.bool false)), none⟩] [6])
 .ret)
 .skip)))))
 (.region [⟨some 31, .bin .add (.s 17) (.c (.int .i64 1)), none⟩,
  ⟨some 17, .mv (.s 31), none⟩] [1, 2, 15, 16, 17])))))))
 (.seq (.region [⟨some 6, .mv (.c (.bool true)), none⟩] [6])
 .ret)))) }

def funTab : List (Nat × GFun) := [(3, g3), (4, g4), (5, g5), (6, g6), (7, g7), (8, g8), (9, g9), (10, g10), (11, g11), (12, g12), (13, g13), (14, g14), (15, g15), (16, g16), (17, g17), (18, g18), (21, g21), (22, g22), (23, g23), (26, g26), (27, g27), (29, g29), (30, g30), (34, g34), (35, g35), (36, g36), (37, g37), (38, g38), (39, g39), (40, g40), (41, g41), (43, g43), (44, g44), (45, g45), (46, g46), (47, g47), (48, g48), (49, g49), (50, g50), (51, g51), (52, g52), (53, g53), (54, g54), (55, g55), (56, g56), (57, g57), (58, g58), (59, g59), (60, g60), (61, g61), (62, g62), (63, g63), (64, g64), (65, g65), (66, g66), (67, g67), (68, g68), (69, g69), (70, g70), (71, g71), (72, g72), (73, g73), (74, g74), (75, g75), (76, g76), (77, g77), (78, g78), (79, g79), (80, g80), (81, g81), (82, g82), (91, g91), (92, g92), (94, g94), (96, g96), (97, g97), (98, g98), (99, g99), (102, g102), (103, g103), (104, g104), (105, g105), (110, g110), (111, g111), (117, g117), (118, g118), (121, g121), (129, g129), (140, g140), (146, g146), (152, g152), (173, g173), (180, g180)]
def funs (k : Nat) : Option GFun := match funTab.find? (fun p => p.1 == k) with
  | some p => some p.2
  | none => none
end Go.Proofs.YtibhcmacccfakaaGreatDoor
