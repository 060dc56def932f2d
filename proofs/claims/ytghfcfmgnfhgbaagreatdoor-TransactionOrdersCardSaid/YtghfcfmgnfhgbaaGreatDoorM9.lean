/- Runs of the evaluator, carried out by the kernel: the chapter's example. -/
import Derived.Test.YtghfcfmgnfhgbaaGreatDoorM7
import Derived.Test.YtghfcfmgnfhgbaaGreatDoorM3
import Derived.KernelRfl
import Derived.Test.YtghfcfmgnfhgbaaGreatDoorM8
set_option linter.unusedSectionVars false
set_option linter.unusedVariables false
set_option linter.unusedSimpArgs false
namespace Go.Proofs.YtghfcfmgnfhgbaaGreatDoor
set_option maxRecDepth 100000

def projV : GV := .agg [.int .i64 0, .sl 5 false .exact [[.str [112, 114, 111, 106, 101, 99, 116, 115], .sl 2 false .exact [[.str [105, 100], .int .i64 4]], .int .i64 1, .sl 0 true .exact [], .sl 0 true .exact []], [.str [116, 97, 115, 107, 115], .sl 2 false .exact [[.str [105, 100], .int .i64 4], [.str [112, 114, 111, 106, 101, 99, 116], .int .i64 4]], .int .i64 1, .sl 2 false .exact [[.sl 1 false .exact [[.int .i64 1]], .int .i64 0]], .sl 0 true .exact []]]]
theorem runCheck [Tab] : okRun funs [] 22 16 [projV] (.int .i64 0) = true := by kernel_rfl
end Go.Proofs.YtghfcfmgnfhgbaaGreatDoor
namespace Go.Proofs.YtghfcfmgnfhgbaaGreatDoor
set_option maxRecDepth 100000

def K0 : List (Nat × List GV × GV) := [(16, [projV], .int .i64 0)]
def a206 : List GV := [projV, .agg [.sl 1 false .exact [[.sl 1 false .exact [[.sl 3 false .exact [[.int .i64 4, .int .i64 1, .str []]]]]], [.sl 1 false .exact [[.sl 3 false .exact [[.int .i64 4, .int .i64 7, .str []], [.int .i64 4, .int .i64 1, .str []]]]]]]], .sl 3 false .no [[.int .i64 1, .sl 0 true .exact [], .sl 3 false .no [[.int .i64 4, .int .i64 8, .str []], [.int .i64 4, .int .i64 1, .str []]]]]]
def r206 : GV := .tuple [.sl 0 true .exact [], .int .i64 0]
theorem run206 [Tab] : okRun funs K0 22 28 a206 r206 = true := by kernel_rfl
def a136 : List GV := [projV, .agg [.sl 1 false .exact [[.sl 1 false .exact [[.sl 3 false .exact [[.int .i64 4, .int .i64 1, .str []]]]]], [.sl 1 false .exact [[.sl 3 false .exact [[.int .i64 4, .int .i64 7, .str []], [.int .i64 4, .int .i64 1, .str []]]]]]]], .sl 3 false .no [[.int .i64 0, .sl 3 false .no [[.int .i64 4, .int .i64 1, .str []]], .sl 0 true .exact []]]]
def r136 : GV := .tuple [.sl 4 false .no [[.int .i64 1, .int .i64 1, .sl 3 false .no [[.int .i64 4, .int .i64 7, .str []]], .int .i64 0]], .int .i64 0]
theorem run136 [Tab] : okRun funs K0 22 28 a136 r136 = true := by kernel_rfl
def a104 : List GV := [projV, .agg [.sl 1 false .no [[.sl 1 false .exact []], [.sl 1 false .no [[.sl 3 false .no [[.int .i64 4, .int .i64 7, .str []], [.int .i64 4, .int .i64 1, .str []]]]]]]], .agg [.int .i64 3, .int .i64 0, .int .i64 0, .int .i64 0, .int .i64 0, .int .i64 0, .int .i64 0, .int .i64 0, .str [], .int .i64 0, .int .i64 0, .int .i64 0, .int .i64 0, .str [], .sl 0 true .exact [], .sl 1 false .no [[.int .i64 0]], .sl 0 true .exact [], .sl 0 true .exact [], .sl 0 true .exact [], .int .i64 0, .sl 21 false .no [[.int .i64 1, .int .i64 0, .int .i64 0, .int .i64 0, .int .i64 0, .int .i64 0, .int .i64 0, .int .i64 0, .str [], .int .i64 0, .int .i64 0, .int .i64 0, .int .i64 0, .str [], .sl 0 true .exact [], .sl 0 true .exact [], .sl 0 true .exact [], .sl 0 true .exact [], .sl 0 true .exact [], .int .i64 0, .sl 0 true .exact []]]]]
def r104 : GV := .tuple [.sl 0 true .exact [], .int .i64 0]
theorem run104 [Tab] : okRun funs K0 22 54 a104 r104 = true := by kernel_rfl
def a6 : List GV := [projV, .agg [.sl 0 true .exact [], .sl 24 false .no [[.int .i64 2, .int .i64 0, .sl 0 true .exact [], .int .i64 3, .int .i64 0, .int .i64 0, .int .i64 0, .int .i64 0, .int .i64 0, .int .i64 0, .int .i64 0, .str [], .int .i64 0, .int .i64 0, .int .i64 0, .int .i64 0, .str [], .sl 0 true .exact [], .sl 1 false .exact [[.int .i64 0]], .sl 0 true .exact [], .sl 0 true .exact [], .sl 0 true .exact [], .int .i64 0, .sl 21 false .exact [[.int .i64 1, .int .i64 0, .int .i64 0, .int .i64 0, .int .i64 0, .int .i64 0, .int .i64 0, .int .i64 0, .str [], .int .i64 0, .int .i64 0, .int .i64 0, .int .i64 0, .str [], .sl 0 true .exact [], .sl 0 true .exact [], .sl 0 true .exact [], .sl 0 true .exact [], .sl 0 true .exact [], .int .i64 0, .sl 0 true .exact []]]], [.int .i64 2, .int .i64 1, .sl 1 false .exact [[.int .i64 1]], .int .i64 3, .int .i64 0, .int .i64 0, .int .i64 0, .int .i64 0, .int .i64 0, .int .i64 0, .int .i64 0, .str [], .int .i64 0, .int .i64 0, .int .i64 0, .int .i64 0, .str [], .sl 0 true .exact [], .sl 1 false .exact [[.int .i64 0]], .sl 0 true .exact [], .sl 0 true .exact [], .sl 0 true .exact [], .int .i64 0, .sl 21 false .exact [[.int .i64 1, .int .i64 1, .int .i64 0, .int .i64 0, .int .i64 0, .int .i64 0, .int .i64 0, .int .i64 0, .str [], .int .i64 0, .int .i64 0, .int .i64 0, .int .i64 0, .str [], .sl 0 true .exact [], .sl 0 true .exact [], .sl 0 true .exact [], .sl 0 true .exact [], .sl 0 true .exact [], .int .i64 0, .sl 0 true .exact []]]]]]]
def r6 : GV := .int .i64 0
theorem run6 [Tab] : okRun funs K0 22 9 a6 r6 = true := by kernel_rfl
def a130 : List GV := [projV, .agg [.sl 1 false .no [[.sl 1 false .exact []], [.sl 1 false .no [[.sl 3 false .no [[.int .i64 4, .int .i64 7, .str []], [.int .i64 4, .int .i64 1, .str []]]]]]]], .agg [.int .i64 3, .int .i64 0, .int .i64 0, .int .i64 0, .int .i64 0, .int .i64 0, .int .i64 0, .int .i64 0, .str [], .int .i64 0, .int .i64 0, .int .i64 0, .int .i64 0, .str [], .sl 0 true .exact [], .sl 1 false .no [[.int .i64 0]], .sl 0 true .exact [], .sl 0 true .exact [], .sl 0 true .exact [], .int .i64 0, .sl 21 false .no [[.int .i64 1, .int .i64 1, .int .i64 0, .int .i64 0, .int .i64 0, .int .i64 0, .int .i64 0, .int .i64 0, .str [], .int .i64 0, .int .i64 0, .int .i64 0, .int .i64 0, .str [], .sl 0 true .exact [], .sl 0 true .exact [], .sl 0 true .exact [], .sl 0 true .exact [], .sl 0 true .exact [], .int .i64 0, .sl 0 true .exact []]]]]
def r130 : GV := .tuple [.sl 1 false .no [[.sl 3 false .no [[.int .i64 4, .int .i64 7, .str []]]]], .int .i64 0]
theorem run130 [Tab] : okRun funs K0 22 54 a130 r130 = true := by kernel_rfl
def a81 : List GV := [projV, .agg [.sl 1 false .exact [[.sl 1 false .exact [[.sl 3 false .exact [[.int .i64 4, .int .i64 1, .str []]]]]], [.sl 1 false .exact [[.sl 3 false .exact [[.int .i64 4, .int .i64 7, .str []], [.int .i64 4, .int .i64 1, .str []]]]]]]], .agg [.int .i64 3, .int .i64 0, .int .i64 0, .int .i64 0, .int .i64 0, .int .i64 0, .int .i64 0, .int .i64 0, .str [], .int .i64 0, .int .i64 0, .int .i64 0, .int .i64 0, .str [], .sl 0 true .exact [], .sl 1 false .no [[.int .i64 0]], .sl 0 true .exact [], .sl 0 true .exact [], .sl 0 true .exact [], .int .i64 0, .sl 21 false .no [[.int .i64 1, .int .i64 0, .int .i64 0, .int .i64 0, .int .i64 0, .int .i64 0, .int .i64 0, .int .i64 0, .str [], .int .i64 0, .int .i64 0, .int .i64 0, .int .i64 0, .str [], .sl 0 true .exact [], .sl 0 true .exact [], .sl 0 true .exact [], .sl 0 true .exact [], .sl 0 true .exact [], .int .i64 0, .sl 0 true .exact []]]]]
def r81 : GV := .tuple [.sl 1 false .no [[.sl 3 false .no [[.int .i64 4, .int .i64 1, .str []]]]], .int .i64 0]
theorem run81 [Tab] : okRun funs K0 22 54 a81 r81 = true := by kernel_rfl
def a116 : List GV := [projV, .agg [.sl 1 false .exact [[.sl 1 false .exact [[.sl 3 false .exact [[.int .i64 4, .int .i64 1, .str []]]]]], [.sl 1 false .exact [[.sl 3 false .exact [[.int .i64 4, .int .i64 7, .str []], [.int .i64 4, .int .i64 1, .str []]]]]]]], .agg [.int .i64 3, .int .i64 0, .int .i64 0, .int .i64 0, .int .i64 0, .int .i64 0, .int .i64 0, .int .i64 0, .str [], .int .i64 0, .int .i64 0, .int .i64 0, .int .i64 0, .str [], .sl 0 true .exact [], .sl 1 false .no [[.int .i64 0]], .sl 0 true .exact [], .sl 0 true .exact [], .sl 0 true .exact [], .int .i64 0, .sl 21 false .no [[.int .i64 1, .int .i64 1, .int .i64 0, .int .i64 0, .int .i64 0, .int .i64 0, .int .i64 0, .int .i64 0, .str [], .int .i64 0, .int .i64 0, .int .i64 0, .int .i64 0, .str [], .sl 0 true .exact [], .sl 0 true .exact [], .sl 0 true .exact [], .sl 0 true .exact [], .sl 0 true .exact [], .int .i64 0, .sl 0 true .exact []]]]]
def r116 : GV := .tuple [.sl 1 false .no [[.sl 3 false .no [[.int .i64 4, .int .i64 7, .str []]]]], .int .i64 0]
theorem run116 [Tab] : okRun funs K0 22 54 a116 r116 = true := by kernel_rfl
def a182 : List GV := [projV, .agg [.sl 1 false .no [[.sl 1 false .no [[.sl 3 false .no [[.int .i64 4, .int .i64 1, .str []]]]]], [.sl 1 false .exact [[.sl 3 false .no [[.int .i64 4, .int .i64 7, .str []], [.int .i64 4, .int .i64 1, .str []]]], [.sl 3 false .no [[.int .i64 4, .int .i64 8, .str []], [.int .i64 4, .int .i64 1, .str []]]]]]]], .agg [.int .i64 3, .int .i64 0, .int .i64 0, .int .i64 0, .int .i64 0, .int .i64 0, .int .i64 0, .int .i64 0, .str [], .int .i64 0, .int .i64 0, .int .i64 0, .int .i64 0, .str [], .sl 0 true .exact [], .sl 1 false .no [[.int .i64 0]], .sl 0 true .exact [], .sl 0 true .exact [], .sl 0 true .exact [], .int .i64 0, .sl 21 false .no [[.int .i64 1, .int .i64 0, .int .i64 0, .int .i64 0, .int .i64 0, .int .i64 0, .int .i64 0, .int .i64 0, .str [], .int .i64 0, .int .i64 0, .int .i64 0, .int .i64 0, .str [], .sl 0 true .exact [], .sl 0 true .exact [], .sl 0 true .exact [], .sl 0 true .exact [], .sl 0 true .exact [], .int .i64 0, .sl 0 true .exact []]]]]
def r182 : GV := .tuple [.sl 1 false .no [[.sl 3 false .no [[.int .i64 4, .int .i64 1, .str []]]]], .int .i64 0]
theorem run182 [Tab] : okRun funs K0 22 54 a182 r182 = true := by kernel_rfl
def a189 : List GV := [projV, .agg [.sl 1 false .no [[.sl 1 false .no [[.sl 3 false .no [[.int .i64 4, .int .i64 1, .str []]]]]], [.sl 1 false .exact [[.sl 3 false .no [[.int .i64 4, .int .i64 7, .str []], [.int .i64 4, .int .i64 1, .str []]]], [.sl 3 false .no [[.int .i64 4, .int .i64 8, .str []], [.int .i64 4, .int .i64 1, .str []]]]]]]], .agg [.int .i64 3, .int .i64 0, .int .i64 0, .int .i64 0, .int .i64 0, .int .i64 0, .int .i64 0, .int .i64 0, .str [], .int .i64 0, .int .i64 0, .int .i64 0, .int .i64 0, .str [], .sl 0 true .exact [], .sl 1 false .no [[.int .i64 0]], .sl 0 true .exact [], .sl 0 true .exact [], .sl 0 true .exact [], .int .i64 0, .sl 21 false .no [[.int .i64 1, .int .i64 1, .int .i64 0, .int .i64 0, .int .i64 0, .int .i64 0, .int .i64 0, .int .i64 0, .str [], .int .i64 0, .int .i64 0, .int .i64 0, .int .i64 0, .str [], .sl 0 true .exact [], .sl 0 true .exact [], .sl 0 true .exact [], .sl 0 true .exact [], .sl 0 true .exact [], .int .i64 0, .sl 0 true .exact []]]]]
def r189 : GV := .tuple [.sl 1 false .no [[.sl 3 false .no [[.int .i64 4, .int .i64 7, .str []]]], [.sl 3 false .no [[.int .i64 4, .int .i64 8, .str []]]]], .int .i64 0]
theorem run189 [Tab] : okRun funs K0 22 54 a189 r189 = true := by kernel_rfl
def K1 : List (Nat × List GV × GV) := (28, a206, r206) :: (28, a136, r136) :: (54, a104, r104) :: (9, a6, r6) :: (54, a130, r130) :: (54, a81, r81) :: (54, a116, r116) :: (54, a182, r182) :: (54, a189, r189) :: K0
end Go.Proofs.YtghfcfmgnfhgbaaGreatDoor
namespace Go.Proofs.YtghfcfmgnfhgbaaGreatDoor
set_option maxRecDepth 100000

def a73 : List GV := [projV, .agg [.sl 0 true .exact [], .sl 24 false .no [[.int .i64 2, .int .i64 0, .sl 0 true .exact [], .int .i64 3, .int .i64 0, .int .i64 0, .int .i64 0, .int .i64 0, .int .i64 0, .int .i64 0, .int .i64 0, .str [], .int .i64 0, .int .i64 0, .int .i64 0, .int .i64 0, .str [], .sl 0 true .exact [], .sl 1 false .exact [[.int .i64 0]], .sl 0 true .exact [], .sl 0 true .exact [], .sl 0 true .exact [], .int .i64 0, .sl 21 false .exact [[.int .i64 1, .int .i64 0, .int .i64 0, .int .i64 0, .int .i64 0, .int .i64 0, .int .i64 0, .int .i64 0, .str [], .int .i64 0, .int .i64 0, .int .i64 0, .int .i64 0, .str [], .sl 0 true .exact [], .sl 0 true .exact [], .sl 0 true .exact [], .sl 0 true .exact [], .sl 0 true .exact [], .int .i64 0, .sl 0 true .exact []]]], [.int .i64 2, .int .i64 1, .sl 1 false .exact [[.int .i64 1]], .int .i64 3, .int .i64 0, .int .i64 0, .int .i64 0, .int .i64 0, .int .i64 0, .int .i64 0, .int .i64 0, .str [], .int .i64 0, .int .i64 0, .int .i64 0, .int .i64 0, .str [], .sl 0 true .exact [], .sl 1 false .exact [[.int .i64 0]], .sl 0 true .exact [], .sl 0 true .exact [], .sl 0 true .exact [], .int .i64 0, .sl 21 false .exact [[.int .i64 1, .int .i64 1, .int .i64 0, .int .i64 0, .int .i64 0, .int .i64 0, .int .i64 0, .int .i64 0, .str [], .int .i64 0, .int .i64 0, .int .i64 0, .int .i64 0, .str [], .sl 0 true .exact [], .sl 0 true .exact [], .sl 0 true .exact [], .sl 0 true .exact [], .sl 0 true .exact [], .int .i64 0, .sl 0 true .exact []]]]]], .sl 0 true .exact [], .agg [.sl 1 false .exact [[.sl 1 false .exact [[.sl 3 false .exact [[.int .i64 4, .int .i64 1, .str []]]]]], [.sl 1 false .exact [[.sl 3 false .exact [[.int .i64 4, .int .i64 7, .str []], [.int .i64 4, .int .i64 1, .str []]]]]]]], .sl 3 false .no [[.int .i64 0, .sl 3 false .no [[.int .i64 4, .int .i64 1, .str []]], .sl 0 true .exact []]]]
def r73 : GV := .tuple [.sl 0 true .exact [], .int .i64 0]
theorem run73 [Tab] : okRun funs K1 22 26 a73 r73 = true := by kernel_rfl
def K2 : List (Nat × List GV × GV) := (26, a73, r73) :: K1
def a181 : List GV := [projV, .agg [.sl 0 true .exact [], .sl 24 false .no [[.int .i64 2, .int .i64 0, .sl 0 true .exact [], .int .i64 3, .int .i64 0, .int .i64 0, .int .i64 0, .int .i64 0, .int .i64 0, .int .i64 0, .int .i64 0, .str [], .int .i64 0, .int .i64 0, .int .i64 0, .int .i64 0, .str [], .sl 0 true .exact [], .sl 1 false .exact [[.int .i64 0]], .sl 0 true .exact [], .sl 0 true .exact [], .sl 0 true .exact [], .int .i64 0, .sl 21 false .exact [[.int .i64 1, .int .i64 0, .int .i64 0, .int .i64 0, .int .i64 0, .int .i64 0, .int .i64 0, .int .i64 0, .str [], .int .i64 0, .int .i64 0, .int .i64 0, .int .i64 0, .str [], .sl 0 true .exact [], .sl 0 true .exact [], .sl 0 true .exact [], .sl 0 true .exact [], .sl 0 true .exact [], .int .i64 0, .sl 0 true .exact []]]], [.int .i64 2, .int .i64 1, .sl 1 false .exact [[.int .i64 1]], .int .i64 3, .int .i64 0, .int .i64 0, .int .i64 0, .int .i64 0, .int .i64 0, .int .i64 0, .int .i64 0, .str [], .int .i64 0, .int .i64 0, .int .i64 0, .int .i64 0, .str [], .sl 0 true .exact [], .sl 1 false .exact [[.int .i64 0]], .sl 0 true .exact [], .sl 0 true .exact [], .sl 0 true .exact [], .int .i64 0, .sl 21 false .exact [[.int .i64 1, .int .i64 1, .int .i64 0, .int .i64 0, .int .i64 0, .int .i64 0, .int .i64 0, .int .i64 0, .str [], .int .i64 0, .int .i64 0, .int .i64 0, .int .i64 0, .str [], .sl 0 true .exact [], .sl 0 true .exact [], .sl 0 true .exact [], .sl 0 true .exact [], .sl 0 true .exact [], .int .i64 0, .sl 0 true .exact []]]]]], .sl 0 true .exact [], .agg [.sl 1 false .exact [[.sl 1 false .exact [[.sl 3 false .exact [[.int .i64 4, .int .i64 1, .str []]]]]], [.sl 1 false .exact [[.sl 3 false .exact [[.int .i64 4, .int .i64 7, .str []], [.int .i64 4, .int .i64 1, .str []]]]]]]], .sl 3 false .no [[.int .i64 1, .sl 0 true .exact [], .sl 3 false .no [[.int .i64 4, .int .i64 8, .str []], [.int .i64 4, .int .i64 1, .str []]]]]]
def r181 : GV := .tuple [.sl 0 true .exact [], .int .i64 0]
theorem run181 [Tab] : okRun funs K2 22 26 a181 r181 = true := by kernel_rfl
def K3 : List (Nat × List GV × GV) := (26, a181, r181) :: K2
def a5 : List GV := [projV, .agg [.sl 0 true .exact [], .sl 24 false .no [[.int .i64 2, .int .i64 0, .sl 0 true .exact [], .int .i64 3, .int .i64 0, .int .i64 0, .int .i64 0, .int .i64 0, .int .i64 0, .int .i64 0, .int .i64 0, .str [], .int .i64 0, .int .i64 0, .int .i64 0, .int .i64 0, .str [], .sl 0 true .exact [], .sl 1 false .exact [[.int .i64 0]], .sl 0 true .exact [], .sl 0 true .exact [], .sl 0 true .exact [], .int .i64 0, .sl 21 false .exact [[.int .i64 1, .int .i64 0, .int .i64 0, .int .i64 0, .int .i64 0, .int .i64 0, .int .i64 0, .int .i64 0, .str [], .int .i64 0, .int .i64 0, .int .i64 0, .int .i64 0, .str [], .sl 0 true .exact [], .sl 0 true .exact [], .sl 0 true .exact [], .sl 0 true .exact [], .sl 0 true .exact [], .int .i64 0, .sl 0 true .exact []]]], [.int .i64 2, .int .i64 1, .sl 1 false .exact [[.int .i64 1]], .int .i64 3, .int .i64 0, .int .i64 0, .int .i64 0, .int .i64 0, .int .i64 0, .int .i64 0, .int .i64 0, .str [], .int .i64 0, .int .i64 0, .int .i64 0, .int .i64 0, .str [], .sl 0 true .exact [], .sl 1 false .exact [[.int .i64 0]], .sl 0 true .exact [], .sl 0 true .exact [], .sl 0 true .exact [], .int .i64 0, .sl 21 false .exact [[.int .i64 1, .int .i64 1, .int .i64 0, .int .i64 0, .int .i64 0, .int .i64 0, .int .i64 0, .int .i64 0, .str [], .int .i64 0, .int .i64 0, .int .i64 0, .int .i64 0, .str [], .sl 0 true .exact [], .sl 0 true .exact [], .sl 0 true .exact [], .sl 0 true .exact [], .sl 0 true .exact [], .int .i64 0, .sl 0 true .exact []]]]]], .sl 0 true .exact [], .agg [.sl 1 false .exact [[.sl 1 false .exact [[.sl 3 false .exact [[.int .i64 4, .int .i64 1, .str []]]]]], [.sl 1 false .exact [[.sl 3 false .exact [[.int .i64 4, .int .i64 7, .str []], [.int .i64 4, .int .i64 1, .str []]]]]]]], .sl 5 false .exact [[.int .i64 3, .int .i64 0, .sl 3 false .exact [[.int .i64 4, .int .i64 1, .str []]], .sl 0 true .exact [], .sl 0 true .exact []]]]
def r5 : GV := .tuple [.sl 0 true .exact [], .agg [.int .i64 8, .int .i64 10, .int .i64 0, .sl 0 true .exact []], .int .i64 0]
theorem run5 [Tab] : okRun funs K3 22 6 a5 r5 = true := by kernel_rfl
def K4 : List (Nat × List GV × GV) := (6, a5, r5) :: K3
def a153 : List GV := [projV, .agg [.sl 0 true .exact [], .sl 24 false .no [[.int .i64 2, .int .i64 0, .sl 0 true .exact [], .int .i64 3, .int .i64 0, .int .i64 0, .int .i64 0, .int .i64 0, .int .i64 0, .int .i64 0, .int .i64 0, .str [], .int .i64 0, .int .i64 0, .int .i64 0, .int .i64 0, .str [], .sl 0 true .exact [], .sl 1 false .exact [[.int .i64 0]], .sl 0 true .exact [], .sl 0 true .exact [], .sl 0 true .exact [], .int .i64 0, .sl 21 false .exact [[.int .i64 1, .int .i64 0, .int .i64 0, .int .i64 0, .int .i64 0, .int .i64 0, .int .i64 0, .int .i64 0, .str [], .int .i64 0, .int .i64 0, .int .i64 0, .int .i64 0, .str [], .sl 0 true .exact [], .sl 0 true .exact [], .sl 0 true .exact [], .sl 0 true .exact [], .sl 0 true .exact [], .int .i64 0, .sl 0 true .exact []]]], [.int .i64 2, .int .i64 1, .sl 1 false .exact [[.int .i64 1]], .int .i64 3, .int .i64 0, .int .i64 0, .int .i64 0, .int .i64 0, .int .i64 0, .int .i64 0, .int .i64 0, .str [], .int .i64 0, .int .i64 0, .int .i64 0, .int .i64 0, .str [], .sl 0 true .exact [], .sl 1 false .exact [[.int .i64 0]], .sl 0 true .exact [], .sl 0 true .exact [], .sl 0 true .exact [], .int .i64 0, .sl 21 false .exact [[.int .i64 1, .int .i64 1, .int .i64 0, .int .i64 0, .int .i64 0, .int .i64 0, .int .i64 0, .int .i64 0, .str [], .int .i64 0, .int .i64 0, .int .i64 0, .int .i64 0, .str [], .sl 0 true .exact [], .sl 0 true .exact [], .sl 0 true .exact [], .sl 0 true .exact [], .sl 0 true .exact [], .int .i64 0, .sl 0 true .exact []]]]]], .sl 0 true .exact [], .agg [.sl 1 false .exact [[.sl 1 false .exact [[.sl 3 false .exact [[.int .i64 4, .int .i64 1, .str []]]]]], [.sl 1 false .exact [[.sl 3 false .exact [[.int .i64 4, .int .i64 7, .str []], [.int .i64 4, .int .i64 1, .str []]]]]]]], .sl 5 false .exact [[.int .i64 1, .int .i64 1, .sl 3 false .exact [[.int .i64 4, .int .i64 8, .str []]], .sl 0 true .exact [], .sl 3 false .exact [[.int .i64 4, .int .i64 8, .str []], [.int .i64 4, .int .i64 1, .str []]]]]]
def r153 : GV := .tuple [.sl 3 false .no [[.int .i64 1, .sl 0 true .exact [], .sl 3 false .no [[.int .i64 4, .int .i64 8, .str []], [.int .i64 4, .int .i64 1, .str []]]]], .agg [.int .i64 0, .int .i64 0, .int .i64 0, .sl 0 true .exact []], .int .i64 0]
theorem run153 [Tab] : okRun funs K4 22 6 a153 r153 = true := by kernel_rfl
def K5 : List (Nat × List GV × GV) := (6, a153, r153) :: K4
def a0 : List GV := []
def r0 : GV := .bool true
theorem run0 [Tab] : okRun funs K5 22 8 a0 r0 = true := by kernel_rfl
def K6 : List (Nat × List GV × GV) := (8, a0, r0) :: K5
end Go.Proofs.YtghfcfmgnfhgbaaGreatDoor
namespace Go.Proofs.YtghfcfmgnfhgbaaGreatDoor

/-- a op b, when it is known how a lies to b -/
def cmpR (op : BinOp) (o : Ordering) : Option GV := match op with
  | .eql => some (.bool (o == .eq))
  | .neq => some (.bool (o != .eq))
  | .lss => some (.bool (o == .lt))
  | .leq => some (.bool (o != .gt))
  | .gtr => some (.bool (o == .gt))
  | .geq => some (.bool (o != .lt))
  | _ => none
/-- An unknown number above lo and below hi, compared with known ones. -/
def tabOf (lo hi : Int) (op : BinOp) : GV → GV → Option GV
  | .sym 0, .sym 0 => cmpR op .eq
  | .sym 0, .int .i64 n => if hi ≤ n then cmpR op .lt else if n ≤ lo then cmpR op .gt else none
  | .int .i64 n, .sym 0 => if hi ≤ n then cmpR op .gt else if n ≤ lo then cmpR op .lt else none
  | _, _ => none
@[reducible] def tabAt (lo hi : Int) : Tab := ⟨fun _ => .i64, tabOf lo hi⟩
@[reducible] def tabL : Tab := tabAt (-9223372036854775809) 1
@[reducible] def tabM : Tab := tabAt 1 7
@[reducible] def tabR : Tab := tabAt 7 9223372036854775808

theorem cmp_ok (op : BinOp) (o : Ordering) (a b : Int) (r : GV) (h : cmpR op o = some r) (hl : o = .lt → a < b) (he : o = .eq → a = b) (hg : o = .gt → b < a) (kind : Nat → IntKind) (val : Nat → Int) :
    ∃ rv, rvalOf kind val r = some rv ∧ ∀ (P : Program) (w : World) (t : TypeId), (binOp op t (.int .i64 a) (.int .i64 b)).run P w = .ok rv w := by
  have h3 : a < b ∧ o = .lt ∨ a = b ∧ o = .eq ∨ b < a ∧ o = .gt := by
    cases o
    · exact .inl ⟨hl rfl, rfl⟩
    · exact .inr (.inl ⟨he rfl, rfl⟩)
    · exact .inr (.inr ⟨hg rfl, rfl⟩)
  cases op <;> simp only [cmpR, Option.some.injEq, reduceCtorEq] at h <;> subst h <;> refine ⟨_, rfl, fun P w t => ?_⟩ <;>
    rcases h3 with ⟨h4, rfl⟩ | ⟨h4, rfl⟩ | ⟨h4, rfl⟩ <;> simp [binOp, Op.intCmp] <;> first | omega | (show _ = true; simp; omega)

@[reducible] def symAt (lo hi id : Int) (h1 : lo < id) (h2 : id < hi) (hr : IntKind.i64.wrap id = id) : Sym :=
  { toTab := tabAt lo hi
    val := fun _ => id
    rng := fun _ => hr
    ok := fun op x y r h kx nx ky ny ex ey => by
      change tabOf lo hi op x y = some r at h
      unfold tabOf at h
      split at h
      · simp only [ivalOf, Option.some.injEq, Prod.mk.injEq] at ex ey
        obtain ⟨rfl, rfl⟩ := ex; obtain ⟨rfl, rfl⟩ := ey
        exact cmp_ok _ _ _ _ _ h (by simp) (by simp) (by simp) _ _
      · simp only [ivalOf, Option.some.injEq, Prod.mk.injEq] at ex ey
        obtain ⟨rfl, rfl⟩ := ex; obtain ⟨rfl, rfl⟩ := ey
        split at h
        · exact cmp_ok _ _ _ _ _ h (by intro; omega) (by simp) (by simp) _ _
        · split at h
          · exact cmp_ok _ _ _ _ _ h (by simp) (by simp) (by intro; omega) _ _
          · simp at h
      · simp only [ivalOf, Option.some.injEq, Prod.mk.injEq] at ex ey
        obtain ⟨rfl, rfl⟩ := ex; obtain ⟨rfl, rfl⟩ := ey
        split at h
        · exact cmp_ok _ _ _ _ _ h (by simp) (by simp) (by intro; omega) _ _
        · split at h
          · exact cmp_ok _ _ _ _ _ h (by intro; omega) (by simp) (by simp) _ _
          · simp at h
      · simp at h }

section
variable [Sym]
theorem Known.nil {P : Program} {G : Glob} : Known P G [] := fun q hq => by cases hq
theorem Known.cons {P : Program} {G : Glob} {L : List (Nat × List GV × GV)} {f : Nat} {a : List GV} {r : GV} (h : ∀ st, Tri P G f a st r st) (hL : Known P G L) : Known P G ((f, a, r) :: L) := fun q hq => by
  rcases List.mem_cons.1 hq with rfl | h2
  · exact h
  · exact hL q h2
/-- One run more. -/
theorem more {L : List (Nat × List GV × GV)} (hL : Known Tryz.prog G0 L) {n f : Nat} {args : List GV} {r : GV} (h : okRun funs L n f args r = true) : ∀ st, Tri Tryz.prog G0 f args st r st :=
  tri_of_run hfuns hmix hL h
theorem known0 : Known Tryz.prog G0 K0 := .cons (more .nil runCheck) .nil
theorem known1 : Known Tryz.prog G0 K1 :=
  .cons (more known0 run206) <| .cons (more known0 run136) <| .cons (more known0 run104) <| .cons (more known0 run6) <| .cons (more known0 run130) <| .cons (more known0 run81) <| .cons (more known0 run116) <| .cons (more known0 run182) <| .cons (more known0 run189) known0
theorem known2 : Known Tryz.prog G0 K2 := .cons (more known1 run73) known1
theorem known3 : Known Tryz.prog G0 K3 := .cons (more known2 run181) known2
theorem known4 : Known Tryz.prog G0 K4 := .cons (more known3 run5) known3
theorem known5 : Known Tryz.prog G0 K5 := .cons (more known4 run153) known4
theorem known6 : Known Tryz.prog G0 K6 := .cons (more known5 run0) known5
end
end Go.Proofs.YtghfcfmgnfhgbaaGreatDoor
