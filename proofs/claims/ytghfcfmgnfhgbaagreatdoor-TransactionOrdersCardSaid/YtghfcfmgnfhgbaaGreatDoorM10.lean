/- Runs of the evaluator, carried out by the kernel: TransactionOrders, for each region of its first argument. -/
import Derived.Test.YtghfcfmgnfhgbaaGreatDoorM9
import Derived.KernelRfl
set_option linter.unusedSectionVars false
set_option linter.unusedVariables false
set_option linter.unusedSimpArgs false
namespace Go.Proofs.YtghfcfmgnfhgbaaGreatDoor
set_option maxRecDepth 100000

def o0a0 : List GV := [projV, .int .i64 1, .agg [.sl 1 false .exact [[.sl 1 false .exact [[.sl 3 false .exact [[.int .i64 4, .int .i64 1, .str []]]]]], [.sl 1 false .exact [[.sl 3 false .exact [[.int .i64 4, .int .i64 7, .str []], [.int .i64 4, .int .i64 1, .str []]]]]]]], .sl 3 false .no [[.int .i64 0, .sl 3 false .no [[.int .i64 4, .int .i64 1, .str []]], .sl 0 true .exact []], [.int .i64 1, .sl 0 true .exact [], .sl 3 false .no [[.int .i64 4, .sym 0, .str []], [.int .i64 4, .int .i64 3, .str []]]]]]
def o0r0 : GV := .tuple [.agg [.sl 1 false .no [[.sl 1 false .exact []], [.sl 1 false .no [[.sl 3 false .no [[.int .i64 4, .sym 0, .str []], [.int .i64 4, .int .i64 3, .str []]]], [.sl 3 false .no [[.int .i64 4, .int .i64 7, .str []], [.int .i64 4, .int .i64 1, .str []]]]]]]], .int .i64 0]
theorem o0run0 : @okRun tabL funs K6 22 25 o0a0 o0r0 = true := by kernel_rfl
def o0K0 : List (Nat × List GV × GV) := (25, o0a0, o0r0) :: K6
def o0a1 : List GV := [projV, .agg [.sl 1 false .exact [[.sl 1 false .exact [[.sl 3 false .exact [[.int .i64 4, .int .i64 1, .str []]]]]], [.sl 1 false .exact [[.sl 3 false .exact [[.int .i64 4, .int .i64 7, .str []], [.int .i64 4, .int .i64 1, .str []]]]]]]], .sl 5 false .exact [[.int .i64 3, .int .i64 0, .sl 3 false .exact [[.int .i64 4, .int .i64 1, .str []]], .sl 0 true .exact [], .sl 0 true .exact []], [.int .i64 1, .int .i64 1, .sl 3 false .exact [[.int .i64 4, .sym 0, .str []]], .sl 0 true .exact [], .sl 3 false .exact [[.int .i64 4, .sym 0, .str []], [.int .i64 4, .int .i64 3, .str []]]]]]
def o0r1 : GV := .tuple [.sl 3 false .no [[.int .i64 0, .sl 3 false .no [[.int .i64 4, .int .i64 1, .str []]], .sl 0 true .exact []], [.int .i64 1, .sl 0 true .exact [], .sl 3 false .no [[.int .i64 4, .sym 0, .str []], [.int .i64 4, .int .i64 3, .str []]]]], .agg [.int .i64 0, .int .i64 0, .int .i64 0, .sl 0 true .exact []], .int .i64 0]
theorem o0run1 : @okRun tabL funs o0K0 22 11 o0a1 o0r1 = true := by kernel_rfl
def o0K1 : List (Nat × List GV × GV) := (11, o0a1, o0r1) :: o0K0
def o0a2 : List GV := [projV, .agg [.sl 1 false .no [[.sl 1 false .exact []], [.sl 1 false .no [[.sl 3 false .no [[.int .i64 4, .sym 0, .str []], [.int .i64 4, .int .i64 3, .str []]]], [.sl 3 false .no [[.int .i64 4, .int .i64 7, .str []], [.int .i64 4, .int .i64 1, .str []]]]]]]], .agg [.int .i64 3, .int .i64 0, .int .i64 0, .int .i64 0, .int .i64 0, .int .i64 0, .int .i64 0, .int .i64 0, .str [], .int .i64 0, .int .i64 0, .int .i64 0, .int .i64 0, .str [], .sl 0 true .exact [], .sl 1 false .no [[.int .i64 0]], .sl 0 true .exact [], .sl 0 true .exact [], .sl 0 true .exact [], .int .i64 0, .sl 21 false .no [[.int .i64 1, .int .i64 0, .int .i64 0, .int .i64 0, .int .i64 0, .int .i64 0, .int .i64 0, .int .i64 0, .str [], .int .i64 0, .int .i64 0, .int .i64 0, .int .i64 0, .str [], .sl 0 true .exact [], .sl 0 true .exact [], .sl 0 true .exact [], .sl 0 true .exact [], .sl 0 true .exact [], .int .i64 0, .sl 0 true .exact []]]]]
def o0r2 : GV := .tuple [.sl 0 true .exact [], .int .i64 0]
theorem o0run2 : @okRun tabL funs o0K1 22 54 o0a2 o0r2 = true := by kernel_rfl
def o0K2 : List (Nat × List GV × GV) := (54, o0a2, o0r2) :: o0K1
def o0a3 : List GV := [projV, .agg [.sl 1 false .no [[.sl 1 false .exact []], [.sl 1 false .no [[.sl 3 false .no [[.int .i64 4, .sym 0, .str []], [.int .i64 4, .int .i64 3, .str []]]], [.sl 3 false .no [[.int .i64 4, .int .i64 7, .str []], [.int .i64 4, .int .i64 1, .str []]]]]]]], .agg [.int .i64 3, .int .i64 0, .int .i64 0, .int .i64 0, .int .i64 0, .int .i64 0, .int .i64 0, .int .i64 0, .str [], .int .i64 0, .int .i64 0, .int .i64 0, .int .i64 0, .str [], .sl 0 true .exact [], .sl 1 false .no [[.int .i64 0]], .sl 0 true .exact [], .sl 0 true .exact [], .sl 0 true .exact [], .int .i64 0, .sl 21 false .no [[.int .i64 1, .int .i64 1, .int .i64 0, .int .i64 0, .int .i64 0, .int .i64 0, .int .i64 0, .int .i64 0, .str [], .int .i64 0, .int .i64 0, .int .i64 0, .int .i64 0, .str [], .sl 0 true .exact [], .sl 0 true .exact [], .sl 0 true .exact [], .sl 0 true .exact [], .sl 0 true .exact [], .int .i64 0, .sl 0 true .exact []]]]]
def o0r3 : GV := .tuple [.sl 1 false .no [[.sl 3 false .no [[.int .i64 4, .sym 0, .str []]]], [.sl 3 false .no [[.int .i64 4, .int .i64 7, .str []]]]], .int .i64 0]
theorem o0run3 : @okRun tabL funs o0K2 22 54 o0a3 o0r3 = true := by kernel_rfl
def o0K3 : List (Nat × List GV × GV) := (54, o0a3, o0r3) :: o0K2
def o0a4 : List GV := [projV, .agg [.sl 0 true .exact [], .sl 24 false .no [[.int .i64 2, .int .i64 0, .sl 0 true .exact [], .int .i64 3, .int .i64 0, .int .i64 0, .int .i64 0, .int .i64 0, .int .i64 0, .int .i64 0, .int .i64 0, .str [], .int .i64 0, .int .i64 0, .int .i64 0, .int .i64 0, .str [], .sl 0 true .exact [], .sl 1 false .exact [[.int .i64 0]], .sl 0 true .exact [], .sl 0 true .exact [], .sl 0 true .exact [], .int .i64 0, .sl 21 false .exact [[.int .i64 1, .int .i64 0, .int .i64 0, .int .i64 0, .int .i64 0, .int .i64 0, .int .i64 0, .int .i64 0, .str [], .int .i64 0, .int .i64 0, .int .i64 0, .int .i64 0, .str [], .sl 0 true .exact [], .sl 0 true .exact [], .sl 0 true .exact [], .sl 0 true .exact [], .sl 0 true .exact [], .int .i64 0, .sl 0 true .exact []]]], [.int .i64 2, .int .i64 1, .sl 1 false .exact [[.int .i64 1]], .int .i64 3, .int .i64 0, .int .i64 0, .int .i64 0, .int .i64 0, .int .i64 0, .int .i64 0, .int .i64 0, .str [], .int .i64 0, .int .i64 0, .int .i64 0, .int .i64 0, .str [], .sl 0 true .exact [], .sl 1 false .exact [[.int .i64 0]], .sl 0 true .exact [], .sl 0 true .exact [], .sl 0 true .exact [], .int .i64 0, .sl 21 false .exact [[.int .i64 1, .int .i64 1, .int .i64 0, .int .i64 0, .int .i64 0, .int .i64 0, .int .i64 0, .int .i64 0, .str [], .int .i64 0, .int .i64 0, .int .i64 0, .int .i64 0, .str [], .sl 0 true .exact [], .sl 0 true .exact [], .sl 0 true .exact [], .sl 0 true .exact [], .sl 0 true .exact [], .int .i64 0, .sl 0 true .exact []]]]]], .sl 0 true .exact [], .agg [.sl 1 false .exact [[.sl 1 false .exact [[.sl 3 false .exact [[.int .i64 4, .int .i64 1, .str []]]]]], [.sl 1 false .exact [[.sl 3 false .exact [[.int .i64 4, .int .i64 7, .str []], [.int .i64 4, .int .i64 1, .str []]]]]]]], .sl 3 false .no [[.int .i64 0, .sl 3 false .no [[.int .i64 4, .int .i64 1, .str []]], .sl 0 true .exact []], [.int .i64 1, .sl 0 true .exact [], .sl 3 false .no [[.int .i64 4, .sym 0, .str []], [.int .i64 4, .int .i64 3, .str []]]]]]
def o0r4 : GV := .tuple [.sl 0 true .exact [], .int .i64 0]
theorem o0run4 : @okRun tabL funs o0K3 22 26 o0a4 o0r4 = true := by kernel_rfl
def o0K4 : List (Nat × List GV × GV) := (26, o0a4, o0r4) :: o0K3
def o0a5 : List GV := [projV, .agg [.sl 0 true .exact [], .sl 24 false .no [[.int .i64 2, .int .i64 0, .sl 0 true .exact [], .int .i64 3, .int .i64 0, .int .i64 0, .int .i64 0, .int .i64 0, .int .i64 0, .int .i64 0, .int .i64 0, .str [], .int .i64 0, .int .i64 0, .int .i64 0, .int .i64 0, .str [], .sl 0 true .exact [], .sl 1 false .exact [[.int .i64 0]], .sl 0 true .exact [], .sl 0 true .exact [], .sl 0 true .exact [], .int .i64 0, .sl 21 false .exact [[.int .i64 1, .int .i64 0, .int .i64 0, .int .i64 0, .int .i64 0, .int .i64 0, .int .i64 0, .int .i64 0, .str [], .int .i64 0, .int .i64 0, .int .i64 0, .int .i64 0, .str [], .sl 0 true .exact [], .sl 0 true .exact [], .sl 0 true .exact [], .sl 0 true .exact [], .sl 0 true .exact [], .int .i64 0, .sl 0 true .exact []]]], [.int .i64 2, .int .i64 1, .sl 1 false .exact [[.int .i64 1]], .int .i64 3, .int .i64 0, .int .i64 0, .int .i64 0, .int .i64 0, .int .i64 0, .int .i64 0, .int .i64 0, .str [], .int .i64 0, .int .i64 0, .int .i64 0, .int .i64 0, .str [], .sl 0 true .exact [], .sl 1 false .exact [[.int .i64 0]], .sl 0 true .exact [], .sl 0 true .exact [], .sl 0 true .exact [], .int .i64 0, .sl 21 false .exact [[.int .i64 1, .int .i64 1, .int .i64 0, .int .i64 0, .int .i64 0, .int .i64 0, .int .i64 0, .int .i64 0, .str [], .int .i64 0, .int .i64 0, .int .i64 0, .int .i64 0, .str [], .sl 0 true .exact [], .sl 0 true .exact [], .sl 0 true .exact [], .sl 0 true .exact [], .sl 0 true .exact [], .int .i64 0, .sl 0 true .exact []]]]]], .sl 0 true .exact [], .agg [.sl 1 false .exact [[.sl 1 false .exact [[.sl 3 false .exact [[.int .i64 4, .int .i64 1, .str []]]]]], [.sl 1 false .exact [[.sl 3 false .exact [[.int .i64 4, .int .i64 7, .str []], [.int .i64 4, .int .i64 1, .str []]]]]]]], .sl 5 false .exact [[.int .i64 3, .int .i64 0, .sl 3 false .exact [[.int .i64 4, .int .i64 1, .str []]], .sl 0 true .exact [], .sl 0 true .exact []], [.int .i64 1, .int .i64 1, .sl 3 false .exact [[.int .i64 4, .sym 0, .str []]], .sl 0 true .exact [], .sl 3 false .exact [[.int .i64 4, .sym 0, .str []], [.int .i64 4, .int .i64 3, .str []]]]]]
def o0r5 : GV := .tuple [.sl 0 true .exact [], .agg [.int .i64 8, .int .i64 10, .int .i64 1, .sl 3 false .no [[.int .i64 4, .sym 0, .str []]]], .int .i64 0]
theorem o0run5 : @okRun tabL funs o0K4 22 6 o0a5 o0r5 = true := by kernel_rfl
def o0K5 : List (Nat × List GV × GV) := (6, o0a5, o0r5) :: o0K4
def o0a6 : List GV := [.sym 0, .bool false]
def o0r6 : GV := .bool true
theorem o0run6 : @okRun tabL funs o0K5 22 3 o0a6 o0r6 = true := by kernel_rfl

section
variable (id : Int) (h1 : (-9223372036854775809) < id) (h2 : id < 1) (hr : IntKind.i64.wrap id = id)
theorem o0tri0 (st : St) : @Tri (symAt (-9223372036854775809) 1 id h1 h2 hr) Tryz.prog G0 25 o0a0 st o0r0 st :=
  @more (symAt (-9223372036854775809) 1 id h1 h2 hr) _ (@known6 (symAt (-9223372036854775809) 1 id h1 h2 hr)) _ _ _ _ o0run0 st
theorem o0known0 : @Known (symAt (-9223372036854775809) 1 id h1 h2 hr) Tryz.prog G0 o0K0 := @Known.cons (symAt (-9223372036854775809) 1 id h1 h2 hr) _ _ _ _ _ _ (o0tri0 id h1 h2 hr) (@known6 (symAt (-9223372036854775809) 1 id h1 h2 hr))
theorem o0tri1 (st : St) : @Tri (symAt (-9223372036854775809) 1 id h1 h2 hr) Tryz.prog G0 11 o0a1 st o0r1 st :=
  @more (symAt (-9223372036854775809) 1 id h1 h2 hr) _ (o0known0 id h1 h2 hr) _ _ _ _ o0run1 st
theorem o0known1 : @Known (symAt (-9223372036854775809) 1 id h1 h2 hr) Tryz.prog G0 o0K1 := @Known.cons (symAt (-9223372036854775809) 1 id h1 h2 hr) _ _ _ _ _ _ (o0tri1 id h1 h2 hr) (o0known0 id h1 h2 hr)
theorem o0tri2 (st : St) : @Tri (symAt (-9223372036854775809) 1 id h1 h2 hr) Tryz.prog G0 54 o0a2 st o0r2 st :=
  @more (symAt (-9223372036854775809) 1 id h1 h2 hr) _ (o0known1 id h1 h2 hr) _ _ _ _ o0run2 st
theorem o0known2 : @Known (symAt (-9223372036854775809) 1 id h1 h2 hr) Tryz.prog G0 o0K2 := @Known.cons (symAt (-9223372036854775809) 1 id h1 h2 hr) _ _ _ _ _ _ (o0tri2 id h1 h2 hr) (o0known1 id h1 h2 hr)
theorem o0tri3 (st : St) : @Tri (symAt (-9223372036854775809) 1 id h1 h2 hr) Tryz.prog G0 54 o0a3 st o0r3 st :=
  @more (symAt (-9223372036854775809) 1 id h1 h2 hr) _ (o0known2 id h1 h2 hr) _ _ _ _ o0run3 st
theorem o0known3 : @Known (symAt (-9223372036854775809) 1 id h1 h2 hr) Tryz.prog G0 o0K3 := @Known.cons (symAt (-9223372036854775809) 1 id h1 h2 hr) _ _ _ _ _ _ (o0tri3 id h1 h2 hr) (o0known2 id h1 h2 hr)
theorem o0tri4 (st : St) : @Tri (symAt (-9223372036854775809) 1 id h1 h2 hr) Tryz.prog G0 26 o0a4 st o0r4 st :=
  @more (symAt (-9223372036854775809) 1 id h1 h2 hr) _ (o0known3 id h1 h2 hr) _ _ _ _ o0run4 st
theorem o0known4 : @Known (symAt (-9223372036854775809) 1 id h1 h2 hr) Tryz.prog G0 o0K4 := @Known.cons (symAt (-9223372036854775809) 1 id h1 h2 hr) _ _ _ _ _ _ (o0tri4 id h1 h2 hr) (o0known3 id h1 h2 hr)
theorem o0tri5 (st : St) : @Tri (symAt (-9223372036854775809) 1 id h1 h2 hr) Tryz.prog G0 6 o0a5 st o0r5 st :=
  @more (symAt (-9223372036854775809) 1 id h1 h2 hr) _ (o0known4 id h1 h2 hr) _ _ _ _ o0run5 st
theorem o0known5 : @Known (symAt (-9223372036854775809) 1 id h1 h2 hr) Tryz.prog G0 o0K5 := @Known.cons (symAt (-9223372036854775809) 1 id h1 h2 hr) _ _ _ _ _ _ (o0tri5 id h1 h2 hr) (o0known4 id h1 h2 hr)
theorem o0tri6 (st : St) : @Tri (symAt (-9223372036854775809) 1 id h1 h2 hr) Tryz.prog G0 3 o0a6 st o0r6 st :=
  @more (symAt (-9223372036854775809) 1 id h1 h2 hr) _ (o0known5 id h1 h2 hr) _ _ _ _ o0run6 st
end
end Go.Proofs.YtghfcfmgnfhgbaaGreatDoor
namespace Go.Proofs.YtghfcfmgnfhgbaaGreatDoor
set_option maxRecDepth 100000

def o1a0 : List GV := [projV, .int .i64 1, .agg [.sl 1 false .exact [[.sl 1 false .exact [[.sl 3 false .exact [[.int .i64 4, .int .i64 1, .str []]]]]], [.sl 1 false .exact [[.sl 3 false .exact [[.int .i64 4, .int .i64 7, .str []], [.int .i64 4, .int .i64 1, .str []]]]]]]], .sl 3 false .no [[.int .i64 0, .sl 3 false .no [[.int .i64 4, .int .i64 1, .str []]], .sl 0 true .exact []], [.int .i64 1, .sl 0 true .exact [], .sl 3 false .no [[.int .i64 4, .sym 0, .str []], [.int .i64 4, .int .i64 3, .str []]]]]]
def o1r0 : GV := .tuple [.agg [.sl 1 false .no [[.sl 1 false .exact []], [.sl 1 false .no [[.sl 3 false .no [[.int .i64 4, .sym 0, .str []], [.int .i64 4, .int .i64 3, .str []]]], [.sl 3 false .no [[.int .i64 4, .int .i64 7, .str []], [.int .i64 4, .int .i64 1, .str []]]]]]]], .int .i64 0]
theorem o1run0 : @okRun tabL funs K6 22 25 o1a0 o1r0 = true := by kernel_rfl
def o1K0 : List (Nat × List GV × GV) := (25, o1a0, o1r0) :: K6
def o1a1 : List GV := [projV, .agg [.sl 1 false .exact [[.sl 1 false .exact [[.sl 3 false .exact [[.int .i64 4, .int .i64 1, .str []]]]]], [.sl 1 false .exact [[.sl 3 false .exact [[.int .i64 4, .int .i64 7, .str []], [.int .i64 4, .int .i64 1, .str []]]]]]]], .sl 5 false .exact [[.int .i64 3, .int .i64 0, .sl 3 false .exact [[.int .i64 4, .int .i64 1, .str []]], .sl 0 true .exact [], .sl 0 true .exact []], [.int .i64 1, .int .i64 1, .sl 3 false .exact [[.int .i64 4, .sym 0, .str []]], .sl 0 true .exact [], .sl 3 false .exact [[.int .i64 4, .sym 0, .str []], [.int .i64 4, .int .i64 3, .str []]]]]]
def o1r1 : GV := .tuple [.sl 3 false .no [[.int .i64 0, .sl 3 false .no [[.int .i64 4, .int .i64 1, .str []]], .sl 0 true .exact []], [.int .i64 1, .sl 0 true .exact [], .sl 3 false .no [[.int .i64 4, .sym 0, .str []], [.int .i64 4, .int .i64 3, .str []]]]], .agg [.int .i64 0, .int .i64 0, .int .i64 0, .sl 0 true .exact []], .int .i64 0]
theorem o1run1 : @okRun tabL funs o1K0 22 11 o1a1 o1r1 = true := by kernel_rfl
def o1K1 : List (Nat × List GV × GV) := (11, o1a1, o1r1) :: o1K0
def o1a2 : List GV := [.sym 0, .bool true]
def o1r2 : GV := .bool true
theorem o1run2 : @okRun tabL funs o1K1 22 3 o1a2 o1r2 = true := by kernel_rfl

section
variable (id : Int) (h1 : (-9223372036854775809) < id) (h2 : id < 1) (hr : IntKind.i64.wrap id = id)
theorem o1tri0 (st : St) : @Tri (symAt (-9223372036854775809) 1 id h1 h2 hr) Tryz.prog G0 25 o1a0 st o1r0 st :=
  @more (symAt (-9223372036854775809) 1 id h1 h2 hr) _ (@known6 (symAt (-9223372036854775809) 1 id h1 h2 hr)) _ _ _ _ o1run0 st
theorem o1known0 : @Known (symAt (-9223372036854775809) 1 id h1 h2 hr) Tryz.prog G0 o1K0 := @Known.cons (symAt (-9223372036854775809) 1 id h1 h2 hr) _ _ _ _ _ _ (o1tri0 id h1 h2 hr) (@known6 (symAt (-9223372036854775809) 1 id h1 h2 hr))
theorem o1tri1 (st : St) : @Tri (symAt (-9223372036854775809) 1 id h1 h2 hr) Tryz.prog G0 11 o1a1 st o1r1 st :=
  @more (symAt (-9223372036854775809) 1 id h1 h2 hr) _ (o1known0 id h1 h2 hr) _ _ _ _ o1run1 st
theorem o1known1 : @Known (symAt (-9223372036854775809) 1 id h1 h2 hr) Tryz.prog G0 o1K1 := @Known.cons (symAt (-9223372036854775809) 1 id h1 h2 hr) _ _ _ _ _ _ (o1tri1 id h1 h2 hr) (o1known0 id h1 h2 hr)
theorem o1tri2 (st : St) : @Tri (symAt (-9223372036854775809) 1 id h1 h2 hr) Tryz.prog G0 3 o1a2 st o1r2 st :=
  @more (symAt (-9223372036854775809) 1 id h1 h2 hr) _ (o1known1 id h1 h2 hr) _ _ _ _ o1run2 st
end
end Go.Proofs.YtghfcfmgnfhgbaaGreatDoor
namespace Go.Proofs.YtghfcfmgnfhgbaaGreatDoor
set_option maxRecDepth 100000

def o2a0 : List GV := [projV, .int .i64 1, .agg [.sl 1 false .exact [[.sl 1 false .exact [[.sl 3 false .exact [[.int .i64 4, .int .i64 1, .str []]]]]], [.sl 1 false .exact [[.sl 3 false .exact [[.int .i64 4, .int .i64 7, .str []], [.int .i64 4, .int .i64 1, .str []]]]]]]], .sl 3 false .no [[.int .i64 0, .sl 3 false .no [[.int .i64 4, .int .i64 1, .str []]], .sl 0 true .exact []], [.int .i64 1, .sl 0 true .exact [], .sl 3 false .no [[.int .i64 4, .sym 0, .str []], [.int .i64 4, .int .i64 3, .str []]]]]]
def o2r0 : GV := .tuple [.agg [.sl 1 false .no [[.sl 1 false .exact []], [.sl 1 false .no [[.sl 3 false .no [[.int .i64 4, .sym 0, .str []], [.int .i64 4, .int .i64 3, .str []]]], [.sl 3 false .no [[.int .i64 4, .int .i64 7, .str []], [.int .i64 4, .int .i64 1, .str []]]]]]]], .int .i64 0]
theorem o2run0 : @okRun tabM funs K6 22 25 o2a0 o2r0 = true := by kernel_rfl
def o2K0 : List (Nat × List GV × GV) := (25, o2a0, o2r0) :: K6
def o2a1 : List GV := [projV, .agg [.sl 1 false .exact [[.sl 1 false .exact [[.sl 3 false .exact [[.int .i64 4, .int .i64 1, .str []]]]]], [.sl 1 false .exact [[.sl 3 false .exact [[.int .i64 4, .int .i64 7, .str []], [.int .i64 4, .int .i64 1, .str []]]]]]]], .sl 5 false .exact [[.int .i64 3, .int .i64 0, .sl 3 false .exact [[.int .i64 4, .int .i64 1, .str []]], .sl 0 true .exact [], .sl 0 true .exact []], [.int .i64 1, .int .i64 1, .sl 3 false .exact [[.int .i64 4, .sym 0, .str []]], .sl 0 true .exact [], .sl 3 false .exact [[.int .i64 4, .sym 0, .str []], [.int .i64 4, .int .i64 3, .str []]]]]]
def o2r1 : GV := .tuple [.sl 3 false .no [[.int .i64 0, .sl 3 false .no [[.int .i64 4, .int .i64 1, .str []]], .sl 0 true .exact []], [.int .i64 1, .sl 0 true .exact [], .sl 3 false .no [[.int .i64 4, .sym 0, .str []], [.int .i64 4, .int .i64 3, .str []]]]], .agg [.int .i64 0, .int .i64 0, .int .i64 0, .sl 0 true .exact []], .int .i64 0]
theorem o2run1 : @okRun tabM funs o2K0 22 11 o2a1 o2r1 = true := by kernel_rfl
def o2K1 : List (Nat × List GV × GV) := (11, o2a1, o2r1) :: o2K0
def o2a2 : List GV := [projV, .agg [.sl 1 false .no [[.sl 1 false .exact []], [.sl 1 false .no [[.sl 3 false .no [[.int .i64 4, .sym 0, .str []], [.int .i64 4, .int .i64 3, .str []]]], [.sl 3 false .no [[.int .i64 4, .int .i64 7, .str []], [.int .i64 4, .int .i64 1, .str []]]]]]]], .agg [.int .i64 3, .int .i64 0, .int .i64 0, .int .i64 0, .int .i64 0, .int .i64 0, .int .i64 0, .int .i64 0, .str [], .int .i64 0, .int .i64 0, .int .i64 0, .int .i64 0, .str [], .sl 0 true .exact [], .sl 1 false .no [[.int .i64 0]], .sl 0 true .exact [], .sl 0 true .exact [], .sl 0 true .exact [], .int .i64 0, .sl 21 false .no [[.int .i64 1, .int .i64 0, .int .i64 0, .int .i64 0, .int .i64 0, .int .i64 0, .int .i64 0, .int .i64 0, .str [], .int .i64 0, .int .i64 0, .int .i64 0, .int .i64 0, .str [], .sl 0 true .exact [], .sl 0 true .exact [], .sl 0 true .exact [], .sl 0 true .exact [], .sl 0 true .exact [], .int .i64 0, .sl 0 true .exact []]]]]
def o2r2 : GV := .tuple [.sl 0 true .exact [], .int .i64 0]
theorem o2run2 : @okRun tabM funs o2K1 22 54 o2a2 o2r2 = true := by kernel_rfl
def o2K2 : List (Nat × List GV × GV) := (54, o2a2, o2r2) :: o2K1
def o2a3 : List GV := [projV, .agg [.sl 1 false .no [[.sl 1 false .exact []], [.sl 1 false .no [[.sl 3 false .no [[.int .i64 4, .sym 0, .str []], [.int .i64 4, .int .i64 3, .str []]]], [.sl 3 false .no [[.int .i64 4, .int .i64 7, .str []], [.int .i64 4, .int .i64 1, .str []]]]]]]], .agg [.int .i64 3, .int .i64 0, .int .i64 0, .int .i64 0, .int .i64 0, .int .i64 0, .int .i64 0, .int .i64 0, .str [], .int .i64 0, .int .i64 0, .int .i64 0, .int .i64 0, .str [], .sl 0 true .exact [], .sl 1 false .no [[.int .i64 0]], .sl 0 true .exact [], .sl 0 true .exact [], .sl 0 true .exact [], .int .i64 0, .sl 21 false .no [[.int .i64 1, .int .i64 1, .int .i64 0, .int .i64 0, .int .i64 0, .int .i64 0, .int .i64 0, .int .i64 0, .str [], .int .i64 0, .int .i64 0, .int .i64 0, .int .i64 0, .str [], .sl 0 true .exact [], .sl 0 true .exact [], .sl 0 true .exact [], .sl 0 true .exact [], .sl 0 true .exact [], .int .i64 0, .sl 0 true .exact []]]]]
def o2r3 : GV := .tuple [.sl 1 false .no [[.sl 3 false .no [[.int .i64 4, .sym 0, .str []]]], [.sl 3 false .no [[.int .i64 4, .int .i64 7, .str []]]]], .int .i64 0]
theorem o2run3 : @okRun tabM funs o2K2 22 54 o2a3 o2r3 = true := by kernel_rfl
def o2K3 : List (Nat × List GV × GV) := (54, o2a3, o2r3) :: o2K2
def o2a4 : List GV := [projV, .agg [.sl 0 true .exact [], .sl 24 false .no [[.int .i64 2, .int .i64 0, .sl 0 true .exact [], .int .i64 3, .int .i64 0, .int .i64 0, .int .i64 0, .int .i64 0, .int .i64 0, .int .i64 0, .int .i64 0, .str [], .int .i64 0, .int .i64 0, .int .i64 0, .int .i64 0, .str [], .sl 0 true .exact [], .sl 1 false .exact [[.int .i64 0]], .sl 0 true .exact [], .sl 0 true .exact [], .sl 0 true .exact [], .int .i64 0, .sl 21 false .exact [[.int .i64 1, .int .i64 0, .int .i64 0, .int .i64 0, .int .i64 0, .int .i64 0, .int .i64 0, .int .i64 0, .str [], .int .i64 0, .int .i64 0, .int .i64 0, .int .i64 0, .str [], .sl 0 true .exact [], .sl 0 true .exact [], .sl 0 true .exact [], .sl 0 true .exact [], .sl 0 true .exact [], .int .i64 0, .sl 0 true .exact []]]], [.int .i64 2, .int .i64 1, .sl 1 false .exact [[.int .i64 1]], .int .i64 3, .int .i64 0, .int .i64 0, .int .i64 0, .int .i64 0, .int .i64 0, .int .i64 0, .int .i64 0, .str [], .int .i64 0, .int .i64 0, .int .i64 0, .int .i64 0, .str [], .sl 0 true .exact [], .sl 1 false .exact [[.int .i64 0]], .sl 0 true .exact [], .sl 0 true .exact [], .sl 0 true .exact [], .int .i64 0, .sl 21 false .exact [[.int .i64 1, .int .i64 1, .int .i64 0, .int .i64 0, .int .i64 0, .int .i64 0, .int .i64 0, .int .i64 0, .str [], .int .i64 0, .int .i64 0, .int .i64 0, .int .i64 0, .str [], .sl 0 true .exact [], .sl 0 true .exact [], .sl 0 true .exact [], .sl 0 true .exact [], .sl 0 true .exact [], .int .i64 0, .sl 0 true .exact []]]]]], .sl 0 true .exact [], .agg [.sl 1 false .exact [[.sl 1 false .exact [[.sl 3 false .exact [[.int .i64 4, .int .i64 1, .str []]]]]], [.sl 1 false .exact [[.sl 3 false .exact [[.int .i64 4, .int .i64 7, .str []], [.int .i64 4, .int .i64 1, .str []]]]]]]], .sl 3 false .no [[.int .i64 0, .sl 3 false .no [[.int .i64 4, .int .i64 1, .str []]], .sl 0 true .exact []], [.int .i64 1, .sl 0 true .exact [], .sl 3 false .no [[.int .i64 4, .sym 0, .str []], [.int .i64 4, .int .i64 3, .str []]]]]]
def o2r4 : GV := .tuple [.sl 0 true .exact [], .int .i64 0]
theorem o2run4 : @okRun tabM funs o2K3 22 26 o2a4 o2r4 = true := by kernel_rfl
def o2K4 : List (Nat × List GV × GV) := (26, o2a4, o2r4) :: o2K3
def o2a5 : List GV := [projV, .agg [.sl 0 true .exact [], .sl 24 false .no [[.int .i64 2, .int .i64 0, .sl 0 true .exact [], .int .i64 3, .int .i64 0, .int .i64 0, .int .i64 0, .int .i64 0, .int .i64 0, .int .i64 0, .int .i64 0, .str [], .int .i64 0, .int .i64 0, .int .i64 0, .int .i64 0, .str [], .sl 0 true .exact [], .sl 1 false .exact [[.int .i64 0]], .sl 0 true .exact [], .sl 0 true .exact [], .sl 0 true .exact [], .int .i64 0, .sl 21 false .exact [[.int .i64 1, .int .i64 0, .int .i64 0, .int .i64 0, .int .i64 0, .int .i64 0, .int .i64 0, .int .i64 0, .str [], .int .i64 0, .int .i64 0, .int .i64 0, .int .i64 0, .str [], .sl 0 true .exact [], .sl 0 true .exact [], .sl 0 true .exact [], .sl 0 true .exact [], .sl 0 true .exact [], .int .i64 0, .sl 0 true .exact []]]], [.int .i64 2, .int .i64 1, .sl 1 false .exact [[.int .i64 1]], .int .i64 3, .int .i64 0, .int .i64 0, .int .i64 0, .int .i64 0, .int .i64 0, .int .i64 0, .int .i64 0, .str [], .int .i64 0, .int .i64 0, .int .i64 0, .int .i64 0, .str [], .sl 0 true .exact [], .sl 1 false .exact [[.int .i64 0]], .sl 0 true .exact [], .sl 0 true .exact [], .sl 0 true .exact [], .int .i64 0, .sl 21 false .exact [[.int .i64 1, .int .i64 1, .int .i64 0, .int .i64 0, .int .i64 0, .int .i64 0, .int .i64 0, .int .i64 0, .str [], .int .i64 0, .int .i64 0, .int .i64 0, .int .i64 0, .str [], .sl 0 true .exact [], .sl 0 true .exact [], .sl 0 true .exact [], .sl 0 true .exact [], .sl 0 true .exact [], .int .i64 0, .sl 0 true .exact []]]]]], .sl 0 true .exact [], .agg [.sl 1 false .exact [[.sl 1 false .exact [[.sl 3 false .exact [[.int .i64 4, .int .i64 1, .str []]]]]], [.sl 1 false .exact [[.sl 3 false .exact [[.int .i64 4, .int .i64 7, .str []], [.int .i64 4, .int .i64 1, .str []]]]]]]], .sl 5 false .exact [[.int .i64 3, .int .i64 0, .sl 3 false .exact [[.int .i64 4, .int .i64 1, .str []]], .sl 0 true .exact [], .sl 0 true .exact []], [.int .i64 1, .int .i64 1, .sl 3 false .exact [[.int .i64 4, .sym 0, .str []]], .sl 0 true .exact [], .sl 3 false .exact [[.int .i64 4, .sym 0, .str []], [.int .i64 4, .int .i64 3, .str []]]]]]
def o2r5 : GV := .tuple [.sl 0 true .exact [], .agg [.int .i64 8, .int .i64 10, .int .i64 1, .sl 3 false .no [[.int .i64 4, .sym 0, .str []]]], .int .i64 0]
theorem o2run5 : @okRun tabM funs o2K4 22 6 o2a5 o2r5 = true := by kernel_rfl
def o2K5 : List (Nat × List GV × GV) := (6, o2a5, o2r5) :: o2K4
def o2a6 : List GV := [.sym 0, .bool false]
def o2r6 : GV := .bool true
theorem o2run6 : @okRun tabM funs o2K5 22 3 o2a6 o2r6 = true := by kernel_rfl

section
variable (id : Int) (h1 : 1 < id) (h2 : id < 7) (hr : IntKind.i64.wrap id = id)
theorem o2tri0 (st : St) : @Tri (symAt 1 7 id h1 h2 hr) Tryz.prog G0 25 o2a0 st o2r0 st :=
  @more (symAt 1 7 id h1 h2 hr) _ (@known6 (symAt 1 7 id h1 h2 hr)) _ _ _ _ o2run0 st
theorem o2known0 : @Known (symAt 1 7 id h1 h2 hr) Tryz.prog G0 o2K0 := @Known.cons (symAt 1 7 id h1 h2 hr) _ _ _ _ _ _ (o2tri0 id h1 h2 hr) (@known6 (symAt 1 7 id h1 h2 hr))
theorem o2tri1 (st : St) : @Tri (symAt 1 7 id h1 h2 hr) Tryz.prog G0 11 o2a1 st o2r1 st :=
  @more (symAt 1 7 id h1 h2 hr) _ (o2known0 id h1 h2 hr) _ _ _ _ o2run1 st
theorem o2known1 : @Known (symAt 1 7 id h1 h2 hr) Tryz.prog G0 o2K1 := @Known.cons (symAt 1 7 id h1 h2 hr) _ _ _ _ _ _ (o2tri1 id h1 h2 hr) (o2known0 id h1 h2 hr)
theorem o2tri2 (st : St) : @Tri (symAt 1 7 id h1 h2 hr) Tryz.prog G0 54 o2a2 st o2r2 st :=
  @more (symAt 1 7 id h1 h2 hr) _ (o2known1 id h1 h2 hr) _ _ _ _ o2run2 st
theorem o2known2 : @Known (symAt 1 7 id h1 h2 hr) Tryz.prog G0 o2K2 := @Known.cons (symAt 1 7 id h1 h2 hr) _ _ _ _ _ _ (o2tri2 id h1 h2 hr) (o2known1 id h1 h2 hr)
theorem o2tri3 (st : St) : @Tri (symAt 1 7 id h1 h2 hr) Tryz.prog G0 54 o2a3 st o2r3 st :=
  @more (symAt 1 7 id h1 h2 hr) _ (o2known2 id h1 h2 hr) _ _ _ _ o2run3 st
theorem o2known3 : @Known (symAt 1 7 id h1 h2 hr) Tryz.prog G0 o2K3 := @Known.cons (symAt 1 7 id h1 h2 hr) _ _ _ _ _ _ (o2tri3 id h1 h2 hr) (o2known2 id h1 h2 hr)
theorem o2tri4 (st : St) : @Tri (symAt 1 7 id h1 h2 hr) Tryz.prog G0 26 o2a4 st o2r4 st :=
  @more (symAt 1 7 id h1 h2 hr) _ (o2known3 id h1 h2 hr) _ _ _ _ o2run4 st
theorem o2known4 : @Known (symAt 1 7 id h1 h2 hr) Tryz.prog G0 o2K4 := @Known.cons (symAt 1 7 id h1 h2 hr) _ _ _ _ _ _ (o2tri4 id h1 h2 hr) (o2known3 id h1 h2 hr)
theorem o2tri5 (st : St) : @Tri (symAt 1 7 id h1 h2 hr) Tryz.prog G0 6 o2a5 st o2r5 st :=
  @more (symAt 1 7 id h1 h2 hr) _ (o2known4 id h1 h2 hr) _ _ _ _ o2run5 st
theorem o2known5 : @Known (symAt 1 7 id h1 h2 hr) Tryz.prog G0 o2K5 := @Known.cons (symAt 1 7 id h1 h2 hr) _ _ _ _ _ _ (o2tri5 id h1 h2 hr) (o2known4 id h1 h2 hr)
theorem o2tri6 (st : St) : @Tri (symAt 1 7 id h1 h2 hr) Tryz.prog G0 3 o2a6 st o2r6 st :=
  @more (symAt 1 7 id h1 h2 hr) _ (o2known5 id h1 h2 hr) _ _ _ _ o2run6 st
end
end Go.Proofs.YtghfcfmgnfhgbaaGreatDoor
namespace Go.Proofs.YtghfcfmgnfhgbaaGreatDoor
set_option maxRecDepth 100000

def o3a0 : List GV := [projV, .int .i64 1, .agg [.sl 1 false .exact [[.sl 1 false .exact [[.sl 3 false .exact [[.int .i64 4, .int .i64 1, .str []]]]]], [.sl 1 false .exact [[.sl 3 false .exact [[.int .i64 4, .int .i64 7, .str []], [.int .i64 4, .int .i64 1, .str []]]]]]]], .sl 3 false .no [[.int .i64 0, .sl 3 false .no [[.int .i64 4, .int .i64 1, .str []]], .sl 0 true .exact []], [.int .i64 1, .sl 0 true .exact [], .sl 3 false .no [[.int .i64 4, .sym 0, .str []], [.int .i64 4, .int .i64 3, .str []]]]]]
def o3r0 : GV := .tuple [.agg [.sl 1 false .no [[.sl 1 false .exact []], [.sl 1 false .no [[.sl 3 false .no [[.int .i64 4, .sym 0, .str []], [.int .i64 4, .int .i64 3, .str []]]], [.sl 3 false .no [[.int .i64 4, .int .i64 7, .str []], [.int .i64 4, .int .i64 1, .str []]]]]]]], .int .i64 0]
theorem o3run0 : @okRun tabM funs K6 22 25 o3a0 o3r0 = true := by kernel_rfl
def o3K0 : List (Nat × List GV × GV) := (25, o3a0, o3r0) :: K6
def o3a1 : List GV := [projV, .agg [.sl 1 false .exact [[.sl 1 false .exact [[.sl 3 false .exact [[.int .i64 4, .int .i64 1, .str []]]]]], [.sl 1 false .exact [[.sl 3 false .exact [[.int .i64 4, .int .i64 7, .str []], [.int .i64 4, .int .i64 1, .str []]]]]]]], .sl 5 false .exact [[.int .i64 3, .int .i64 0, .sl 3 false .exact [[.int .i64 4, .int .i64 1, .str []]], .sl 0 true .exact [], .sl 0 true .exact []], [.int .i64 1, .int .i64 1, .sl 3 false .exact [[.int .i64 4, .sym 0, .str []]], .sl 0 true .exact [], .sl 3 false .exact [[.int .i64 4, .sym 0, .str []], [.int .i64 4, .int .i64 3, .str []]]]]]
def o3r1 : GV := .tuple [.sl 3 false .no [[.int .i64 0, .sl 3 false .no [[.int .i64 4, .int .i64 1, .str []]], .sl 0 true .exact []], [.int .i64 1, .sl 0 true .exact [], .sl 3 false .no [[.int .i64 4, .sym 0, .str []], [.int .i64 4, .int .i64 3, .str []]]]], .agg [.int .i64 0, .int .i64 0, .int .i64 0, .sl 0 true .exact []], .int .i64 0]
theorem o3run1 : @okRun tabM funs o3K0 22 11 o3a1 o3r1 = true := by kernel_rfl
def o3K1 : List (Nat × List GV × GV) := (11, o3a1, o3r1) :: o3K0
def o3a2 : List GV := [.sym 0, .bool true]
def o3r2 : GV := .bool true
theorem o3run2 : @okRun tabM funs o3K1 22 3 o3a2 o3r2 = true := by kernel_rfl

section
variable (id : Int) (h1 : 1 < id) (h2 : id < 7) (hr : IntKind.i64.wrap id = id)
theorem o3tri0 (st : St) : @Tri (symAt 1 7 id h1 h2 hr) Tryz.prog G0 25 o3a0 st o3r0 st :=
  @more (symAt 1 7 id h1 h2 hr) _ (@known6 (symAt 1 7 id h1 h2 hr)) _ _ _ _ o3run0 st
theorem o3known0 : @Known (symAt 1 7 id h1 h2 hr) Tryz.prog G0 o3K0 := @Known.cons (symAt 1 7 id h1 h2 hr) _ _ _ _ _ _ (o3tri0 id h1 h2 hr) (@known6 (symAt 1 7 id h1 h2 hr))
theorem o3tri1 (st : St) : @Tri (symAt 1 7 id h1 h2 hr) Tryz.prog G0 11 o3a1 st o3r1 st :=
  @more (symAt 1 7 id h1 h2 hr) _ (o3known0 id h1 h2 hr) _ _ _ _ o3run1 st
theorem o3known1 : @Known (symAt 1 7 id h1 h2 hr) Tryz.prog G0 o3K1 := @Known.cons (symAt 1 7 id h1 h2 hr) _ _ _ _ _ _ (o3tri1 id h1 h2 hr) (o3known0 id h1 h2 hr)
theorem o3tri2 (st : St) : @Tri (symAt 1 7 id h1 h2 hr) Tryz.prog G0 3 o3a2 st o3r2 st :=
  @more (symAt 1 7 id h1 h2 hr) _ (o3known1 id h1 h2 hr) _ _ _ _ o3run2 st
end
end Go.Proofs.YtghfcfmgnfhgbaaGreatDoor
namespace Go.Proofs.YtghfcfmgnfhgbaaGreatDoor
set_option maxRecDepth 100000

def o4a0 : List GV := [projV, .int .i64 1, .agg [.sl 1 false .exact [[.sl 1 false .exact [[.sl 3 false .exact [[.int .i64 4, .int .i64 1, .str []]]]]], [.sl 1 false .exact [[.sl 3 false .exact [[.int .i64 4, .int .i64 7, .str []], [.int .i64 4, .int .i64 1, .str []]]]]]]], .sl 3 false .no [[.int .i64 0, .sl 3 false .no [[.int .i64 4, .int .i64 1, .str []]], .sl 0 true .exact []], [.int .i64 1, .sl 0 true .exact [], .sl 3 false .no [[.int .i64 4, .sym 0, .str []], [.int .i64 4, .int .i64 3, .str []]]]]]
def o4r0 : GV := .tuple [.agg [.sl 1 false .no [[.sl 1 false .exact []], [.sl 1 false .exact [[.sl 3 false .no [[.int .i64 4, .int .i64 7, .str []], [.int .i64 4, .int .i64 1, .str []]]], [.sl 3 false .no [[.int .i64 4, .sym 0, .str []], [.int .i64 4, .int .i64 3, .str []]]]]]]], .int .i64 0]
theorem o4run0 : @okRun tabR funs K6 22 25 o4a0 o4r0 = true := by kernel_rfl
def o4K0 : List (Nat × List GV × GV) := (25, o4a0, o4r0) :: K6
def o4a1 : List GV := [projV, .agg [.sl 1 false .exact [[.sl 1 false .exact [[.sl 3 false .exact [[.int .i64 4, .int .i64 1, .str []]]]]], [.sl 1 false .exact [[.sl 3 false .exact [[.int .i64 4, .int .i64 7, .str []], [.int .i64 4, .int .i64 1, .str []]]]]]]], .sl 5 false .exact [[.int .i64 3, .int .i64 0, .sl 3 false .exact [[.int .i64 4, .int .i64 1, .str []]], .sl 0 true .exact [], .sl 0 true .exact []], [.int .i64 1, .int .i64 1, .sl 3 false .exact [[.int .i64 4, .sym 0, .str []]], .sl 0 true .exact [], .sl 3 false .exact [[.int .i64 4, .sym 0, .str []], [.int .i64 4, .int .i64 3, .str []]]]]]
def o4r1 : GV := .tuple [.sl 3 false .no [[.int .i64 0, .sl 3 false .no [[.int .i64 4, .int .i64 1, .str []]], .sl 0 true .exact []], [.int .i64 1, .sl 0 true .exact [], .sl 3 false .no [[.int .i64 4, .sym 0, .str []], [.int .i64 4, .int .i64 3, .str []]]]], .agg [.int .i64 0, .int .i64 0, .int .i64 0, .sl 0 true .exact []], .int .i64 0]
theorem o4run1 : @okRun tabR funs o4K0 22 11 o4a1 o4r1 = true := by kernel_rfl
def o4K1 : List (Nat × List GV × GV) := (11, o4a1, o4r1) :: o4K0
def o4a2 : List GV := [projV, .agg [.sl 1 false .no [[.sl 1 false .exact []], [.sl 1 false .exact [[.sl 3 false .no [[.int .i64 4, .int .i64 7, .str []], [.int .i64 4, .int .i64 1, .str []]]], [.sl 3 false .no [[.int .i64 4, .sym 0, .str []], [.int .i64 4, .int .i64 3, .str []]]]]]]], .agg [.int .i64 3, .int .i64 0, .int .i64 0, .int .i64 0, .int .i64 0, .int .i64 0, .int .i64 0, .int .i64 0, .str [], .int .i64 0, .int .i64 0, .int .i64 0, .int .i64 0, .str [], .sl 0 true .exact [], .sl 1 false .no [[.int .i64 0]], .sl 0 true .exact [], .sl 0 true .exact [], .sl 0 true .exact [], .int .i64 0, .sl 21 false .no [[.int .i64 1, .int .i64 0, .int .i64 0, .int .i64 0, .int .i64 0, .int .i64 0, .int .i64 0, .int .i64 0, .str [], .int .i64 0, .int .i64 0, .int .i64 0, .int .i64 0, .str [], .sl 0 true .exact [], .sl 0 true .exact [], .sl 0 true .exact [], .sl 0 true .exact [], .sl 0 true .exact [], .int .i64 0, .sl 0 true .exact []]]]]
def o4r2 : GV := .tuple [.sl 0 true .exact [], .int .i64 0]
theorem o4run2 : @okRun tabR funs o4K1 22 54 o4a2 o4r2 = true := by kernel_rfl
def o4K2 : List (Nat × List GV × GV) := (54, o4a2, o4r2) :: o4K1
def o4a3 : List GV := [projV, .agg [.sl 1 false .no [[.sl 1 false .exact []], [.sl 1 false .exact [[.sl 3 false .no [[.int .i64 4, .int .i64 7, .str []], [.int .i64 4, .int .i64 1, .str []]]], [.sl 3 false .no [[.int .i64 4, .sym 0, .str []], [.int .i64 4, .int .i64 3, .str []]]]]]]], .agg [.int .i64 3, .int .i64 0, .int .i64 0, .int .i64 0, .int .i64 0, .int .i64 0, .int .i64 0, .int .i64 0, .str [], .int .i64 0, .int .i64 0, .int .i64 0, .int .i64 0, .str [], .sl 0 true .exact [], .sl 1 false .no [[.int .i64 0]], .sl 0 true .exact [], .sl 0 true .exact [], .sl 0 true .exact [], .int .i64 0, .sl 21 false .no [[.int .i64 1, .int .i64 1, .int .i64 0, .int .i64 0, .int .i64 0, .int .i64 0, .int .i64 0, .int .i64 0, .str [], .int .i64 0, .int .i64 0, .int .i64 0, .int .i64 0, .str [], .sl 0 true .exact [], .sl 0 true .exact [], .sl 0 true .exact [], .sl 0 true .exact [], .sl 0 true .exact [], .int .i64 0, .sl 0 true .exact []]]]]
def o4r3 : GV := .tuple [.sl 1 false .no [[.sl 3 false .no [[.int .i64 4, .int .i64 7, .str []]]], [.sl 3 false .no [[.int .i64 4, .sym 0, .str []]]]], .int .i64 0]
theorem o4run3 : @okRun tabR funs o4K2 22 54 o4a3 o4r3 = true := by kernel_rfl
def o4K3 : List (Nat × List GV × GV) := (54, o4a3, o4r3) :: o4K2
def o4a4 : List GV := [projV, .agg [.sl 0 true .exact [], .sl 24 false .no [[.int .i64 2, .int .i64 0, .sl 0 true .exact [], .int .i64 3, .int .i64 0, .int .i64 0, .int .i64 0, .int .i64 0, .int .i64 0, .int .i64 0, .int .i64 0, .str [], .int .i64 0, .int .i64 0, .int .i64 0, .int .i64 0, .str [], .sl 0 true .exact [], .sl 1 false .exact [[.int .i64 0]], .sl 0 true .exact [], .sl 0 true .exact [], .sl 0 true .exact [], .int .i64 0, .sl 21 false .exact [[.int .i64 1, .int .i64 0, .int .i64 0, .int .i64 0, .int .i64 0, .int .i64 0, .int .i64 0, .int .i64 0, .str [], .int .i64 0, .int .i64 0, .int .i64 0, .int .i64 0, .str [], .sl 0 true .exact [], .sl 0 true .exact [], .sl 0 true .exact [], .sl 0 true .exact [], .sl 0 true .exact [], .int .i64 0, .sl 0 true .exact []]]], [.int .i64 2, .int .i64 1, .sl 1 false .exact [[.int .i64 1]], .int .i64 3, .int .i64 0, .int .i64 0, .int .i64 0, .int .i64 0, .int .i64 0, .int .i64 0, .int .i64 0, .str [], .int .i64 0, .int .i64 0, .int .i64 0, .int .i64 0, .str [], .sl 0 true .exact [], .sl 1 false .exact [[.int .i64 0]], .sl 0 true .exact [], .sl 0 true .exact [], .sl 0 true .exact [], .int .i64 0, .sl 21 false .exact [[.int .i64 1, .int .i64 1, .int .i64 0, .int .i64 0, .int .i64 0, .int .i64 0, .int .i64 0, .int .i64 0, .str [], .int .i64 0, .int .i64 0, .int .i64 0, .int .i64 0, .str [], .sl 0 true .exact [], .sl 0 true .exact [], .sl 0 true .exact [], .sl 0 true .exact [], .sl 0 true .exact [], .int .i64 0, .sl 0 true .exact []]]]]], .sl 0 true .exact [], .agg [.sl 1 false .exact [[.sl 1 false .exact [[.sl 3 false .exact [[.int .i64 4, .int .i64 1, .str []]]]]], [.sl 1 false .exact [[.sl 3 false .exact [[.int .i64 4, .int .i64 7, .str []], [.int .i64 4, .int .i64 1, .str []]]]]]]], .sl 3 false .no [[.int .i64 0, .sl 3 false .no [[.int .i64 4, .int .i64 1, .str []]], .sl 0 true .exact []], [.int .i64 1, .sl 0 true .exact [], .sl 3 false .no [[.int .i64 4, .sym 0, .str []], [.int .i64 4, .int .i64 3, .str []]]]]]
def o4r4 : GV := .tuple [.sl 0 true .exact [], .int .i64 0]
theorem o4run4 : @okRun tabR funs o4K3 22 26 o4a4 o4r4 = true := by kernel_rfl
def o4K4 : List (Nat × List GV × GV) := (26, o4a4, o4r4) :: o4K3
def o4a5 : List GV := [projV, .agg [.sl 0 true .exact [], .sl 24 false .no [[.int .i64 2, .int .i64 0, .sl 0 true .exact [], .int .i64 3, .int .i64 0, .int .i64 0, .int .i64 0, .int .i64 0, .int .i64 0, .int .i64 0, .int .i64 0, .str [], .int .i64 0, .int .i64 0, .int .i64 0, .int .i64 0, .str [], .sl 0 true .exact [], .sl 1 false .exact [[.int .i64 0]], .sl 0 true .exact [], .sl 0 true .exact [], .sl 0 true .exact [], .int .i64 0, .sl 21 false .exact [[.int .i64 1, .int .i64 0, .int .i64 0, .int .i64 0, .int .i64 0, .int .i64 0, .int .i64 0, .int .i64 0, .str [], .int .i64 0, .int .i64 0, .int .i64 0, .int .i64 0, .str [], .sl 0 true .exact [], .sl 0 true .exact [], .sl 0 true .exact [], .sl 0 true .exact [], .sl 0 true .exact [], .int .i64 0, .sl 0 true .exact []]]], [.int .i64 2, .int .i64 1, .sl 1 false .exact [[.int .i64 1]], .int .i64 3, .int .i64 0, .int .i64 0, .int .i64 0, .int .i64 0, .int .i64 0, .int .i64 0, .int .i64 0, .str [], .int .i64 0, .int .i64 0, .int .i64 0, .int .i64 0, .str [], .sl 0 true .exact [], .sl 1 false .exact [[.int .i64 0]], .sl 0 true .exact [], .sl 0 true .exact [], .sl 0 true .exact [], .int .i64 0, .sl 21 false .exact [[.int .i64 1, .int .i64 1, .int .i64 0, .int .i64 0, .int .i64 0, .int .i64 0, .int .i64 0, .int .i64 0, .str [], .int .i64 0, .int .i64 0, .int .i64 0, .int .i64 0, .str [], .sl 0 true .exact [], .sl 0 true .exact [], .sl 0 true .exact [], .sl 0 true .exact [], .sl 0 true .exact [], .int .i64 0, .sl 0 true .exact []]]]]], .sl 0 true .exact [], .agg [.sl 1 false .exact [[.sl 1 false .exact [[.sl 3 false .exact [[.int .i64 4, .int .i64 1, .str []]]]]], [.sl 1 false .exact [[.sl 3 false .exact [[.int .i64 4, .int .i64 7, .str []], [.int .i64 4, .int .i64 1, .str []]]]]]]], .sl 5 false .exact [[.int .i64 3, .int .i64 0, .sl 3 false .exact [[.int .i64 4, .int .i64 1, .str []]], .sl 0 true .exact [], .sl 0 true .exact []], [.int .i64 1, .int .i64 1, .sl 3 false .exact [[.int .i64 4, .sym 0, .str []]], .sl 0 true .exact [], .sl 3 false .exact [[.int .i64 4, .sym 0, .str []], [.int .i64 4, .int .i64 3, .str []]]]]]
def o4r5 : GV := .tuple [.sl 0 true .exact [], .agg [.int .i64 8, .int .i64 10, .int .i64 0, .sl 0 true .exact []], .int .i64 0]
theorem o4run5 : @okRun tabR funs o4K4 22 6 o4a5 o4r5 = true := by kernel_rfl
def o4K5 : List (Nat × List GV × GV) := (6, o4a5, o4r5) :: o4K4
def o4a6 : List GV := [.sym 0, .bool false]
def o4r6 : GV := .bool true
theorem o4run6 : @okRun tabR funs o4K5 22 3 o4a6 o4r6 = true := by kernel_rfl

section
variable (id : Int) (h1 : 7 < id) (h2 : id < 9223372036854775808) (hr : IntKind.i64.wrap id = id)
theorem o4tri0 (st : St) : @Tri (symAt 7 9223372036854775808 id h1 h2 hr) Tryz.prog G0 25 o4a0 st o4r0 st :=
  @more (symAt 7 9223372036854775808 id h1 h2 hr) _ (@known6 (symAt 7 9223372036854775808 id h1 h2 hr)) _ _ _ _ o4run0 st
theorem o4known0 : @Known (symAt 7 9223372036854775808 id h1 h2 hr) Tryz.prog G0 o4K0 := @Known.cons (symAt 7 9223372036854775808 id h1 h2 hr) _ _ _ _ _ _ (o4tri0 id h1 h2 hr) (@known6 (symAt 7 9223372036854775808 id h1 h2 hr))
theorem o4tri1 (st : St) : @Tri (symAt 7 9223372036854775808 id h1 h2 hr) Tryz.prog G0 11 o4a1 st o4r1 st :=
  @more (symAt 7 9223372036854775808 id h1 h2 hr) _ (o4known0 id h1 h2 hr) _ _ _ _ o4run1 st
theorem o4known1 : @Known (symAt 7 9223372036854775808 id h1 h2 hr) Tryz.prog G0 o4K1 := @Known.cons (symAt 7 9223372036854775808 id h1 h2 hr) _ _ _ _ _ _ (o4tri1 id h1 h2 hr) (o4known0 id h1 h2 hr)
theorem o4tri2 (st : St) : @Tri (symAt 7 9223372036854775808 id h1 h2 hr) Tryz.prog G0 54 o4a2 st o4r2 st :=
  @more (symAt 7 9223372036854775808 id h1 h2 hr) _ (o4known1 id h1 h2 hr) _ _ _ _ o4run2 st
theorem o4known2 : @Known (symAt 7 9223372036854775808 id h1 h2 hr) Tryz.prog G0 o4K2 := @Known.cons (symAt 7 9223372036854775808 id h1 h2 hr) _ _ _ _ _ _ (o4tri2 id h1 h2 hr) (o4known1 id h1 h2 hr)
theorem o4tri3 (st : St) : @Tri (symAt 7 9223372036854775808 id h1 h2 hr) Tryz.prog G0 54 o4a3 st o4r3 st :=
  @more (symAt 7 9223372036854775808 id h1 h2 hr) _ (o4known2 id h1 h2 hr) _ _ _ _ o4run3 st
theorem o4known3 : @Known (symAt 7 9223372036854775808 id h1 h2 hr) Tryz.prog G0 o4K3 := @Known.cons (symAt 7 9223372036854775808 id h1 h2 hr) _ _ _ _ _ _ (o4tri3 id h1 h2 hr) (o4known2 id h1 h2 hr)
theorem o4tri4 (st : St) : @Tri (symAt 7 9223372036854775808 id h1 h2 hr) Tryz.prog G0 26 o4a4 st o4r4 st :=
  @more (symAt 7 9223372036854775808 id h1 h2 hr) _ (o4known3 id h1 h2 hr) _ _ _ _ o4run4 st
theorem o4known4 : @Known (symAt 7 9223372036854775808 id h1 h2 hr) Tryz.prog G0 o4K4 := @Known.cons (symAt 7 9223372036854775808 id h1 h2 hr) _ _ _ _ _ _ (o4tri4 id h1 h2 hr) (o4known3 id h1 h2 hr)
theorem o4tri5 (st : St) : @Tri (symAt 7 9223372036854775808 id h1 h2 hr) Tryz.prog G0 6 o4a5 st o4r5 st :=
  @more (symAt 7 9223372036854775808 id h1 h2 hr) _ (o4known4 id h1 h2 hr) _ _ _ _ o4run5 st
theorem o4known5 : @Known (symAt 7 9223372036854775808 id h1 h2 hr) Tryz.prog G0 o4K5 := @Known.cons (symAt 7 9223372036854775808 id h1 h2 hr) _ _ _ _ _ _ (o4tri5 id h1 h2 hr) (o4known4 id h1 h2 hr)
theorem o4tri6 (st : St) : @Tri (symAt 7 9223372036854775808 id h1 h2 hr) Tryz.prog G0 3 o4a6 st o4r6 st :=
  @more (symAt 7 9223372036854775808 id h1 h2 hr) _ (o4known5 id h1 h2 hr) _ _ _ _ o4run6 st
end
end Go.Proofs.YtghfcfmgnfhgbaaGreatDoor
namespace Go.Proofs.YtghfcfmgnfhgbaaGreatDoor
set_option maxRecDepth 100000

def o5a0 : List GV := [projV, .int .i64 1, .agg [.sl 1 false .exact [[.sl 1 false .exact [[.sl 3 false .exact [[.int .i64 4, .int .i64 1, .str []]]]]], [.sl 1 false .exact [[.sl 3 false .exact [[.int .i64 4, .int .i64 7, .str []], [.int .i64 4, .int .i64 1, .str []]]]]]]], .sl 3 false .no [[.int .i64 0, .sl 3 false .no [[.int .i64 4, .int .i64 1, .str []]], .sl 0 true .exact []], [.int .i64 1, .sl 0 true .exact [], .sl 3 false .no [[.int .i64 4, .sym 0, .str []], [.int .i64 4, .int .i64 3, .str []]]]]]
def o5r0 : GV := .tuple [.agg [.sl 1 false .no [[.sl 1 false .exact []], [.sl 1 false .exact [[.sl 3 false .no [[.int .i64 4, .int .i64 7, .str []], [.int .i64 4, .int .i64 1, .str []]]], [.sl 3 false .no [[.int .i64 4, .sym 0, .str []], [.int .i64 4, .int .i64 3, .str []]]]]]]], .int .i64 0]
theorem o5run0 : @okRun tabR funs K6 22 25 o5a0 o5r0 = true := by kernel_rfl
def o5K0 : List (Nat × List GV × GV) := (25, o5a0, o5r0) :: K6
def o5a1 : List GV := [projV, .agg [.sl 1 false .exact [[.sl 1 false .exact [[.sl 3 false .exact [[.int .i64 4, .int .i64 1, .str []]]]]], [.sl 1 false .exact [[.sl 3 false .exact [[.int .i64 4, .int .i64 7, .str []], [.int .i64 4, .int .i64 1, .str []]]]]]]], .sl 5 false .exact [[.int .i64 3, .int .i64 0, .sl 3 false .exact [[.int .i64 4, .int .i64 1, .str []]], .sl 0 true .exact [], .sl 0 true .exact []], [.int .i64 1, .int .i64 1, .sl 3 false .exact [[.int .i64 4, .sym 0, .str []]], .sl 0 true .exact [], .sl 3 false .exact [[.int .i64 4, .sym 0, .str []], [.int .i64 4, .int .i64 3, .str []]]]]]
def o5r1 : GV := .tuple [.sl 3 false .no [[.int .i64 0, .sl 3 false .no [[.int .i64 4, .int .i64 1, .str []]], .sl 0 true .exact []], [.int .i64 1, .sl 0 true .exact [], .sl 3 false .no [[.int .i64 4, .sym 0, .str []], [.int .i64 4, .int .i64 3, .str []]]]], .agg [.int .i64 0, .int .i64 0, .int .i64 0, .sl 0 true .exact []], .int .i64 0]
theorem o5run1 : @okRun tabR funs o5K0 22 11 o5a1 o5r1 = true := by kernel_rfl
def o5K1 : List (Nat × List GV × GV) := (11, o5a1, o5r1) :: o5K0
def o5a2 : List GV := [.sym 0, .bool true]
def o5r2 : GV := .bool true
theorem o5run2 : @okRun tabR funs o5K1 22 3 o5a2 o5r2 = true := by kernel_rfl

section
variable (id : Int) (h1 : 7 < id) (h2 : id < 9223372036854775808) (hr : IntKind.i64.wrap id = id)
theorem o5tri0 (st : St) : @Tri (symAt 7 9223372036854775808 id h1 h2 hr) Tryz.prog G0 25 o5a0 st o5r0 st :=
  @more (symAt 7 9223372036854775808 id h1 h2 hr) _ (@known6 (symAt 7 9223372036854775808 id h1 h2 hr)) _ _ _ _ o5run0 st
theorem o5known0 : @Known (symAt 7 9223372036854775808 id h1 h2 hr) Tryz.prog G0 o5K0 := @Known.cons (symAt 7 9223372036854775808 id h1 h2 hr) _ _ _ _ _ _ (o5tri0 id h1 h2 hr) (@known6 (symAt 7 9223372036854775808 id h1 h2 hr))
theorem o5tri1 (st : St) : @Tri (symAt 7 9223372036854775808 id h1 h2 hr) Tryz.prog G0 11 o5a1 st o5r1 st :=
  @more (symAt 7 9223372036854775808 id h1 h2 hr) _ (o5known0 id h1 h2 hr) _ _ _ _ o5run1 st
theorem o5known1 : @Known (symAt 7 9223372036854775808 id h1 h2 hr) Tryz.prog G0 o5K1 := @Known.cons (symAt 7 9223372036854775808 id h1 h2 hr) _ _ _ _ _ _ (o5tri1 id h1 h2 hr) (o5known0 id h1 h2 hr)
theorem o5tri2 (st : St) : @Tri (symAt 7 9223372036854775808 id h1 h2 hr) Tryz.prog G0 3 o5a2 st o5r2 st :=
  @more (symAt 7 9223372036854775808 id h1 h2 hr) _ (o5known1 id h1 h2 hr) _ _ _ _ o5run2 st
end
end Go.Proofs.YtghfcfmgnfhgbaaGreatDoor
namespace Go.Proofs.YtghfcfmgnfhgbaaGreatDoor
set_option maxRecDepth 100000

def o6a0 : List GV := [projV, .int .i64 1, .agg [.sl 1 false .exact [[.sl 1 false .exact [[.sl 3 false .exact [[.int .i64 4, .int .i64 1, .str []]]]]], [.sl 1 false .exact [[.sl 3 false .exact [[.int .i64 4, .int .i64 7, .str []], [.int .i64 4, .int .i64 1, .str []]]]]]]], .sl 3 false .no [[.int .i64 0, .sl 3 false .no [[.int .i64 4, .int .i64 1, .str []]], .sl 0 true .exact []], [.int .i64 1, .sl 0 true .exact [], .sl 3 false .no [[.int .i64 4, .int .i64 1, .str []], [.int .i64 4, .int .i64 3, .str []]]]]]
def o6r0 : GV := .tuple [.agg [.sl 1 false .no [[.sl 1 false .exact []], [.sl 1 false .no [[.sl 3 false .no [[.int .i64 4, .int .i64 1, .str []], [.int .i64 4, .int .i64 3, .str []]]], [.sl 3 false .no [[.int .i64 4, .int .i64 7, .str []], [.int .i64 4, .int .i64 1, .str []]]]]]]], .int .i64 0]
theorem o6run0 [Tab] : okRun funs K6 22 25 o6a0 o6r0 = true := by kernel_rfl
def o6K0 : List (Nat × List GV × GV) := (25, o6a0, o6r0) :: K6
def o6a1 : List GV := [projV, .agg [.sl 1 false .exact [[.sl 1 false .exact [[.sl 3 false .exact [[.int .i64 4, .int .i64 1, .str []]]]]], [.sl 1 false .exact [[.sl 3 false .exact [[.int .i64 4, .int .i64 7, .str []], [.int .i64 4, .int .i64 1, .str []]]]]]]], .sl 5 false .exact [[.int .i64 3, .int .i64 0, .sl 3 false .exact [[.int .i64 4, .int .i64 1, .str []]], .sl 0 true .exact [], .sl 0 true .exact []], [.int .i64 1, .int .i64 1, .sl 3 false .exact [[.int .i64 4, .int .i64 1, .str []]], .sl 0 true .exact [], .sl 3 false .exact [[.int .i64 4, .int .i64 1, .str []], [.int .i64 4, .int .i64 3, .str []]]]]]
def o6r1 : GV := .tuple [.sl 3 false .no [[.int .i64 0, .sl 3 false .no [[.int .i64 4, .int .i64 1, .str []]], .sl 0 true .exact []], [.int .i64 1, .sl 0 true .exact [], .sl 3 false .no [[.int .i64 4, .int .i64 1, .str []], [.int .i64 4, .int .i64 3, .str []]]]], .agg [.int .i64 0, .int .i64 0, .int .i64 0, .sl 0 true .exact []], .int .i64 0]
theorem o6run1 [Tab] : okRun funs o6K0 22 11 o6a1 o6r1 = true := by kernel_rfl
def o6K1 : List (Nat × List GV × GV) := (11, o6a1, o6r1) :: o6K0
def o6a2 : List GV := [projV, .agg [.sl 1 false .no [[.sl 1 false .exact []], [.sl 1 false .no [[.sl 3 false .no [[.int .i64 4, .int .i64 1, .str []], [.int .i64 4, .int .i64 3, .str []]]], [.sl 3 false .no [[.int .i64 4, .int .i64 7, .str []], [.int .i64 4, .int .i64 1, .str []]]]]]]], .agg [.int .i64 3, .int .i64 0, .int .i64 0, .int .i64 0, .int .i64 0, .int .i64 0, .int .i64 0, .int .i64 0, .str [], .int .i64 0, .int .i64 0, .int .i64 0, .int .i64 0, .str [], .sl 0 true .exact [], .sl 1 false .no [[.int .i64 0]], .sl 0 true .exact [], .sl 0 true .exact [], .sl 0 true .exact [], .int .i64 0, .sl 21 false .no [[.int .i64 1, .int .i64 0, .int .i64 0, .int .i64 0, .int .i64 0, .int .i64 0, .int .i64 0, .int .i64 0, .str [], .int .i64 0, .int .i64 0, .int .i64 0, .int .i64 0, .str [], .sl 0 true .exact [], .sl 0 true .exact [], .sl 0 true .exact [], .sl 0 true .exact [], .sl 0 true .exact [], .int .i64 0, .sl 0 true .exact []]]]]
def o6r2 : GV := .tuple [.sl 0 true .exact [], .int .i64 0]
theorem o6run2 [Tab] : okRun funs o6K1 22 54 o6a2 o6r2 = true := by kernel_rfl
def o6K2 : List (Nat × List GV × GV) := (54, o6a2, o6r2) :: o6K1
def o6a3 : List GV := [projV, .agg [.sl 1 false .no [[.sl 1 false .exact []], [.sl 1 false .no [[.sl 3 false .no [[.int .i64 4, .int .i64 1, .str []], [.int .i64 4, .int .i64 3, .str []]]], [.sl 3 false .no [[.int .i64 4, .int .i64 7, .str []], [.int .i64 4, .int .i64 1, .str []]]]]]]], .agg [.int .i64 3, .int .i64 0, .int .i64 0, .int .i64 0, .int .i64 0, .int .i64 0, .int .i64 0, .int .i64 0, .str [], .int .i64 0, .int .i64 0, .int .i64 0, .int .i64 0, .str [], .sl 0 true .exact [], .sl 1 false .no [[.int .i64 0]], .sl 0 true .exact [], .sl 0 true .exact [], .sl 0 true .exact [], .int .i64 0, .sl 21 false .no [[.int .i64 1, .int .i64 1, .int .i64 0, .int .i64 0, .int .i64 0, .int .i64 0, .int .i64 0, .int .i64 0, .str [], .int .i64 0, .int .i64 0, .int .i64 0, .int .i64 0, .str [], .sl 0 true .exact [], .sl 0 true .exact [], .sl 0 true .exact [], .sl 0 true .exact [], .sl 0 true .exact [], .int .i64 0, .sl 0 true .exact []]]]]
def o6r3 : GV := .tuple [.sl 1 false .no [[.sl 3 false .no [[.int .i64 4, .int .i64 1, .str []]]], [.sl 3 false .no [[.int .i64 4, .int .i64 7, .str []]]]], .int .i64 0]
theorem o6run3 [Tab] : okRun funs o6K2 22 54 o6a3 o6r3 = true := by kernel_rfl
def o6K3 : List (Nat × List GV × GV) := (54, o6a3, o6r3) :: o6K2
def o6a4 : List GV := [projV, .agg [.sl 0 true .exact [], .sl 24 false .no [[.int .i64 2, .int .i64 0, .sl 0 true .exact [], .int .i64 3, .int .i64 0, .int .i64 0, .int .i64 0, .int .i64 0, .int .i64 0, .int .i64 0, .int .i64 0, .str [], .int .i64 0, .int .i64 0, .int .i64 0, .int .i64 0, .str [], .sl 0 true .exact [], .sl 1 false .exact [[.int .i64 0]], .sl 0 true .exact [], .sl 0 true .exact [], .sl 0 true .exact [], .int .i64 0, .sl 21 false .exact [[.int .i64 1, .int .i64 0, .int .i64 0, .int .i64 0, .int .i64 0, .int .i64 0, .int .i64 0, .int .i64 0, .str [], .int .i64 0, .int .i64 0, .int .i64 0, .int .i64 0, .str [], .sl 0 true .exact [], .sl 0 true .exact [], .sl 0 true .exact [], .sl 0 true .exact [], .sl 0 true .exact [], .int .i64 0, .sl 0 true .exact []]]], [.int .i64 2, .int .i64 1, .sl 1 false .exact [[.int .i64 1]], .int .i64 3, .int .i64 0, .int .i64 0, .int .i64 0, .int .i64 0, .int .i64 0, .int .i64 0, .int .i64 0, .str [], .int .i64 0, .int .i64 0, .int .i64 0, .int .i64 0, .str [], .sl 0 true .exact [], .sl 1 false .exact [[.int .i64 0]], .sl 0 true .exact [], .sl 0 true .exact [], .sl 0 true .exact [], .int .i64 0, .sl 21 false .exact [[.int .i64 1, .int .i64 1, .int .i64 0, .int .i64 0, .int .i64 0, .int .i64 0, .int .i64 0, .int .i64 0, .str [], .int .i64 0, .int .i64 0, .int .i64 0, .int .i64 0, .str [], .sl 0 true .exact [], .sl 0 true .exact [], .sl 0 true .exact [], .sl 0 true .exact [], .sl 0 true .exact [], .int .i64 0, .sl 0 true .exact []]]]]], .sl 0 true .exact [], .agg [.sl 1 false .exact [[.sl 1 false .exact [[.sl 3 false .exact [[.int .i64 4, .int .i64 1, .str []]]]]], [.sl 1 false .exact [[.sl 3 false .exact [[.int .i64 4, .int .i64 7, .str []], [.int .i64 4, .int .i64 1, .str []]]]]]]], .sl 3 false .no [[.int .i64 0, .sl 3 false .no [[.int .i64 4, .int .i64 1, .str []]], .sl 0 true .exact []], [.int .i64 1, .sl 0 true .exact [], .sl 3 false .no [[.int .i64 4, .int .i64 1, .str []], [.int .i64 4, .int .i64 3, .str []]]]]]
def o6r4 : GV := .tuple [.sl 0 true .exact [], .int .i64 0]
theorem o6run4 [Tab] : okRun funs o6K3 22 26 o6a4 o6r4 = true := by kernel_rfl
def o6K4 : List (Nat × List GV × GV) := (26, o6a4, o6r4) :: o6K3
def o6a5 : List GV := [projV, .agg [.sl 0 true .exact [], .sl 24 false .no [[.int .i64 2, .int .i64 0, .sl 0 true .exact [], .int .i64 3, .int .i64 0, .int .i64 0, .int .i64 0, .int .i64 0, .int .i64 0, .int .i64 0, .int .i64 0, .str [], .int .i64 0, .int .i64 0, .int .i64 0, .int .i64 0, .str [], .sl 0 true .exact [], .sl 1 false .exact [[.int .i64 0]], .sl 0 true .exact [], .sl 0 true .exact [], .sl 0 true .exact [], .int .i64 0, .sl 21 false .exact [[.int .i64 1, .int .i64 0, .int .i64 0, .int .i64 0, .int .i64 0, .int .i64 0, .int .i64 0, .int .i64 0, .str [], .int .i64 0, .int .i64 0, .int .i64 0, .int .i64 0, .str [], .sl 0 true .exact [], .sl 0 true .exact [], .sl 0 true .exact [], .sl 0 true .exact [], .sl 0 true .exact [], .int .i64 0, .sl 0 true .exact []]]], [.int .i64 2, .int .i64 1, .sl 1 false .exact [[.int .i64 1]], .int .i64 3, .int .i64 0, .int .i64 0, .int .i64 0, .int .i64 0, .int .i64 0, .int .i64 0, .int .i64 0, .str [], .int .i64 0, .int .i64 0, .int .i64 0, .int .i64 0, .str [], .sl 0 true .exact [], .sl 1 false .exact [[.int .i64 0]], .sl 0 true .exact [], .sl 0 true .exact [], .sl 0 true .exact [], .int .i64 0, .sl 21 false .exact [[.int .i64 1, .int .i64 1, .int .i64 0, .int .i64 0, .int .i64 0, .int .i64 0, .int .i64 0, .int .i64 0, .str [], .int .i64 0, .int .i64 0, .int .i64 0, .int .i64 0, .str [], .sl 0 true .exact [], .sl 0 true .exact [], .sl 0 true .exact [], .sl 0 true .exact [], .sl 0 true .exact [], .int .i64 0, .sl 0 true .exact []]]]]], .sl 0 true .exact [], .agg [.sl 1 false .exact [[.sl 1 false .exact [[.sl 3 false .exact [[.int .i64 4, .int .i64 1, .str []]]]]], [.sl 1 false .exact [[.sl 3 false .exact [[.int .i64 4, .int .i64 7, .str []], [.int .i64 4, .int .i64 1, .str []]]]]]]], .sl 5 false .exact [[.int .i64 3, .int .i64 0, .sl 3 false .exact [[.int .i64 4, .int .i64 1, .str []]], .sl 0 true .exact [], .sl 0 true .exact []], [.int .i64 1, .int .i64 1, .sl 3 false .exact [[.int .i64 4, .int .i64 1, .str []]], .sl 0 true .exact [], .sl 3 false .exact [[.int .i64 4, .int .i64 1, .str []], [.int .i64 4, .int .i64 3, .str []]]]]]
def o6r5 : GV := .tuple [.sl 0 true .exact [], .agg [.int .i64 8, .int .i64 10, .int .i64 1, .sl 3 false .no [[.int .i64 4, .int .i64 1, .str []]]], .int .i64 0]
theorem o6run5 [Tab] : okRun funs o6K4 22 6 o6a5 o6r5 = true := by kernel_rfl
def o6K5 : List (Nat × List GV × GV) := (6, o6a5, o6r5) :: o6K4
def o6a6 : List GV := [.int .i64 1, .bool false]
def o6r6 : GV := .bool true
theorem o6run6 [Tab] : okRun funs o6K5 22 3 o6a6 o6r6 = true := by kernel_rfl

section
variable [Sym]
theorem o6tri0 (st : St) : Tri Tryz.prog G0 25 o6a0 st o6r0 st :=
  more known6 o6run0 st
theorem o6known0 : Known Tryz.prog G0 o6K0 := .cons o6tri0 known6
theorem o6tri1 (st : St) : Tri Tryz.prog G0 11 o6a1 st o6r1 st :=
  more o6known0 o6run1 st
theorem o6known1 : Known Tryz.prog G0 o6K1 := .cons o6tri1 o6known0
theorem o6tri2 (st : St) : Tri Tryz.prog G0 54 o6a2 st o6r2 st :=
  more o6known1 o6run2 st
theorem o6known2 : Known Tryz.prog G0 o6K2 := .cons o6tri2 o6known1
theorem o6tri3 (st : St) : Tri Tryz.prog G0 54 o6a3 st o6r3 st :=
  more o6known2 o6run3 st
theorem o6known3 : Known Tryz.prog G0 o6K3 := .cons o6tri3 o6known2
theorem o6tri4 (st : St) : Tri Tryz.prog G0 26 o6a4 st o6r4 st :=
  more o6known3 o6run4 st
theorem o6known4 : Known Tryz.prog G0 o6K4 := .cons o6tri4 o6known3
theorem o6tri5 (st : St) : Tri Tryz.prog G0 6 o6a5 st o6r5 st :=
  more o6known4 o6run5 st
theorem o6known5 : Known Tryz.prog G0 o6K5 := .cons o6tri5 o6known4
theorem o6tri6 (st : St) : Tri Tryz.prog G0 3 o6a6 st o6r6 st :=
  more o6known5 o6run6 st
end
end Go.Proofs.YtghfcfmgnfhgbaaGreatDoor
namespace Go.Proofs.YtghfcfmgnfhgbaaGreatDoor
set_option maxRecDepth 100000

def o7a0 : List GV := [projV, .int .i64 1, .agg [.sl 1 false .exact [[.sl 1 false .exact [[.sl 3 false .exact [[.int .i64 4, .int .i64 1, .str []]]]]], [.sl 1 false .exact [[.sl 3 false .exact [[.int .i64 4, .int .i64 7, .str []], [.int .i64 4, .int .i64 1, .str []]]]]]]], .sl 3 false .no [[.int .i64 0, .sl 3 false .no [[.int .i64 4, .int .i64 1, .str []]], .sl 0 true .exact []], [.int .i64 1, .sl 0 true .exact [], .sl 3 false .no [[.int .i64 4, .int .i64 1, .str []], [.int .i64 4, .int .i64 3, .str []]]]]]
def o7r0 : GV := .tuple [.agg [.sl 1 false .no [[.sl 1 false .exact []], [.sl 1 false .no [[.sl 3 false .no [[.int .i64 4, .int .i64 1, .str []], [.int .i64 4, .int .i64 3, .str []]]], [.sl 3 false .no [[.int .i64 4, .int .i64 7, .str []], [.int .i64 4, .int .i64 1, .str []]]]]]]], .int .i64 0]
theorem o7run0 [Tab] : okRun funs K6 22 25 o7a0 o7r0 = true := by kernel_rfl
def o7K0 : List (Nat × List GV × GV) := (25, o7a0, o7r0) :: K6
def o7a1 : List GV := [projV, .agg [.sl 1 false .exact [[.sl 1 false .exact [[.sl 3 false .exact [[.int .i64 4, .int .i64 1, .str []]]]]], [.sl 1 false .exact [[.sl 3 false .exact [[.int .i64 4, .int .i64 7, .str []], [.int .i64 4, .int .i64 1, .str []]]]]]]], .sl 5 false .exact [[.int .i64 3, .int .i64 0, .sl 3 false .exact [[.int .i64 4, .int .i64 1, .str []]], .sl 0 true .exact [], .sl 0 true .exact []], [.int .i64 1, .int .i64 1, .sl 3 false .exact [[.int .i64 4, .int .i64 1, .str []]], .sl 0 true .exact [], .sl 3 false .exact [[.int .i64 4, .int .i64 1, .str []], [.int .i64 4, .int .i64 3, .str []]]]]]
def o7r1 : GV := .tuple [.sl 3 false .no [[.int .i64 0, .sl 3 false .no [[.int .i64 4, .int .i64 1, .str []]], .sl 0 true .exact []], [.int .i64 1, .sl 0 true .exact [], .sl 3 false .no [[.int .i64 4, .int .i64 1, .str []], [.int .i64 4, .int .i64 3, .str []]]]], .agg [.int .i64 0, .int .i64 0, .int .i64 0, .sl 0 true .exact []], .int .i64 0]
theorem o7run1 [Tab] : okRun funs o7K0 22 11 o7a1 o7r1 = true := by kernel_rfl
def o7K1 : List (Nat × List GV × GV) := (11, o7a1, o7r1) :: o7K0
def o7a2 : List GV := [.int .i64 1, .bool true]
def o7r2 : GV := .bool true
theorem o7run2 [Tab] : okRun funs o7K1 22 3 o7a2 o7r2 = true := by kernel_rfl

section
variable [Sym]
theorem o7tri0 (st : St) : Tri Tryz.prog G0 25 o7a0 st o7r0 st :=
  more known6 o7run0 st
theorem o7known0 : Known Tryz.prog G0 o7K0 := .cons o7tri0 known6
theorem o7tri1 (st : St) : Tri Tryz.prog G0 11 o7a1 st o7r1 st :=
  more o7known0 o7run1 st
theorem o7known1 : Known Tryz.prog G0 o7K1 := .cons o7tri1 o7known0
theorem o7tri2 (st : St) : Tri Tryz.prog G0 3 o7a2 st o7r2 st :=
  more o7known1 o7run2 st
end
end Go.Proofs.YtghfcfmgnfhgbaaGreatDoor
namespace Go.Proofs.YtghfcfmgnfhgbaaGreatDoor
set_option maxRecDepth 100000

def o8a0 : List GV := [projV, .agg [.sl 1 false .exact [[.sl 1 false .exact [[.sl 3 false .exact [[.int .i64 4, .int .i64 1, .str []]]]]], [.sl 1 false .exact [[.sl 3 false .exact [[.int .i64 4, .int .i64 7, .str []], [.int .i64 4, .int .i64 1, .str []]]]]]]], .sl 5 false .exact [[.int .i64 3, .int .i64 0, .sl 3 false .exact [[.int .i64 4, .int .i64 1, .str []]], .sl 0 true .exact [], .sl 0 true .exact []], [.int .i64 1, .int .i64 1, .sl 3 false .exact [[.int .i64 4, .int .i64 7, .str []]], .sl 0 true .exact [], .sl 3 false .exact [[.int .i64 4, .int .i64 7, .str []], [.int .i64 4, .int .i64 3, .str []]]]]]
def o8r0 : GV := .tuple [.sl 0 true .exact [], .agg [.int .i64 4, .int .i64 0, .int .i64 1, .sl 3 false .no [[.int .i64 4, .int .i64 7, .str []]]], .int .i64 0]
theorem o8run0 [Tab] : okRun funs K6 22 11 o8a0 o8r0 = true := by kernel_rfl
def o8K0 : List (Nat × List GV × GV) := (11, o8a0, o8r0) :: K6
def o8a1 : List GV := [.int .i64 7, .bool false]
def o8r1 : GV := .bool true
theorem o8run1 [Tab] : okRun funs o8K0 22 3 o8a1 o8r1 = true := by kernel_rfl

section
variable [Sym]
theorem o8tri0 (st : St) : Tri Tryz.prog G0 11 o8a0 st o8r0 st :=
  more known6 o8run0 st
theorem o8known0 : Known Tryz.prog G0 o8K0 := .cons o8tri0 known6
theorem o8tri1 (st : St) : Tri Tryz.prog G0 3 o8a1 st o8r1 st :=
  more o8known0 o8run1 st
end
end Go.Proofs.YtghfcfmgnfhgbaaGreatDoor
namespace Go.Proofs.YtghfcfmgnfhgbaaGreatDoor
set_option maxRecDepth 100000

def o9a0 : List GV := [projV, .agg [.sl 1 false .exact [[.sl 1 false .exact [[.sl 3 false .exact [[.int .i64 4, .int .i64 1, .str []]]]]], [.sl 1 false .exact [[.sl 3 false .exact [[.int .i64 4, .int .i64 7, .str []], [.int .i64 4, .int .i64 1, .str []]]]]]]], .sl 5 false .exact [[.int .i64 3, .int .i64 0, .sl 3 false .exact [[.int .i64 4, .int .i64 1, .str []]], .sl 0 true .exact [], .sl 0 true .exact []], [.int .i64 1, .int .i64 1, .sl 3 false .exact [[.int .i64 4, .int .i64 7, .str []]], .sl 0 true .exact [], .sl 3 false .exact [[.int .i64 4, .int .i64 7, .str []], [.int .i64 4, .int .i64 3, .str []]]]]]
def o9r0 : GV := .tuple [.sl 0 true .exact [], .agg [.int .i64 4, .int .i64 0, .int .i64 1, .sl 3 false .no [[.int .i64 4, .int .i64 7, .str []]]], .int .i64 0]
theorem o9run0 [Tab] : okRun funs K6 22 11 o9a0 o9r0 = true := by kernel_rfl
def o9K0 : List (Nat × List GV × GV) := (11, o9a0, o9r0) :: K6
def o9a1 : List GV := [.int .i64 7, .bool true]
def o9r1 : GV := .bool true
theorem o9run1 [Tab] : okRun funs o9K0 22 3 o9a1 o9r1 = true := by kernel_rfl

section
variable [Sym]
theorem o9tri0 (st : St) : Tri Tryz.prog G0 11 o9a0 st o9r0 st :=
  more known6 o9run0 st
theorem o9known0 : Known Tryz.prog G0 o9K0 := .cons o9tri0 known6
theorem o9tri1 (st : St) : Tri Tryz.prog G0 3 o9a1 st o9r1 st :=
  more o9known0 o9run1 st
end
end Go.Proofs.YtghfcfmgnfhgbaaGreatDoor
