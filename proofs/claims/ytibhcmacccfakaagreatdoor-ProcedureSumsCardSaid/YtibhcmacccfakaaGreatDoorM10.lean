/- Runs of the evaluator, carried out by the kernel, with unknown whole numbers: ProcedureSums, for each region of its arguments. -/
import Derived.Test.YtibhcmacccfakaaGreatDoorM9
import Derived.Test.YtibhcmacccfakaaGreatDoorRows
import Derived.WalkKit
import Derived.ProofKit
import Derived.OpenShut
import Derived.LaidMore
set_option linter.unusedSectionVars false
set_option linter.unusedVariables false
set_option linter.unusedSimpArgs false
namespace Go.Proofs.YtibhcmacccfakaaGreatDoor
set_option maxRecDepth 100000

def nl : List Nat := [69]
def accV : GV := .agg [.int .i64 1, .int .i64 0, .int .i64 0, .int .i64 0, .int .i64 0, .int .i64 0, .int .i64 0, .int .i64 0, .str [], .int .i64 0, .int .i64 0, .int .i64 0, .int .i64 0, .str [], .sl 0 true .exact [], .sl 0 true .exact [], .sl 0 true .exact [], .sl 0 true .exact [], .sl 0 true .exact [], .int .i64 0, .sl 0 true .exact []]
def K0 : List (Nat × List GV × GV) := []
def a_q48 : List GV := [.agg [.int .i64 0, .sl 5 false .exact [[.str [97, 99, 99, 111, 117, 110, 116, 115], .sl 2 false .exact [[.str [105, 100], .int .i64 4], [.str [115, 117, 109], .int .i64 4]], .int .i64 1, .sl 0 true .exact [], .sl 0 true .exact []]]], .sl 0 true .exact [], accV]
def r_q48 : GV := .tuple [.sl 1 false .no [[.int .i64 4], [.int .i64 4]], .int .i64 0]
theorem run_q48 [Tab] : okRunD nl dl funs K0 20 48 a_q48 r_q48 = true := by kernel_rfl
def K1 : List (Nat × List GV × GV) := (48, a_q48, r_q48) :: K0
def a_n43 : List GV := [.agg [.int .i64 0, .sl 5 false .exact [[.str [97, 99, 99, 111, 117, 110, 116, 115], .sl 2 false .exact [[.str [105, 100], .int .i64 4], [.str [115, 117, 109], .int .i64 4]], .int .i64 1, .sl 0 true .exact [], .sl 0 true .exact []]]], accV]
def r_n43 : GV := .tuple [.sl 1 false .no [[.sl 1 false .no [[.int .i64 0], [.int .i64 1]]]], .int .i64 0]
theorem run_n43 [Tab] : okRunD nl dl funs K1 20 43 a_n43 r_n43 = true := by kernel_rfl
def K2 : List (Nat × List GV × GV) := (43, a_n43, r_n43) :: K1
def a_c14 : List GV := [.agg [.int .i64 0, .sl 5 false .exact [[.str [97, 99, 99, 111, 117, 110, 116, 115], .sl 2 false .exact [[.str [105, 100], .int .i64 4], [.str [115, 117, 109], .int .i64 4]], .int .i64 1, .sl 0 true .exact [], .sl 0 true .exact []]]], .agg [.int .i64 0, .sl 1 false .exact [[.int .i64 4]], .sl 26 false .exact [[.int .i64 4, .int .i64 0, .int .i64 0, .int .i64 1, .int .i64 0, .int .i64 0, .int .i64 0, .int .i64 0, .int .i64 0, .int .i64 0, .int .i64 0, .str [], .int .i64 0, .int .i64 0, .int .i64 0, .int .i64 0, .str [], .sl 0 true .exact [], .sl 0 true .exact [], .sl 0 true .exact [], .sl 0 true .exact [], .sl 0 true .exact [], .int .i64 0, .sl 0 true .exact [], .sl 1 false .exact [[.int .i64 1]], .sl 11 false .exact [[.int .i64 2, .int .i64 1, .int .i64 1, .int .i64 0, .int .i64 0, .str [], .int .i64 2, .int .i64 0, .int .i64 0, .int .i64 0, .str []]]]]]]
def r_c14 : GV := .int .i64 0
theorem run_c14 [Tab] : okRunD nl dl funs K2 20 14 a_c14 r_c14 = true := by kernel_rfl
def K3 : List (Nat × List GV × GV) := (14, a_c14, r_c14) :: K2
def a_s12 : List GV := [.agg [.int .i64 0, .sl 5 false .exact [[.str [97, 99, 99, 111, 117, 110, 116, 115], .sl 2 false .exact [[.str [105, 100], .int .i64 4], [.str [115, 117, 109], .int .i64 4]], .int .i64 1, .sl 0 true .exact [], .sl 0 true .exact []]]], .agg [.sl 1 false .exact [[.sl 1 false .exact [[.sl 3 false .exact [[.int .i64 4, .int .i64 1, .str []], [.int .i64 4, .int .i64 5, .str []]]]]]]], accV]
def r_s12 : GV := .tuple [.sl 1 false .no [[.sl 3 false .no [[.int .i64 4, .int .i64 1, .str []], [.int .i64 4, .int .i64 5, .str []]]]], .int .i64 0]
theorem run_s12 [Tab] : okRunD nl dl funs K3 20 12 a_s12 r_s12 = true := by kernel_rfl
def K4 : List (Nat × List GV × GV) := (12, a_s12, r_s12) :: K3
def a_b8 : List GV := []
def r_b8 : GV := .bool true
theorem run_b8 [Tab] : okRunD nl dl funs K4 20 8 a_b8 r_b8 = true := by kernel_rfl
def K5 : List (Nat × List GV × GV) := (8, a_b8, r_b8) :: K4
def a_p14 : List GV := [.agg [.int .i64 0, .sl 5 false .exact [[.str [97, 99, 99, 111, 117, 110, 116, 115], .sl 2 false .exact [[.str [105, 100], .int .i64 4], [.str [115, 117, 109], .int .i64 4]], .int .i64 1, .sl 0 true .exact [], .sl 0 true .exact []]]], .agg [.int .i64 0, .sl 1 false .exact [[.int .i64 4]], .sl 26 false .exact [[.int .i64 3, .int .i64 0, .int .i64 0, .int .i64 1, .int .i64 0, .int .i64 0, .int .i64 0, .int .i64 0, .int .i64 0, .int .i64 0, .int .i64 0, .str [], .int .i64 0, .int .i64 0, .int .i64 0, .int .i64 0, .str [], .sl 0 true .exact [], .sl 0 true .exact [], .sl 0 true .exact [], .sl 0 true .exact [], .sl 0 true .exact [], .int .i64 0, .sl 0 true .exact [], .sl 0 true .exact [], .sl 11 false .exact [[.int .i64 1, .int .i64 3, .int .i64 0, .int .i64 4, .int .i64 8, .str [], .int .i64 0, .int .i64 0, .int .i64 0, .int .i64 0, .str []], [.int .i64 2, .int .i64 1, .int .i64 1, .int .i64 0, .int .i64 0, .str [], .int .i64 2, .int .i64 0, .int .i64 0, .int .i64 0, .str []]]]]]]
def r_p14 : GV := .int .i64 0
theorem run_p14 [Tab] : okRunD nl dl funs K5 20 14 a_p14 r_p14 = true := by kernel_rfl
def K6 : List (Nat × List GV × GV) := (14, a_p14, r_p14) :: K5
def a_m14 : List GV := [.agg [.int .i64 0, .sl 5 false .exact [[.str [97, 99, 99, 111, 117, 110, 116, 115], .sl 2 false .exact [[.str [105, 100], .int .i64 4], [.str [115, 117, 109], .int .i64 4]], .int .i64 1, .sl 0 true .exact [], .sl 0 true .exact []]]], .agg [.int .i64 0, .sl 1 false .exact [[.int .i64 4]], .sl 26 false .exact [[.int .i64 3, .int .i64 0, .int .i64 0, .int .i64 1, .int .i64 0, .int .i64 0, .int .i64 0, .int .i64 0, .int .i64 0, .int .i64 0, .int .i64 0, .str [], .int .i64 0, .int .i64 0, .int .i64 0, .int .i64 0, .str [], .sl 0 true .exact [], .sl 0 true .exact [], .sl 0 true .exact [], .sl 0 true .exact [], .sl 0 true .exact [], .int .i64 0, .sl 0 true .exact [], .sl 0 true .exact [], .sl 11 false .exact [[.int .i64 1, .int .i64 3, .int .i64 0, .int .i64 4, .int .i64 8, .str [], .int .i64 0, .int .i64 0, .int .i64 0, .int .i64 0, .str []], [.int .i64 3, .int .i64 1, .int .i64 1, .int .i64 0, .int .i64 0, .str [], .int .i64 2, .int .i64 0, .int .i64 0, .int .i64 0, .str []]]]]]]
def r_m14 : GV := .int .i64 0
theorem run_m14 [Tab] : okRunD nl dl funs K6 20 14 a_m14 r_m14 = true := by kernel_rfl
def K7 : List (Nat × List GV × GV) := (14, a_m14, r_m14) :: K6
def a_t10 : List GV := [.agg [.int .i64 0, .sl 5 false .exact [[.str [97, 99, 99, 111, 117, 110, 116, 115], .sl 2 false .exact [[.str [105, 100], .int .i64 4], [.str [115, 117, 109], .int .i64 4]], .int .i64 1, .sl 0 true .exact [], .sl 0 true .exact []]]], .int .i64 3, .agg [.sl 1 false .exact [[.sl 1 false .exact [[.sl 3 false .exact [[.int .i64 4, .int .i64 1, .str []], [.int .i64 4, .sym 0, .str []]]]]]]]]
def r_t10 : GV := .int .i64 0
theorem run_t10 [Tab] : okRunD nl dl funs K7 20 10 a_t10 r_t10 = true := by kernel_rfl
def K8 : List (Nat × List GV × GV) := (10, a_t10, r_t10) :: K7
def a_s12s : List GV := [.agg [.int .i64 0, .sl 5 false .exact [[.str [97, 99, 99, 111, 117, 110, 116, 115], .sl 2 false .exact [[.str [105, 100], .int .i64 4], [.str [115, 117, 109], .int .i64 4]], .int .i64 1, .sl 0 true .exact [], .sl 0 true .exact []]]], .agg [.sl 1 false .exact [[.sl 1 false .exact [[.sl 3 false .exact [[.int .i64 4, .int .i64 1, .str []], [.int .i64 4, .sym 0, .str []]]]]]]], accV]
def r_s12s : GV := .tuple [.sl 1 false .no [[.sl 3 false .no [[.int .i64 4, .int .i64 1, .str []], [.int .i64 4, .sym 0, .str []]]]], .int .i64 0]
theorem run_s12s [Tab] : okRunD nl dl funs K8 20 12 a_s12s r_s12s = true := by kernel_rfl
def K9 : List (Nat × List GV × GV) := (12, a_s12s, r_s12s) :: K8
end Go.Proofs.YtibhcmacccfakaaGreatDoor
namespace Go.Proofs.YtibhcmacccfakaaGreatDoor
set_option maxRecDepth 100000

/-- a op b, when it is known how a lies to b -/
def cmpR (op : BinOp) (o : Ordering) : Option GV := match op with
  | .eql => some (.bool (o == .eq))
  | .neq => some (.bool (o != .eq))
  | .lss => some (.bool (o == .lt))
  | .leq => some (.bool (o != .gt))
  | .gtr => some (.bool (o == .gt))
  | .geq => some (.bool (o != .lt))
  | _ => none
abbrev top : Int := 9223372036854775807
abbrev bot : Int := -9223372036854775808
/-- 0: a; 1: b, which is above 0 or below; 2: M - b, or m - b; 5: m + b, or M + b; 3: a + b; 4: a - b, both as int64. fitA: a + b is an int64; fitS: a - b is. -/
def tabT (pos fitA fitS useA useS : Bool) (op : BinOp) : GV → GV → Option GV
  | .sym 1, .int .i64 n => if n = 0 then cmpR op (if pos then .gt else .lt) else none
  | .int .i64 n, .sym 1 => if n = 0 then cmpR op (if pos then .lt else .gt) else
      if n = (if pos then top else bot) ∧ op = .sub then some (.sym 2) else
      if n = (if pos then bot else top) ∧ op = .add then some (.sym 5) else none
  | .sym 0, .sym 2 => if useA = false then none else if pos then (match op with | .leq => some (.bool fitA) | .gtr => some (.bool !fitA) | _ => none) else (match op with | .geq => some (.bool fitA) | .lss => some (.bool !fitA) | _ => none)
  | .sym 0, .sym 5 => if useS = false then none else if pos then (match op with | .geq => some (.bool fitS) | .lss => some (.bool !fitS) | _ => none) else (match op with | .leq => some (.bool fitS) | .gtr => some (.bool !fitS) | _ => none)
  | .sym 0, .sym 1 => match op with | .add => some (.sym 3) | .sub => some (.sym 4) | _ => none
  | .sym 3, .sym 3 => cmpR op .eq
  | .sym 4, .sym 4 => cmpR op .eq
  | .sym 0, .sym 0 => cmpR op .eq
  | .sym 0, .int .i64 n => match op with | .add => if n = 0 then some (.sym 0) else none | .sub => if n = 0 then some (.sym 0) else none | .leq => if n = top then some (.bool true) else none | _ => none
  | _, _ => none
@[reducible] def tabAt (pos fitA fitS useA useS : Bool) : Tab := ⟨fun _ => .i64, tabT pos fitA fitS useA useS⟩

theorem add_true_true : @okRunD (tabAt true true true true false) nl dl funs K9 20 3 [.sym 0, .sym 1, .bool false] (.bool true) = true := by kernel_rfl
theorem add_true_false : @okRunD (tabAt true false true true false) nl dl funs K9 20 3 [.sym 0, .sym 1, .bool false] (.bool true) = true := by kernel_rfl
theorem sub_true_true_true : @okRunD (tabAt true true true true true) nl dl funs K9 20 3 [.sym 0, .sym 1, .bool true] (.bool true) = true := by kernel_rfl
theorem sub_true_false_true : @okRunD (tabAt true false true true true) nl dl funs K9 20 3 [.sym 0, .sym 1, .bool true] (.bool true) = true := by kernel_rfl
theorem sub_true_true_false : @okRunD (tabAt true true false true true) nl dl funs K9 20 3 [.sym 0, .sym 1, .bool true] (.bool true) = true := by kernel_rfl
theorem add_false_true : @okRunD (tabAt false true true true false) nl dl funs K9 20 3 [.sym 0, .sym 1, .bool false] (.bool true) = true := by kernel_rfl
theorem add_false_false : @okRunD (tabAt false false true true false) nl dl funs K9 20 3 [.sym 0, .sym 1, .bool false] (.bool true) = true := by kernel_rfl
theorem sub_false_true_true : @okRunD (tabAt false true true true true) nl dl funs K9 20 3 [.sym 0, .sym 1, .bool true] (.bool true) = true := by kernel_rfl
theorem sub_false_false_true : @okRunD (tabAt false false true true true) nl dl funs K9 20 3 [.sym 0, .sym 1, .bool true] (.bool true) = true := by kernel_rfl
theorem sub_false_true_false : @okRunD (tabAt false true false true true) nl dl funs K9 20 3 [.sym 0, .sym 1, .bool true] (.bool true) = true := by kernel_rfl
theorem zero_false : @okRunD (tabAt true true true false false) nl dl funs K9 20 3 [.sym 0, .int .i64 0, .bool false] (.bool true) = true := by kernel_rfl
theorem zero_true : @okRunD (tabAt true true true false false) nl dl funs K9 20 3 [.sym 0, .int .i64 0, .bool true] (.bool true) = true := by kernel_rfl
end Go.Proofs.YtibhcmacccfakaaGreatDoor
namespace Go.Proofs.YtibhcmacccfakaaGreatDoor
open Go.ChangeShapes Go.WideShapes Go.ChangeAt Go.RowKit

theorem cmp_ok (op : BinOp) (o : Ordering) (a b : Int) (r : GV) (h : cmpR op o = some r) (hl : o = .lt → a < b) (he : o = .eq → a = b) (hg : o = .gt → b < a) (kind : Nat → IntKind) (val : Nat → Int) :
    ∃ rv, rvalOf kind val r = some rv ∧ ∀ (P : Program) (w : World) (t : TypeId), (binOp op t (.int .i64 a) (.int .i64 b)).run P w = .ok rv w := by
  have h3 : a < b ∧ o = .lt ∨ a = b ∧ o = .eq ∨ b < a ∧ o = .gt := by
    cases o
    · exact .inl ⟨hl rfl, rfl⟩
    · exact .inr (.inl ⟨he rfl, rfl⟩)
    · exact .inr (.inr ⟨hg rfl, rfl⟩)
  cases op <;> simp only [cmpR, Option.some.injEq, reduceCtorEq] at h <;> subst h <;> refine ⟨_, rfl, fun P w t => ?_⟩ <;>
    rcases h3 with ⟨h4, rfl⟩ | ⟨h4, rfl⟩ | ⟨h4, rfl⟩ <;> simp [binOp, Op.intCmp] <;> first | omega | (show _ = true; simp; omega)

theorem wrap_in {x : Int} (h : bot ≤ x) (h' : x ≤ top) : IntKind.i64.wrap x = x := by
  simp only [top, bot] at h h'
  rw [IntKind.wrap_i64]; omega
theorem wrap_wrap (x : Int) : IntKind.i64.wrap (IntKind.i64.wrap x) = IntKind.i64.wrap x := by
  simp only [IntKind.wrap_i64]; omega

def valAt (pos : Bool) (a b : Int) : Nat → Int
  | 0 => a
  | 1 => b
  | 2 => if pos then top - b else bot - b
  | 3 => IntKind.i64.wrap (a + b)
  | 4 => IntKind.i64.wrap (a - b)
  | 5 => if pos then bot + b else top + b
  | _ => 0

theorem le_ok (a b : Int) (t : Bool) (op : BinOp) (r : GV) (h : (match op with | .leq => some (GV.bool t) | .gtr => some (.bool !t) | _ => none) = some r) (ht : t = decide (a ≤ b)) (kind : Nat → IntKind) (val : Nat → Int) :
    ∃ rv, rvalOf kind val r = some rv ∧ ∀ (P : Program) (w : World) (ty : TypeId), (binOp op ty (.int .i64 a) (.int .i64 b)).run P w = .ok rv w := by
  cases op <;> simp only [Option.some.injEq, reduceCtorEq] at h <;> subst h <;> refine ⟨_, rfl, fun P w ty => ?_⟩ <;> subst ht <;> simp [binOp, Op.intCmp] <;> (try omega)
  all_goals (by_cases hq : a ≤ b <;> simp [hq] <;> omega)
theorem ge_ok (a b : Int) (t : Bool) (op : BinOp) (r : GV) (h : (match op with | .geq => some (GV.bool t) | .lss => some (.bool !t) | _ => none) = some r) (ht : t = decide (b ≤ a)) (kind : Nat → IntKind) (val : Nat → Int) :
    ∃ rv, rvalOf kind val r = some rv ∧ ∀ (P : Program) (w : World) (ty : TypeId), (binOp op ty (.int .i64 a) (.int .i64 b)).run P w = .ok rv w := by
  cases op <;> simp only [Option.some.injEq, reduceCtorEq] at h <;> subst h <;> refine ⟨_, rfl, fun P w ty => ?_⟩ <;> subst ht <;> simp [binOp, Op.intCmp] <;> (try omega)
  all_goals (by_cases hq : b ≤ a <;> simp [hq] <;> omega)

theorem run_add (a b : Int) (P : Program) (w : World) (t : TypeId) : (binOp .add t (.int .i64 a) (.int .i64 b)).run P w = .ok (.int .i64 (IntKind.i64.wrap (a + b))) w := by simp [binOp, Op.intArith]
theorem run_sub (a b : Int) (P : Program) (w : World) (t : TypeId) : (binOp .sub t (.int .i64 a) (.int .i64 b)).run P w = .ok (.int .i64 (IntKind.i64.wrap (a - b))) w := by simp [binOp, Op.intArith]
theorem run_leq (a b : Int) (h : a ≤ b) (P : Program) (w : World) (t : TypeId) : (binOp .leq t (.int .i64 a) (.int .i64 b)).run P w = .ok (.bool true) w := by simp [binOp, Op.intCmp, h]

@[reducible] def symAt (pos fitA fitS useA useS : Bool) (a b : Int) (ha : bot ≤ a ∧ a ≤ top) (hb : bot ≤ b ∧ b ≤ top) (hp : if pos then 0 < b else b < 0)
    (hA : useA = true → fitA = decide (if pos then a ≤ top - b else bot - b ≤ a)) (hS : useS = true → fitS = decide (if pos then bot + b ≤ a else a ≤ top + b)) : Sym :=
  { toTab := tabAt pos fitA fitS useA useS
    val := valAt pos a b
    rng := fun i => by
      show IntKind.i64.wrap (valAt pos a b i) = valAt pos a b i
      simp only [top, bot] at ha hb
      unfold valAt
      split
      · exact wrap_in ha.1 ha.2
      · exact wrap_in hb.1 hb.2
      · cases pos <;> simp only [if_true, Bool.false_eq_true, if_false] at hp ⊢ <;> apply wrap_in <;> simp only [top, bot] <;> omega
      · exact wrap_wrap _
      · exact wrap_wrap _
      · cases pos <;> simp only [if_true, Bool.false_eq_true, if_false] at hp ⊢ <;> apply wrap_in <;> simp only [top, bot] <;> omega
      · exact wrap_in (by decide) (by decide)
    ok := fun op x y r h kx nx ky ny ex ey => by
      change tabT pos fitA fitS useA useS op x y = some r at h
      unfold tabT at h
      split at h
      · simp only [ivalOf, Option.some.injEq, Prod.mk.injEq] at ex ey
        obtain ⟨rfl, rfl⟩ := ex; obtain ⟨rfl, rfl⟩ := ey
        split at h
        · rename_i hn
          subst hn
          cases pos <;> simp only [if_true, Bool.false_eq_true, if_false] at hp h <;> exact cmp_ok _ _ _ _ _ h (by first | (intro; exact hp) | simp) (by simp) (by first | (intro; exact hp) | simp) _ _
        · simp at h
      · simp only [ivalOf, Option.some.injEq, Prod.mk.injEq] at ex ey
        obtain ⟨rfl, rfl⟩ := ex; obtain ⟨rfl, rfl⟩ := ey
        simp only [top, bot] at ha hb
        cases pos <;> simp only [if_true, Bool.false_eq_true, if_false] at hp h
        · split at h
          · rename_i hn
            subst hn
            exact cmp_ok _ _ _ _ _ h (by simp) (by simp) (by intro; exact hp) _ _
          · split at h
            · rename_i hn
              obtain ⟨rfl, rfl⟩ := hn
              simp only [Option.some.injEq] at h
              subst h
              refine ⟨_, rfl, fun P w t => (run_sub _ _ P w t).trans ?_⟩
              have : IntKind.i64.wrap (bot - b) = bot - b := wrap_in (by simp only [bot]; omega) (by simp only [bot, top]; omega)
              simp [valAt, this]; rfl
            · split at h
              · rename_i hn
                obtain ⟨rfl, rfl⟩ := hn
                simp only [Option.some.injEq] at h
                subst h
                refine ⟨_, rfl, fun P w t => (run_add _ _ P w t).trans ?_⟩
                have : IntKind.i64.wrap (top + b) = top + b := wrap_in (by simp only [bot, top]; omega) (by simp only [top]; omega)
                simp [valAt, this]; rfl
              · simp at h
        · split at h
          · rename_i hn
            subst hn
            exact cmp_ok _ _ _ _ _ h (by intro; exact hp) (by simp) (by simp) _ _
          · split at h
            · rename_i hn
              obtain ⟨rfl, rfl⟩ := hn
              simp only [Option.some.injEq] at h
              subst h
              refine ⟨_, rfl, fun P w t => (run_sub _ _ P w t).trans ?_⟩
              have : IntKind.i64.wrap (top - b) = top - b := wrap_in (by simp only [bot, top]; omega) (by simp only [top]; omega)
              simp [valAt, this]; rfl
            · split at h
              · rename_i hn
                obtain ⟨rfl, rfl⟩ := hn
                simp only [Option.some.injEq] at h
                subst h
                refine ⟨_, rfl, fun P w t => (run_add _ _ P w t).trans ?_⟩
                have : IntKind.i64.wrap (bot + b) = bot + b := wrap_in (by simp only [bot]; omega) (by simp only [bot, top]; omega)
                simp [valAt, this]; rfl
              · simp at h
      · simp only [ivalOf, Option.some.injEq, Prod.mk.injEq] at ex ey
        obtain ⟨rfl, rfl⟩ := ex; obtain ⟨rfl, rfl⟩ := ey
        split at h
        · simp at h
        · rename_i hu
          have hA := hA (by simpa using hu)
          cases pos <;> simp only [if_true, Bool.false_eq_true, if_false] at hA h
          · exact ge_ok _ _ _ _ _ h hA _ _
          · exact le_ok _ _ _ _ _ h hA _ _
      · simp only [ivalOf, Option.some.injEq, Prod.mk.injEq] at ex ey
        obtain ⟨rfl, rfl⟩ := ex; obtain ⟨rfl, rfl⟩ := ey
        split at h
        · simp at h
        · rename_i hu
          have hS := hS (by simpa using hu)
          cases pos <;> simp only [if_true, Bool.false_eq_true, if_false] at hS h
          · exact le_ok _ _ _ _ _ h hS _ _
          · exact ge_ok _ _ _ _ _ h hS _ _
      · simp only [ivalOf, Option.some.injEq, Prod.mk.injEq] at ex ey
        obtain ⟨rfl, rfl⟩ := ex; obtain ⟨rfl, rfl⟩ := ey
        cases op <;> simp only [Option.some.injEq, reduceCtorEq] at h <;> subst h
        · exact ⟨_, rfl, fun P w t => run_add _ _ P w t⟩
        · exact ⟨_, rfl, fun P w t => run_sub _ _ P w t⟩
      · simp only [ivalOf, Option.some.injEq, Prod.mk.injEq] at ex ey
        obtain ⟨rfl, rfl⟩ := ex; obtain ⟨rfl, rfl⟩ := ey
        exact cmp_ok _ _ _ _ _ h (by simp) (by simp) (by simp) _ _
      · simp only [ivalOf, Option.some.injEq, Prod.mk.injEq] at ex ey
        obtain ⟨rfl, rfl⟩ := ex; obtain ⟨rfl, rfl⟩ := ey
        exact cmp_ok _ _ _ _ _ h (by simp) (by simp) (by simp) _ _
      · simp only [ivalOf, Option.some.injEq, Prod.mk.injEq] at ex ey
        obtain ⟨rfl, rfl⟩ := ex; obtain ⟨rfl, rfl⟩ := ey
        exact cmp_ok _ _ _ _ _ h (by simp) (by simp) (by simp) _ _
      · simp only [ivalOf, Option.some.injEq, Prod.mk.injEq] at ex ey
        obtain ⟨rfl, rfl⟩ := ex; obtain ⟨rfl, rfl⟩ := ey
        cases op <;> simp only [reduceCtorEq] at h
        · split at h
          · rename_i hn
            subst hn
            simp only [Option.some.injEq] at h
            subst h
            refine ⟨_, rfl, fun P w t => (run_add _ _ P w t).trans ?_⟩
            rw [Int.add_zero, wrap_in (x := valAt pos a b 0) ha.1 ha.2]; rfl
          · simp at h
        · split at h
          · rename_i hn
            subst hn
            simp only [Option.some.injEq] at h
            subst h
            refine ⟨_, rfl, fun P w t => (run_sub _ _ P w t).trans ?_⟩
            rw [Int.sub_zero, wrap_in (x := valAt pos a b 0) ha.1 ha.2]; rfl
          · simp at h
        · split at h
          · rename_i hn
            subst hn
            simp only [Option.some.injEq] at h
            subst h
            exact ⟨_, rfl, fun P w t => run_leq _ _ ha.2 P w t⟩
          · simp at h
      · simp at h }
end Go.Proofs.YtibhcmacccfakaaGreatDoor
