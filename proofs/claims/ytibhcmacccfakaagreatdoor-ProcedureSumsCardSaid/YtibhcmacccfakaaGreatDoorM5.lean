/- Each operation of the evaluator is sound for the machine's. -/
import Derived.Test.YtibhcmacccfakaaGreatDoorM4
import Derived.Laws.Tables
import Derived.Laws.CopyRow
import Derived.Laws.StructEq
import Derived.MapKept
set_option linter.unusedSectionVars false
set_option linter.unusedVariables false
set_option linter.unusedSimpArgs false
namespace Go.Proofs.YtibhcmacccfakaaGreatDoor
variable [Sym]

section inv
variable {M : Mem} {K : KMap} {x : Value}
theorem VRel.bool_inv {b : Bool} (h : VRel M K (.bool b) x) : x = .bool b := by cases h; rfl
theorem VRel.int_inv {k : IntKind} {n : Int} (h : VRel M K (.int k n) x) : x = .int k n := by cases h; rfl
theorem VRel.sym_inv {i : Nat} (h : VRel M K (.sym i) x) : x = .int (Tab.kind i) (Sym.val i) := by cases h; rfl
theorem tab_sound {op : BinOp} {gx gy v : GV} (h : tabV (Tab.tab op gx gy) = some v) {kx ky : IntKind} {nx ny : Int} (hx : ivalOf Tab.kind Sym.val gx = some (kx, nx)) (hy : ivalOf Tab.kind Sym.val gy = some (ky, ny)) :
    ∃ rv, VRel M K v rv ∧ ∀ (P : Program) (w : World) (t : TypeId), (binOp op t (.int kx nx) (.int ky ny)).run P w = .ok rv w := by
  cases ht : Tab.tab op gx gy with
  | none => rw [ht] at h; simp [tabV] at h
  | some r =>
    rw [ht] at h
    obtain ⟨rv, h1, h2⟩ := Sym.ok op gx gy r ht kx nx ky ny hx hy
    refine ⟨rv, ?_, h2⟩
    cases r <;> simp only [tabV, Option.some.injEq, reduceCtorEq] at h <;> subst h <;> simp only [rvalOf, Option.some.injEq] at h1 <;> subst h1
    · exact .bool _
    · exact .int _ _
    · exact .sym _
theorem tabB_sound {gx gy : GV} {b : Bool} (h : tabB (Tab.tab .eql gx gy) = some b) {kx ky : IntKind} {nx ny : Int} (hx : ivalOf Tab.kind Sym.val gx = some (kx, nx)) (hy : ivalOf Tab.kind Sym.val gy = some (ky, ny)) :
    kx = ky ∧ b = (nx == ny) := by
  cases ht : Tab.tab .eql gx gy with
  | none => rw [ht] at h; simp [tabB] at h
  | some r =>
    rw [ht] at h
    obtain ⟨rv, h1, h2⟩ := Sym.ok .eql gx gy r ht kx nx ky ny hx hy
    cases r <;> simp only [tabB, Option.some.injEq, reduceCtorEq] at h
    subst h
    simp only [rvalOf, Option.some.injEq] at h1
    subst h1
    have := h2 { (default : Program) with } default 0
    by_cases hk : kx = ky
    · subst hk
      refine ⟨rfl, ?_⟩
      simp [binOp, Op.intCmp] at this
      exact this.symm
    · simp [binOp, hk] at this
theorem tabLt_sound {mx : Bool} {gx gy : GV} {b : Bool} (h : tabB (Tab.tab (if mx then .lss else .gtr) gx gy) = some b) {kx ky : IntKind} {nx ny : Int} (hx : ivalOf Tab.kind Sym.val gx = some (kx, nx)) (hy : ivalOf Tab.kind Sym.val gy = some (ky, ny)) :
    kx = ky ∧ b = (if mx then decide (nx < ny) else decide (nx > ny)) := by
  cases ht : Tab.tab (if mx then .lss else .gtr) gx gy with
  | none => rw [ht] at h; simp [tabB] at h
  | some r =>
    rw [ht] at h
    obtain ⟨rv, h1, h2⟩ := Sym.ok (if mx then .lss else .gtr) gx gy r ht kx nx ky ny hx hy
    cases r <;> simp only [tabB, Option.some.injEq, reduceCtorEq] at h
    subst h
    simp only [rvalOf, Option.some.injEq] at h1
    subst h1
    have := h2 { (default : Program) with } default 0
    by_cases hk : kx = ky
    · subst hk
      refine ⟨rfl, ?_⟩
      cases mx <;> simp [binOp, Op.intCmp] at this <;> simp [this.symm]
    · cases mx <;> simp [binOp, hk] at this
theorem gmm_sound {mx : Bool} {p q v : GV} {x y : Value} (h : gmm mx p q = some v) (hp : VRel M K p x) (hq : VRel M K q y) :
    ∃ k n m, x = .int k n ∧ y = .int k m ∧ VRel M K v (.int k (if mx then (if m > n then m else n) else (if m < n then m else n))) := by
  have key : ∀ {kx ky : IntKind} {nx ny : Int} {b : Bool}, ivalOf Tab.kind Sym.val p = some (kx, nx) → ivalOf Tab.kind Sym.val q = some (ky, ny) → tabB (Tab.tab (if mx then .lss else .gtr) p q) = some b → x = .int kx nx → y = .int ky ny →
      ∃ k n m, x = .int k n ∧ y = .int k m ∧ VRel M K (if b then q else p) (.int k (if mx then (if m > n then m else n) else (if m < n then m else n))) := by
    intro kx ky nx ny b h1 h2 h3 h4 h5
    obtain ⟨rfl, hb⟩ := tabLt_sound h3 h1 h2
    refine ⟨kx, nx, ny, h4, h5, ?_⟩
    rw [h4] at hp; rw [h5] at hq
    subst hb
    cases mx
    · simp only [Bool.false_eq_true, if_false, decide_eq_true_eq, gt_iff_lt]
      split
      · exact hq
      · exact hp
    · simp only [if_true, decide_eq_true_eq, gt_iff_lt]
      split
      · exact hq
      · exact hp
  unfold gmm at h
  split at h
  · split at h
    · rename_i hkj
      subst hkj
      simp only [Option.some.injEq] at h; subst h
      exact ⟨_, _, _, hp.int_inv, hq.int_inv, .int _ _⟩
    · simp at h
  · simp only [Option.map_eq_some_iff] at h
    obtain ⟨b, h3, rfl⟩ := h
    exact key rfl rfl h3 hp.sym_inv hq.sym_inv
  · simp only [Option.map_eq_some_iff] at h
    obtain ⟨b, h3, rfl⟩ := h
    exact key rfl rfl h3 hp.sym_inv hq.int_inv
  · simp only [Option.map_eq_some_iff] at h
    obtain ⟨b, h3, rfl⟩ := h
    exact key rfl rfl h3 hp.int_inv hq.sym_inv
  · simp at h
theorem VRel.str_inv {s : List UInt8} (h : VRel M K (.str s) x) : ∃ t : ByteArray, x = .string t ∧ s = t.data.toList := by cases h; exact ⟨_, rfl, rfl⟩

theorem geq_int {gx gy : GV} {x y : Value} {b : Bool} (hx : kindOf .i gx = true) (hy : kindOf .i gy = true) (rx : VRel M K gx x) (ry : VRel M K gy y) (h : geq gx gy = some b) :
    ∃ k nx ny, x = .int k nx ∧ y = .int k ny ∧ b = (nx == ny) := by
  have ival : ∀ {g : GV} {z : Value}, kindOf .i g = true → VRel M K g z → ∃ k n, z = .int k n ∧ ivalOf Tab.kind Sym.val g = some (k, n) := by
    intro g z hg rz
    cases g <;> simp only [kindOf, Bool.false_eq_true] at hg
    · exact ⟨_, _, rz.int_inv, rfl⟩
    · exact ⟨_, _, rz.sym_inv, rfl⟩
  obtain ⟨kx, nx, hX, ix⟩ := ival hx rx
  obtain ⟨ky, ny, hY, iy⟩ := ival hy ry
  have key : kx = ky ∧ b = (nx == ny) := by
    cases gx <;> simp only [kindOf, Bool.false_eq_true] at hx <;> cases gy <;> simp only [kindOf, Bool.false_eq_true] at hy
    · simp only [geq] at h
      simp only [ivalOf, Option.some.injEq, Prod.mk.injEq] at ix iy
      split at h
      · rename_i hk
        simp only [Option.some.injEq] at h
        exact ⟨by rw [← ix.1, ← iy.1]; exact hk, by rw [← ix.2, ← iy.2]; exact h.symm⟩
      · simp at h
    · simp only [geq] at h; exact tabB_sound h ix iy
    · simp only [geq] at h; exact tabB_sound h ix iy
    · simp only [geq] at h; exact tabB_sound h ix iy
  obtain ⟨rfl, hb⟩ := key
  exact ⟨kx, nx, ny, hX, hY, hb⟩
theorem geq_int_kind {k : IntKind} {n : Int} {j : GV} {b : Bool} (h : geq (.int k n) j = some b) : kindOf .i j = true := by
  cases j <;> simp only [geq, reduceCtorEq] at h <;> rfl

/-- Cells one by one. -/
def LRel (M : Mem) (K : KMap) (cs : List GV) (A : Array Value) : Prop :=
  A.size = cs.length ∧ ∀ (i : Nat) (c : GV) (v : Value), cs[i]? = some c → A[i]? = some v → VRel M K c v

theorem VRel.agg_inv {cs : List GV} (h : VRel M K (.agg cs) x) : ∃ A, x = .agg A ∧ LRel M K cs A := by
  cases h; exact ⟨_, rfl, by assumption, by assumption⟩
theorem VRel.tuple_inv {cs : List GV} (h : VRel M K (.tuple cs) x) : ∃ A, x = .tuple A ∧ LRel M K cs A := by
  cases h; exact ⟨_, rfl, by assumption, by assumption⟩
theorem VRel.agg_of {cs : List GV} {A : Array Value} (h : LRel M K cs A) : VRel M K (.agg cs) (.agg A) := .agg h.1 h.2
theorem VRel.tuple_of {cs : List GV} {A : Array Value} (h : LRel M K cs A) : VRel M K (.tuple cs) (.tuple A) := .tuple h.1 h.2

theorem VRel.one {v : GV} (h : VRel M K v x) (ho : one v = true) : x.oneCell' = true := by
  cases h <;> simp_all [YtibhcmacccfakaaGreatDoor.one, Value.oneCell']

theorem VRel.cells {v : GV} (h : VRel M K v x) (hn : ndef v = true) : LRel M K (cellsOf v) x.cells := by
  cases h with
  | undef => simp [ndef] at hn
  | agg hA hr => exact ⟨hA, hr⟩
  | _ =>
    refine ⟨rfl, fun i c v e e' => ?_⟩
    cases i with
    | zero =>
      simp [cellsOf, Value.cells] at e e'
      subst e e'
      first
        | (constructor <;> assumption)
        | constructor
    | succ i => simp [cellsOf] at e

theorem LRel.nil : LRel M K [] #[] := ⟨rfl, fun i c v e => by simp at e⟩
theorem LRel.cons {c : GV} {cs : List GV} {A : Array Value} (h : VRel M K c x) (hs : LRel M K cs A) : LRel M K (c :: cs) (#[x] ++ A) := by
  refine ⟨by simp [hs.1]; omega, fun i d v e e' => ?_⟩
  cases i with
  | zero => simp at e; subst e; simp [Array.getElem?_append] at e'; subst e'; exact h
  | succ i =>
    simp [Array.getElem?_append] at e e'
    exact hs.2 i d v e e'
theorem LRel.map_cp {cs : List GV} {A : Array Value} (h : LRel M K cs A) : cs.map cp = cs :=
  List.ext_getElem? fun i => by
    rw [List.getElem?_map]
    cases hc : cs[i]? with
    | none => rfl
    | some c =>
      have hi := (List.getElem?_eq_some_iff.1 hc).1
      have ha : A[i]? = some (A[i]'(by rw [h.1]; exact hi)) := by simp
      simp only [Option.map_some, (h.2 i c _ hc ha).cp_eq]
theorem LRel.get {cs : List GV} {A : Array Value} (h : LRel M K cs A) {i : Nat} {c : GV} (hc : cs[i]? = some c) : ∃ v, A[i]? = some v ∧ VRel M K c v := by
  obtain ⟨v, hv⟩ := get_some_of_size h.1 hc
  exact ⟨v, hv, h.2 i c v hc hv⟩
theorem LRel.extract {cs : List GV} {A : Array Value} (h : LRel M K cs A) (o n : Nat) : LRel M K ((cs.drop o).take n) (A.extract o (o + n)) := by
  refine ⟨by simp [h.1]; omega, fun i c v e e' => ?_⟩
  simp only [List.getElem?_take, List.getElem?_drop] at e
  simp only [Array.getElem?_extract] at e'
  split at e
  · split at e'
    · exact h.2 _ c v e e'
    · simp at e'
  · simp at e
theorem LRel.spliced {cs vs : List GV} {A B : Array Value} (h : LRel M K cs A) (hv : LRel M K vs B) {o : Nat} (ho : o + vs.length ≤ cs.length) {C : Array Value}
    (hC : C.size = A.size) (hg : ∀ i, C[i]? = if o ≤ i ∧ i < o + B.size then B[i - o]? else A[i]?) : LRel M K (splice cs o vs) C := by
  have hl : (splice cs o vs).length = cs.length := by simp [YtibhcmacccfakaaGreatDoor.splice]; omega
  refine ⟨by rw [hC, h.1, hl], fun i c v e e' => ?_⟩
  rw [hg] at e'
  simp only [YtibhcmacccfakaaGreatDoor.splice, List.append_assoc, List.getElem?_append, List.length_take, Nat.min_def] at e
  have hB := hv.1
  have : o ≤ cs.length := by omega
  simp only [this, if_true] at e
  split at e
  · rename_i h1
    rw [if_neg (by omega)] at e'
    simp only [List.getElem?_take, h1, if_true] at e
    exact h.2 i c v e e'
  · rename_i h1
    split at e
    · rename_i h2
      rw [if_pos (by omega)] at e'
      exact hv.2 _ c v e e'
    · rename_i h2
      rw [if_neg (by omega)] at e'
      simp only [List.getElem?_drop] at e
      rw [show o + vs.length + (i - o - vs.length) = i by omega] at e
      exact h.2 i c v e e'
end inv

section
variable {P : Program} {G : Glob} {O : Own} {w : World} {e : Env} {a : Act} {st : St}

theorem sizeIs_inv {t : TypeId} {n : Nat} (h : sizeIs P t n = true) : ∃ i, P.info? t = some i ∧ i.size = n := by
  unfold sizeIs at h
  split at h
  · rename_i i hi; exact ⟨i, hi, by simpa using h⟩
  · simp at h
theorem bytesAre_inv {t : TypeId} {n : Nat} (h : bytesAre P t n = true) : ∃ i, P.info? t = some i ∧ i.bytes = n := by
  unfold bytesAre at h
  split at h
  · rename_i i hi; exact ⟨i, hi, by simpa using h⟩
  · simp at h
theorem zeroIs_inv {t : TypeId} {cs : List GV} (h : zeroIs P t cs = true) : ∃ i z, P.info? t = some i ∧ i.zero = some z ∧ okCL z.cells.toList cs = true := by
  unfold zeroIs at h
  split at h
  · rename_i i hi
    split at h
    · rename_i z hz; exact ⟨i, z, hi, hz, h⟩
    · simp at h
  · simp at h
theorem zeroVal_inv {t : TypeId} {g : GV} (h : zeroVal P t g = true) : ∃ i z, P.info? t = some i ∧ i.zero = some z ∧ okC z g = true := by
  unfold zeroVal at h
  split at h
  · rename_i i hi
    split at h
    · rename_i z hz; exact ⟨i, z, hi, hz, h⟩
    · simp at h
  · simp at h
theorem run_sizeOf {t : TypeId} {n : Nat} (h : sizeIs P t n = true) : (sizeOf t).run P w = .ok n w := by
  obtain ⟨i, hi, rfl⟩ := sizeIs_inv h
  simp [sizeOf, typeInfo, hi]
theorem run_typeInfo {t : TypeId} {i : TypeInfo} (h : P.info? t = some i) : (typeInfo t).run P w = .ok i w := by simp [typeInfo, h]
theorem run_zeroValue {t : TypeId} {i : TypeInfo} {z : Value} (h : P.info? t = some i) (hz : i.zero = some z) : (zeroValue t).run P w = .ok z w := by simp [zeroValue, typeInfo, h, hz]
theorem run_isAgg {t : TypeId} {b : Bool} (h : aggB P t b = true) : (isAgg t).run P w = .ok b w := by
  unfold aggB at h
  simp only [isAgg, Sem.run_bind]
  cases hu : P.underlying t with
  | none => rw [hu] at h; simp at h
  | some d =>
    rw [run_underlying hu]
    rw [hu] at h
    cases d <;> simp_all
theorem okCL_lrel {M : Mem} {K : KMap} {A : Array Value} {cs : List GV} (h : okCL A.toList cs = true) : LRel M K cs A :=
  ⟨by simpa using okCL_length h, fun i c v e e' => okCL_rel cs i c e v (okCL_get h (by simpa using e') e)⟩
theorem intKind_inv {t : TypeId} {k : IntKind} (h : intKind? P t = some k) : P.underlying t = some (.int k) := by
  unfold intKind? at h
  split at h
  · simp at h; subst h; assumption
  · simp at h
theorem isString_inv {t : TypeId} (h : isString P t = true) : P.underlying t = some .string := by
  unfold isString at h
  split at h
  · assumption
  · simp at h
theorem sliceOf_inv {t e : TypeId} (h : sliceOf P t = some e) : P.underlying t = some (.slice e) := by
  unfold sliceOf at h
  split at h
  · simp at h; subst h; assumption
  · simp at h

theorem asNat_inv {v : GV} {n : Nat} (h : asNat v = some n) : ∃ k, v = .int k n := by
  unfold asNat at h
  split at h
  · rename_i k m
    split at h
    · simp at h; exact ⟨k, by congr 1; omega⟩
    · simp at h
  · simp at h

/-- A value-giving operation has run. -/
def Gives (P : Program) (w : World) (a : Act) (o : Oper) (x : Value) (w' : World) : Prop := (execOp a.eval o).run P w = .ok (.value x) w'
end
end Go.Proofs.YtibhcmacccfakaaGreatDoor
namespace Go.Proofs.YtibhcmacccfakaaGreatDoor
variable [Sym]

section
variable {P : Program} {G : Glob} {O : Own} {w : World} {e : Env} {a : Act} {st : St} {o : Oper} {v : GV}

/-- What a pure operation comes to. -/
def PureSim (P : Program) (O : Own) (w : World) (e : Env) (a : Act) (o : Oper) (v : GV) : Prop := ∃ x, Gives P w a o x w ∧ ARel O e a.tmps v x

theorem PureSim.of_vrel {x : Value} (h : Gives P w a o x w) (hv : VRel O.M O.K v x) : PureSim P O w e a o v := ⟨x, h, .of_vrel hv⟩

theorem sim_mv (he : EnvRel O w e a.tmps) (hh : HInv P G O st w) {x : GX} (hk : okOp P G o.op (.mv x) = true) (hv : pureOp e (.mv x) = some v) : PureSim P O w e a o v := by
  simp only [pureOp, Option.some.injEq] at hv
  subst hv
  unfold okOp at hk; dsimp only at hk
  split at hk
  · rename_i X ho
    exact .of_vrel (x := a.eval X) (by simp [Gives, execOp, ho]) (rd_rel he hh hk)
  · rename_i X ho
    exact .of_vrel (x := a.eval X) (by simp [Gives, execOp, ho]) (rd_rel he hh hk)
  · simp at hk

theorem sim_pick (he : EnvRel O w e a.tmps) (hh : HInv P G O st w) {c x y : GX} (hk : okOp P G o.op (.pick c x y) = true) (hv : pureOp e (.pick c x y) = some v) : PureSim P O w e a o v := by
  simp only [pureOp] at hv
  unfold okOp at hk; dsimp only at hk
  split at hk
  · rename_i C X Y ho
    simp only [Bool.and_eq_true] at hk
    have hc := rd_rel he hh hk.1.1
    split at hv
    · rename_i t ht
      rw [ht] at hc
      have hc := hc.bool_inv
      simp only [Option.some.injEq] at hv
      subst hv
      refine .of_vrel (x := if t then a.eval X else a.eval Y) (by simp [Gives, execOp, ho, hc, asBool]) ?_
      cases t
      · exact rd_rel he hh hk.2
      · exact rd_rel he hh hk.1.2
    · simp at hv
  · simp at hk

theorem sim_bin (he : EnvRel O w e a.tmps) (hh : HInv P G O st w) {op : BinOp} {x y : GX} (hk : okOp P G o.op (.bin op x y) = true) (hv : pureOp e (.bin op x y) = some v) : PureSim P O w e a o v := by
  simp only [pureOp] at hv
  unfold okOp at hk; dsimp only at hk
  split at hk
  · rename_i op' t X Y b ho
    simp only [Bool.and_eq_true, beq_iff_eq] at hk
    obtain ⟨⟨⟨rfl, hx⟩, hy⟩, _⟩ := hk
    have hx := rd_rel he hh hx
    have hy := rd_rel he hh hy
    unfold gbin at hv
    split at hv
    · rename_i k m j n h1 h2
      rw [h1] at hx; rw [h2] at hy
      have hx := hx.int_inv
      have hy := hy.int_inv
      split at hv
      · split at hv
        · simp at hv
        · rename_i hn
          simp only [Option.some.injEq] at hv; subst hv
          exact .of_vrel (x := .int k (k.wrap (m * 2 ^ min n.toNat k.bits))) (by simp [Gives, execOp, ho, hx, hy, eqGuard_at_int, binOp, Op.shift, hn]) (.int _ _)
      · split at hv
        · simp at hv
        · rename_i hn
          simp only [Option.some.injEq] at hv; subst hv
          exact .of_vrel (x := .int k (m.fdiv (2 ^ min n.toNat k.bits))) (by simp [Gives, execOp, ho, hx, hy, eqGuard_at_int, binOp, Op.shift, hn]) (.int _ _)
      · split at hv
        · simp at hv
        · rename_i hkj
          simp only [ne_eq, Decidable.not_not] at hkj
          subst hkj
          have hb : ∀ z, (binOp op' t (.int k m) (.int k n)).run P w = .ok z w → Gives P w a o z w := fun z hz => by
            simp [Gives, execOp, ho, hx, hy, eqGuard_at_int, hz]
          split at hv
          · simp only [Option.some.injEq] at hv; subst hv; exact .of_vrel (hb _ (by simp [binOp, Op.intArith])) (.int _ _)
          · simp only [Option.some.injEq] at hv; subst hv; exact .of_vrel (hb _ (by simp [binOp, Op.intArith])) (.int _ _)
          · simp only [Option.some.injEq] at hv; subst hv; exact .of_vrel (hb _ (by simp [binOp, Op.intArith])) (.int _ _)
          · split at hv
            · simp at hv
            · rename_i h0
              simp only [Option.some.injEq] at hv; subst hv; exact .of_vrel (hb _ (by simp [binOp, Op.intDiv, h0])) (.int _ _)
          · split at hv
            · simp at hv
            · rename_i h0
              simp only [Option.some.injEq] at hv; subst hv; exact .of_vrel (hb _ (by simp [binOp, Op.intDiv, h0])) (.int _ _)
          · simp only [Option.some.injEq] at hv; subst hv; exact .of_vrel (hb _ (by simp [binOp, Op.intCmp])) (.bool _)
          · simp only [Option.some.injEq] at hv; subst hv; exact .of_vrel (hb _ (by simp [binOp, Op.intCmp])) (.bool _)
          · simp only [Option.some.injEq] at hv; subst hv; exact .of_vrel (hb _ (by simp [binOp, Op.intCmp])) (.bool _)
          · simp only [Option.some.injEq] at hv; subst hv; exact .of_vrel (hb _ (by simp [binOp, Op.intCmp])) (.bool _)
          · simp only [Option.some.injEq] at hv; subst hv; exact .of_vrel (hb _ (by simp [binOp, Op.intCmp])) (.bool _)
          · simp only [Option.some.injEq] at hv; subst hv; exact .of_vrel (hb _ (by simp [binOp, Op.intCmp])) (.bool _)
          · simp at hv
    · rename_i s1 s2 h1 h2
      rw [h1] at hx; rw [h2] at hy
      obtain ⟨b1, hx', rfl⟩ := hx.str_inv
      obtain ⟨b2, hy', rfl⟩ := hy.str_inv
      have hb : ∀ z, (Op.stringOp op' b1 b2).run P w = .ok z w → Gives P w a o z w := fun z hz => by
        have : binOp op' t (.string b1) (.string b2) = Op.stringOp op' b1 b2 := by cases op' <;> rfl
        simp [Gives, execOp, ho, hx', hy', eqGuard_at_string, this, hz]
      have hl : ∀ b : ByteArray, b.toList = b.data.toList := fun b => ByteArray.toList_eq b
      split at hv
      · simp only [Option.some.injEq] at hv; subst hv; exact .of_vrel (hb _ (by simp [Op.stringOp, hl])) (.bool _)
      · simp only [Option.some.injEq] at hv; subst hv; exact .of_vrel (hb _ (by simp [Op.stringOp, hl])) (.bool _)
      · simp only [Option.some.injEq] at hv; subst hv; exact .of_vrel (hb _ (by simp [Op.stringOp, hl])) (.bool _)
      · simp only [Option.some.injEq] at hv; subst hv; exact .of_vrel (hb _ (by simp [Op.stringOp, hl])) (.bool _)
      · simp only [Option.some.injEq] at hv; subst hv; exact .of_vrel (hb _ (by simp [Op.stringOp, hl])) (.bool _)
      · simp only [Option.some.injEq] at hv; subst hv; exact .of_vrel (hb _ (by simp [Op.stringOp, hl])) (.bool _)
      · split at hv
        · rename_i hs
          simp only [Option.some.injEq] at hv; subst hv
          have h1 : ¬ (9223372036854775807 < (b1.size : Int) + (b2.size : Int)) := by
            have e1 : b1.size = b1.data.toList.length := rfl
            have e2 : b2.size = b2.data.toList.length := rfl
            omega
          refine .of_vrel (x := .string (b1 ++ b2)) (hb _ (by simp [Op.stringOp, h1])) ?_
          have e3 : b1.data.toList ++ b2.data.toList = (b1 ++ b2).data.toList := by simp [ByteArray.data_append]
          rw [e3]; exact .str _
        · simp at hv
      · simp at hv
    · rename_i i j h1 h2
      rw [h1] at hx; rw [h2] at hy
      obtain ⟨rv, q1, q2⟩ := tab_sound (M := O.M) (K := O.K) hv rfl rfl
      exact .of_vrel (x := rv) (by simp [Gives, execOp, ho, hx.sym_inv, hy.sym_inv, eqGuard_at_int, q2]) q1
    · rename_i i k m h1 h2
      rw [h1] at hx; rw [h2] at hy
      obtain ⟨rv, q1, q2⟩ := tab_sound (M := O.M) (K := O.K) hv rfl rfl
      exact .of_vrel (x := rv) (by simp [Gives, execOp, ho, hx.sym_inv, hy.int_inv, eqGuard_at_int, q2]) q1
    · rename_i k m i h1 h2
      rw [h1] at hx; rw [h2] at hy
      obtain ⟨rv, q1, q2⟩ := tab_sound (M := O.M) (K := O.K) hv rfl rfl
      exact .of_vrel (x := rv) (by simp [Gives, execOp, ho, hx.int_inv, hy.sym_inv, eqGuard_at_int, q2]) q1
    · simp at hv
  · simp at hk

theorem sim_un (he : EnvRel O w e a.tmps) (hh : HInv P G O st w) {op : UnOp} {x : GX} (hk : okOp P G o.op (.un op x) = true) (hv : pureOp e (.un op x) = some v) : PureSim P O w e a o v := by
  simp only [pureOp] at hv
  unfold okOp at hk; dsimp only at hk
  split at hk
  · rename_i op' t X ho
    simp only [Bool.and_eq_true, beq_iff_eq] at hk
    obtain ⟨rfl, hx⟩ := hk
    have hx := rd_rel he hh hx
    unfold gun at hv
    split at hv
    · rename_i b h1
      rw [h1] at hx
      have hx := hx.bool_inv
      split at hv
      · simp only [Option.some.injEq] at hv; subst hv
        exact .of_vrel (x := .bool !b) (by simp [Gives, execOp, ho, hx, Op.unary]) (.bool _)
      · simp at hv
    · rename_i k n h1
      rw [h1] at hx
      have hx := hx.int_inv
      split at hv
      · simp only [Option.some.injEq] at hv; subst hv
        exact .of_vrel (x := .int k (k.wrap (0 - n))) (by simp [Gives, execOp, ho, hx, Op.unary, Op.intArith]) (.int _ _)
      · simp at hv
    · simp at hv
  · simp at hk

theorem sim_toInt (he : EnvRel O w e a.tmps) (hh : HInv P G O st w) {k : IntKind} {x : GX} (hk : okOp P G o.op (.toInt k x) = true) (hv : pureOp e (.toInt k x) = some v) : PureSim P O w e a o v := by
  simp only [pureOp] at hv
  unfold okOp at hk; dsimp only at hk
  split at hk
  · rename_i s d X ho
    simp only [Bool.and_eq_true, beq_iff_eq] at hk
    obtain ⟨⟨hx, hd⟩, hs⟩ := hk
    have hx := rd_rel he hh hx
    have hd := intKind_inv hd
    have hs : (P.underlying s).isSome = true := by
      obtain ⟨ks, hs⟩ := Option.isSome_iff_exists.1 hs
      rw [intKind_inv hs]; rfl
    split at hv
    · rename_i j n h1
      rw [h1] at hx
      have hx := hx.int_inv
      simp only [Option.some.injEq] at hv; subst hv
      obtain ⟨us, hus⟩ := Option.isSome_iff_exists.1 hs
      exact .of_vrel (x := .int k (k.wrap n)) (by simp [Gives, execOp, ho, hx, convert, run_underlying hus, run_underlying hd, Conv.intToInt]) (.int _ _)
    · rename_i i h1
      rw [h1] at hx
      have hx := hx.sym_inv
      split at hv
      · rename_i hki
        simp only [Option.some.injEq] at hv; subst hv
        obtain ⟨us, hus⟩ := Option.isSome_iff_exists.1 hs
        have hrng := Sym.rng i
        rw [hki] at hrng hx
        refine .of_vrel (x := .int k (k.wrap (Sym.val i))) (by simp [Gives, execOp, ho, hx, convert, run_underlying hus, run_underlying hd, Conv.intToInt]) ?_
        rw [hrng, ← hki]
        exact .sym i
      · simp at hv
    · simp at hv
  · simp at hk

theorem sim_mkIface (he : EnvRel O w e a.tmps) (hh : HInv P G O st w) {t : TypeId} {x : GX} (hk : okOp P G o.op (.mkIface t x) = true) (hv : pureOp e (.mkIface t x) = some v) : PureSim P O w e a o v := by
  simp only [pureOp, Option.some.injEq] at hv
  subst hv
  unfold okOp at hk; dsimp only at hk
  split at hk
  · rename_i t' X ho
    simp only [Bool.and_eq_true, beq_iff_eq] at hk
    obtain ⟨⟨rfl, hx⟩, ht⟩ := hk
    have hx := rd_rel he hh hx
    refine .of_vrel (x := .iface t' (a.eval X)) ?_ (.iface hx)
    split at ht
    · simp at ht
    · rename_i d h1 h2
      simp [Gives, execOp, ho, Instr.makeInterface, run_underlying h2]
    · simp at ht
  · simp at hk

theorem okXs_rel (he : EnvRel O w e a.tmps) (hh : HInv P G O st w) : ∀ {xs : List Operand} {ys : List GX}, okXs G xs ys = true →
    LRel O.M O.K (ys.map (rd e)) (xs.map a.eval).toArray
  | [], [], _ => LRel.nil
  | [], _ :: _, h => by simp [okXs] at h
  | _ :: _, [], h => by simp [okXs] at h
  | x :: r, y :: q, h => by
    simp only [okXs, Bool.and_eq_true] at h
    have := LRel.cons (rd_rel he hh h.1) (okXs_rel he hh h.2)
    simpa using this

theorem sim_mkFunc (he : EnvRel O w e a.tmps) (hh : HInv P G O st w) {f : Fn} {fs cs : List GX} (hk : okOp P G o.op (.mkFunc f fs cs) = true) (hv : pureOp e (.mkFunc f fs cs) = some v) : PureSim P O w e a o v := by
  simp only [pureOp, Option.some.injEq] at hv
  subst hv
  unfold okOp at hk; dsimp only at hk
  split at hk
  · rename_i f' F C ho
    simp only [Bool.and_eq_true, decide_eq_true_eq] at hk
    obtain ⟨⟨rfl, hF⟩, hC⟩ := hk
    have hF := okXs_rel he hh hF
    have hC := okXs_rel he hh hC
    have e1 : (F.toList.map a.eval).toArray = F.map a.eval := by rw [← Array.toList_map, Array.toArray_toList]
    have e2 : (C.toList.map a.eval).toArray = C.map a.eval := by rw [← Array.toList_map, Array.toArray_toList]
    rw [e1] at hF; rw [e2] at hC
    exact .of_vrel (x := .func (.func f') (F.map a.eval) (C.map a.eval)) (by simp [Gives, execOp, ho, Instr.makeFunc]) (.fnc hF.1 hC.1 hF.2 hC.2)
  · simp at hk

theorem sim_extract (he : EnvRel O w e a.tmps) (hh : HInv P G O st w) {x : GX} {i : Nat} (hk : okOp P G o.op (.extract x i) = true) (hv : pureOp e (.extract x i) = some v) : PureSim P O w e a o v := by
  simp only [pureOp] at hv
  unfold okOp at hk; dsimp only at hk
  split at hk
  · rename_i X j ho
    simp only [Bool.and_eq_true, beq_iff_eq] at hk
    obtain ⟨hx, rfl⟩ := hk
    have hx := rd_rel he hh hx
    split at hv
    · rename_i vs h1
      rw [h1] at hx
      obtain ⟨A, hA, hr⟩ := hx.tuple_inv
      simp only [Option.map_eq_some_iff] at hv
      obtain ⟨c, hv, rfl⟩ := hv
      obtain ⟨y, hy, hvy⟩ := hr.get hv
      exact .of_vrel (x := y) (by simp [Gives, execOp, ho, hA, Instr.extract, hy]) (by rw [hvy.cp_eq]; exact hvy)
    · simp at hv
  · simp at hk

/-- A part of a struct or an array. -/
theorem run_part {t : TypeId} {n : Nat} {isAgg : Bool} (hs : sizeIs P t n = true) (ha : aggB P t isAgg = true) (h1 : isAgg = true ∨ n = 1) {cs : List GV} {A : Array Value}
    (hr : LRel O.M O.K cs A) {off : Nat} (hl : off + n ≤ cs.length) {v : GV} (hv : mkv isAgg ((cs.drop off).take n) = some v) :
    ∃ y, (part t A off).run P w = .ok y w ∧ VRel O.M O.K v y := by
  unfold mkv at hv
  cases isAgg with
  | true =>
    simp only [if_true, Option.some.injEq] at hv
    subst hv
    refine ⟨.agg (A.extract off (off + n)), by simp [part, run_isAgg ha, run_sizeOf hs], ?_⟩
    have := hr.extract off n
    rw [this.map_cp]
    exact .agg_of this
  | false =>
    simp only [Bool.false_eq_true, if_false] at hv
    have hn : n = 1 := by simpa using h1
    subst hn
    split at hv
    · rename_i c hc
      simp only [Option.some.injEq] at hv
      subst hv
      have hc' : cs[off]? = some c := by
        have := congrArg (fun l => l[0]?) hc
        simpa [List.getElem?_take] using this
      obtain ⟨y, hy, hvy⟩ := hr.get hc'
      refine ⟨y, by simp [part, run_isAgg ha, hy], ?_⟩
      rw [hvy.cp_eq]; exact hvy
    · simp at hv

theorem sim_field (he : EnvRel O w e a.tmps) (hh : HInv P G O st w) {x : GX} {off n : Nat} {isAgg : Bool} (hk : okOp P G o.op (.field x off n isAgg) = true) (hv : pureOp e (.field x off n isAgg) = some v) : PureSim P O w e a o v := by
  simp only [pureOp] at hv
  unfold okOp at hk; dsimp only at hk
  split at hk
  · rename_i t X f ho
    simp only [Bool.and_eq_true] at hk
    obtain ⟨hx, hk⟩ := hk
    have hx := rd_rel he hh hx
    split at hk
    · rename_i fs hu
      split at hk
      · rename_i fd hf
        simp only [Bool.and_eq_true, beq_iff_eq, Bool.or_eq_true] at hk
        obtain ⟨⟨⟨rfl, hs⟩, ha⟩, h1⟩ := hk
        split at hv
        · rename_i cs h2
          rw [h2] at hx
          obtain ⟨A, hA, hr⟩ := hx.agg_inv
          split at hv
          · rename_i hl
            obtain ⟨y, hy, hvy⟩ := run_part (w := w) hs ha h1 hr hl hv
            exact .of_vrel (x := y) (by simp [Gives, execOp, ho, hA, Instr.field, run_underlying hu, hf, asAgg, hy]) hvy
          · simp at hv
        · simp at hv
      · simp at hk
    · simp at hk
  · simp at hk

theorem sim_indexAgg (he : EnvRel O w e a.tmps) (hh : HInv P G O st w) {x i : GX} {n sz : Nat} {isAgg : Bool} (hk : okOp P G o.op (.indexAgg x i n sz isAgg) = true) (hv : pureOp e (.indexAgg x i n sz isAgg) = some v) : PureSim P O w e a o v := by
  simp only [pureOp, Option.bind_eq_bind, Option.bind_eq_some_iff] at hv
  obtain ⟨m, hm, hv⟩ := hv
  obtain ⟨k, hm⟩ := asNat_inv hm
  unfold okOp at hk; dsimp only at hk
  split at hk
  · rename_i t X I ho
    simp only [Bool.and_eq_true] at hk
    obtain ⟨⟨hx, hi⟩, hk⟩ := hk
    have hx := rd_rel he hh hx
    have hi := rd_rel he hh hi
    rw [hm] at hi
    have hi := hi.int_inv
    split at hk
    · rename_i m' el hu
      simp only [Bool.and_eq_true, beq_iff_eq, Bool.or_eq_true] at hk
      obtain ⟨⟨⟨rfl, hs⟩, ha⟩, h1⟩ := hk
      split at hv
      · rename_i cs h2
        rw [h2] at hx
        obtain ⟨A, hA, hr⟩ := hx.agg_inv
        split at hv
        · rename_i hl
          obtain ⟨y, hy, hvy⟩ := run_part (w := w) hs ha h1 hr hl.2 hv
          exact .of_vrel (x := y) (by simp [Gives, execOp, ho, hA, hi, Instr.index, asIntOf, run_underlying hu, run_sizeOf hs, hy, hl.1]) hvy
        · simp at hv
      · simp at hv
    · simp at hk
  · simp at hk

theorem sim_indexStr (he : EnvRel O w e a.tmps) (hh : HInv P G O st w) {x i : GX} (hk : okOp P G o.op (.indexStr x i) = true) (hv : pureOp e (.indexStr x i) = some v) : PureSim P O w e a o v := by
  simp only [pureOp, Option.bind_eq_bind, Option.bind_eq_some_iff] at hv
  obtain ⟨m, hm, hv⟩ := hv
  obtain ⟨k, hm⟩ := asNat_inv hm
  unfold okOp at hk; dsimp only at hk
  split at hk
  · rename_i t X I ho
    simp only [Bool.and_eq_true] at hk
    obtain ⟨⟨hx, hi⟩, hk⟩ := hk
    have hx := rd_rel he hh hx
    have hi := rd_rel he hh hi
    rw [hm] at hi
    have hi := hi.int_inv
    have hu := isString_inv hk
    split at hv
    · rename_i s h2
      rw [h2] at hx
      obtain ⟨b, hb, rfl⟩ := hx.str_inv
      simp only [Option.map_eq_some_iff] at hv
      obtain ⟨c, hc, rfl⟩ := hv
      have hc' : b[m]? = some c := by
        have h3 := (List.getElem?_eq_some_iff.1 hc).1
        have h4 : m < b.size := h3
        have : b[m]? = some b[m] := by simp [h4]
        rw [this]
        congr 1
        have := (List.getElem?_eq_some_iff.1 hc).2
        rw [← this]; rfl
      exact .of_vrel (x := .int .u8 c.toNat) (by simp [Gives, execOp, ho, hb, hi, Instr.index, asIntOf, run_underlying hu, hc']) (.int _ _)
    · simp at hv
  · simp at hk

theorem sim_minmax (he : EnvRel O w e a.tmps) (hh : HInv P G O st w) {mx : Bool} {xs : List GX} (hk : okOp P G o.op (.minmax mx xs) = true) (hv : pureOp e (.minmax mx xs) = some v) : PureSim P O w e a o v := by
  simp only [pureOp] at hv
  unfold okOp at hk; dsimp only at hk
  split at hk
  · rename_i b args ats ho
    simp only [Bool.and_eq_true, beq_iff_eq] at hk
    obtain ⟨rfl, hx⟩ := hk
    have hx := okXs_rel he hh hx
    split at hv
    · rename_i p q h2
      rw [h2] at hx
      have hlen : args.size = 2 := by have := hx.1; simpa using this
      obtain ⟨A, B, hAB⟩ : ∃ A B, args.toList = [A, B] := by
        have : args.toList.length = 2 := by simpa using hlen
        match h : args.toList, this with
        | [A, B], _ => exact ⟨A, B, rfl⟩
      have h0 := hx.2 0 p (a.eval A) rfl (by simp [hAB])
      have h1 := hx.2 1 q (a.eval B) rfl (by simp [hAB])
      have hargs : (args.map a.eval).toList = [a.eval A, a.eval B] := by simp [hAB]
      obtain ⟨k, m, n, h0, h1, hvv⟩ := gmm_sound hv h0 h1
      cases mx
      · refine .of_vrel (x := .int k (if n < m then n else m)) ?_ (by simpa using hvv)
        simp [Gives, execOp, ho, resolve, invoke, builtin, Builtin.min_, hAB, Builtin.min2, h0, h1]
      · refine .of_vrel (x := .int k (if n > m then n else m)) ?_ (by simpa using hvv)
        simp [Gives, execOp, ho, resolve, invoke, builtin, Builtin.max_, hAB, Builtin.max2, h0, h1]
    · simp at hv
  · simp at hk
end
end Go.Proofs.YtibhcmacccfakaaGreatDoor
namespace Go.Proofs.YtibhcmacccfakaaGreatDoor
variable [Sym]

theorem geqL_append : ∀ {a1 b1 a2 b2 : List GV} {r : Bool}, a1.length = b1.length → geqL (a1 ++ a2) (b1 ++ b2) = some r →
    ∃ r1 r2, geqL a1 b1 = some r1 ∧ geqL a2 b2 = some r2 ∧ r = (r1 && r2)
  | [], [], a2, b2, r, _, h => ⟨true, r, rfl, h, by simp⟩
  | [], _ :: _, _, _, _, hl, _ => by simp at hl
  | _ :: _, [], _, _, _, hl, _ => by simp at hl
  | x :: p, y :: q, a2, b2, r, hl, h => by
    simp only [List.cons_append, geqL] at h ⊢
    simp only [List.length_cons, Nat.add_right_cancel_iff] at hl
    cases hg : geq x y with
    | none => rw [hg] at h; simp at h
    | some c =>
      rw [hg] at h
      cases c with
      | true => exact geqL_append hl h
      | false =>
        simp only [Option.map_eq_some_iff] at h
        obtain ⟨r', hr', rfl⟩ := h
        obtain ⟨r1, r2, h1, h2, _⟩ := geqL_append hl hr'
        exact ⟨false, r2, by simp [h1], h2, rfl⟩

theorem kindsL_append : ∀ {k1 k2 : List EqK} {cs : List GV}, kindsL (k1 ++ k2) cs = true → kindsL k1 (cs.take k1.length) = true ∧ kindsL k2 (cs.drop k1.length) = true ∧ k1.length ≤ cs.length
  | [], k2, cs, h => ⟨rfl, by simpa using h, Nat.zero_le _⟩
  | k :: r, k2, [], h => by simp [kindsL] at h
  | k :: r, k2, c :: q, h => by
    simp only [List.cons_append, kindsL, Bool.and_eq_true] at h
    obtain ⟨h1, h2, h3⟩ := kindsL_append h.2
    simp only [List.length_cons, List.take_succ_cons, List.drop_succ_cons, kindsL, Bool.and_eq_true]
    exact ⟨⟨h.1, h1⟩, h2, by omega⟩
theorem kindsL_length : ∀ {ks : List EqK} {cs : List GV}, kindsL ks cs = true → cs.length = ks.length
  | [], [], _ => rfl
  | [], _ :: _, h => by simp [kindsL] at h
  | _ :: _, [], h => by simp [kindsL] at h
  | k :: r, c :: q, h => by
    simp only [kindsL, Bool.and_eq_true] at h
    simp [kindsL_length h.2]

section
variable {P : Program} {M : Mem} {K : KMap}

theorem bytesEq (a b : ByteArray) : (a == b) = (a.data.toList == b.data.toList) := by
  rw [beq_toListBytes, ByteArray.toList_eq, ByteArray.toList_eq]

theorem eqKinds_scalar : ∀ {d : Nat} {t : TypeId} {ks : List EqK}, eqKinds P d t = some (false, ks) → ks.length = 1
  | 0, t, ks, h => by simp [eqKinds] at h
  | d + 1, t, ks, h => by
    unfold eqKinds at h
    split at h
    all_goals (try split at h)
    all_goals (first | (simp at h; done) | (simp at h; subst h; rfl))

def EqSound (P : Program) (M : Mem) (K : KMap) (w : World) (d : Nat) (t : TypeId) (g : Bool) (ks : List EqK) : Prop :=
  ∀ (D : Nat) (x y : GV) (X Y : Value) (b : Bool), d ≤ D → kindsOk g ks x = true → kindsOk g ks y = true → VRel M K x X → VRel M K y Y → geq x y = some b →
    (Op.equalIn D t X Y).run P w = .ok b w

theorem fields_eq {w : World} {d : Nat} (IH : ∀ (t : TypeId) (g : Bool) (ks : List EqK), eqKinds P d t = some (g, ks) → EqSound P M K w d t g ks) {as bs : List GV} {A B : Array Value}
    (hA : LRel M K as A) (hB : LRel M K bs B) {D : Nat} (hD : d ≤ D) : ∀ (fs : List Field) (o : Nat) (ks : List EqK) (r : Bool), flatK P (eqKinds P d) fs o = some ks → o ≤ as.length → o ≤ bs.length →
    kindsL ks (as.drop o) = true → kindsL ks (bs.drop o) = true → geqL (as.drop o) (bs.drop o) = some r → (Op.eqFields D A B fs).run P w = .ok r w
  | [], o, ks, r, hf, _, _, ha, hb, hr => by
    simp only [flatK, Option.some.injEq] at hf
    subst hf
    have h1 := kindsL_length ha
    have h2 := kindsL_length hb
    have h1 := List.length_eq_zero_iff.1 h1
    have h2 := List.length_eq_zero_iff.1 h2
    rw [h1, h2] at hr
    simp only [geqL, Option.some.injEq] at hr
    subst hr
    simp [Op.eqFields]
  | f :: fs, o, ks, r, hf, oa0, ob0, ha, hb, hr => by
    simp only [flatK] at hf
    split at hf
    · rename_i hn
      obtain ⟨hn, rfl⟩ := hn
      cases hk : eqKinds P d f.type with
      | none => rw [hk] at hf; simp at hf
      | some q =>
        obtain ⟨g, k1⟩ := q
        rw [hk] at hf
        simp only at hf
        split at hf
        · rename_i hs
          simp only [Bool.and_eq_true] at hs
          simp only [Option.map_eq_some_iff] at hf
          obtain ⟨k2, hf, rfl⟩ := hf
          obtain ⟨a1, a2, a3⟩ := kindsL_append ha
          obtain ⟨b1, b2, b3⟩ := kindsL_append hb
          have la : ((as.drop f.offset).take k1.length).length = k1.length := by simp at a3 ⊢; omega
          have lb : ((bs.drop f.offset).take k1.length).length = k1.length := by simp at b3 ⊢; omega
          rw [← List.take_append_drop k1.length (as.drop f.offset), ← List.take_append_drop k1.length (bs.drop f.offset)] at hr
          obtain ⟨r1, r2, h1, h2, rfl⟩ := geqL_append (by rw [la, lb]) hr
          simp only [List.drop_drop] at a2 b2 h2
          have ih := fields_eq IH hA hB hD fs (f.offset + k1.length) k2 r2 hf (by simp at a3; omega) (by simp at b3; omega) a2 b2 h2
          -- the field itself
          have hg1 : g = true ∨ k1.length = 1 := by
            cases g with
            | true => exact .inl rfl
            | false => exact .inr (eqKinds_scalar hk)
          have key : ∀ {cs : List GV}, f.offset ≤ cs.length → k1.length ≤ (cs.drop f.offset).length → kindsL k1 ((cs.drop f.offset).take k1.length) = true → ∀ {C : Array Value}, LRel M K cs C →
              ∃ v, mkv g ((cs.drop f.offset).take k1.length) = some v ∧ kindsOk g k1 v = true ∧ f.offset + k1.length ≤ cs.length ∧
                ((g = true ∧ v = .agg ((cs.drop f.offset).take k1.length)) ∨ (g = false ∧ (cs.drop f.offset).take k1.length = [v])) := by
            intro cs ho0 hl hkk C hC
            have hoff : f.offset + k1.length ≤ cs.length := by
              simp only [List.length_drop] at hl
              omega
            have hmap := (hC.extract f.offset k1.length).map_cp
            cases g with
            | true => exact ⟨.agg ((cs.drop f.offset).take k1.length), by simp only [mkv, if_true, hmap], by simpa [kindsOk] using hkk, hoff, .inl ⟨rfl, rfl⟩⟩
            | false =>
              have h1 : k1.length = 1 := by simpa using hg1
              obtain ⟨kk, rfl⟩ := List.length_eq_one_iff.1 h1
              have hlen : ((cs.drop f.offset).take 1).length = 1 := by simpa using kindsL_length hkk
              obtain ⟨c, hc⟩ := List.length_eq_one_iff.1 hlen
              rw [show ([kk] : List EqK).length = 1 from rfl] at hmap hkk
              rw [hc] at hmap hkk
              simp only [List.map_cons, List.map_nil, List.cons.injEq, and_true] at hmap
              refine ⟨c, ?_, ?_, hoff, .inr ⟨rfl, hc⟩⟩
              · rw [show ([kk] : List EqK).length = 1 from rfl, hc]; simp [mkv, hmap]
              · simpa [kindsOk, kindsL] using hkk
          obtain ⟨va, ma, ka, oa, ea⟩ := key oa0 a3 a1 hA
          obtain ⟨vb, mb, kb, ob, eb⟩ := key ob0 b3 b1 hB
          obtain ⟨ya, pa, ra⟩ := run_part (P := P) (O := ⟨M, K, fun _ => .other⟩) (w := w) hs.1 hs.2 hg1 hA oa ma
          obtain ⟨yb, pb, rb⟩ := run_part (P := P) (O := ⟨M, K, fun _ => .other⟩) (w := w) hs.1 hs.2 hg1 hB ob mb
          have hgeq : geq va vb = some r1 := by
            rcases ea with ⟨g1, e1⟩ | ⟨g1, e1⟩
            · rcases eb with ⟨g2, e2⟩ | ⟨g2, e2⟩
              · rw [e1, e2]; simpa [geq] using h1
              · rw [g1] at g2; simp at g2
            · rcases eb with ⟨g2, e2⟩ | ⟨g2, e2⟩
              · rw [g1] at g2; simp at g2
              · rw [e1, e2] at h1
                simp only [geqL] at h1
                cases hgg : geq va vb with
                | none => rw [hgg] at h1; simp at h1
                | some c => rw [hgg] at h1; cases c <;> simpa using h1
          have he := IH f.type g k1 hk D va vb ya yb r1 hD ka kb ra rb hgeq
          simp only [Op.eqFields, hn, ne_eq, not_false_eq_true, if_true, Sem.run_bind, pa, pb, he, Result.andThen_ok]
          cases r1
          · simp
          · simpa using ih
        · simp at hf
    · simp at hf

theorem geq_l {x y : GV} {r : Bool} (hx : kindOf .l x = true) (hy : kindOf .l y = true) (h : geq x y = some r) :
    (∃ sz, y = .sl sz true .exact []) ∧ ((∃ sz c xs, x = .sl sz r c xs) ∨ (r = false ∧ ∃ g v o l s, x = .msl g v o l s)) := by
  unfold geq at h
  split at h
  all_goals (try (simp only [kindOf, Bool.false_eq_true] at hx; done))
  all_goals (try (simp only [kindOf] at hy; done))
  · simp only [Option.some.injEq] at h; subst h
    exact ⟨⟨_, rfl⟩, .inl ⟨_, _, _, rfl⟩⟩
  · simp only [Option.some.injEq] at h; subst h
    exact ⟨⟨_, rfl⟩, .inr ⟨rfl, _, _, _, _, _, rfl⟩⟩
  · simp at h

section
variable {w : World} {D : Nat} {t : TypeId}
theorem run_eq_p1 {k : TypeId} (hu : P.underlying t = some (.pointer k)) (b : Option Addr) : (Op.equalIn (D + 1) t (.pointer none) (.pointer b)).run P w = .ok b.isNone w := by simp [Op.equalIn, run_underlying hu]
theorem run_eq_p2 {k : TypeId} (hu : P.underlying t = some (.pointer k)) (a : Addr) : (Op.equalIn (D + 1) t (.pointer (some a)) (.pointer none)).run P w = .ok false w := by simp [Op.equalIn, run_underlying hu]
theorem run_eq_l1 {k : TypeId} (hu : P.underlying t = some (.slice k)) (n m : Nat) (b : Option Addr) (n' m' : Nat) : (Op.equalIn (D + 1) t (.slice none n m) (.slice b n' m')).run P w = .ok b.isNone w := by simp [Op.equalIn, run_underlying hu]
theorem run_eq_l2 {k : TypeId} (hu : P.underlying t = some (.slice k)) (n m : Nat) (b : Addr) (n' m' : Nat) : (Op.equalIn (D + 1) t (.slice (some b) n m) (.slice none n' m')).run P w = .ok false w := by simp [Op.equalIn, run_underlying hu]
theorem run_eq_m1 {k l : TypeId} (hu : P.underlying t = some (.map k l)) (b : Option Nat) : (Op.equalIn (D + 1) t (.map none) (.map b)).run P w = .ok b.isNone w := by simp [Op.equalIn, run_underlying hu]
theorem run_eq_m2 {k l : TypeId} (hu : P.underlying t = some (.map k l)) (a : Nat) : (Op.equalIn (D + 1) t (.map (some a)) (.map none)).run P w = .ok false w := by simp [Op.equalIn, run_underlying hu]
theorem run_eq_f1 {k l : Array TypeId} {v : Bool} (hu : P.underlying t = some (.func k l v)) : (Op.equalIn (D + 1) t .nilFunc .nilFunc).run P w = .ok true w := by simp [Op.equalIn, run_underlying hu]
theorem run_eq_f2 {k l : Array TypeId} {v : Bool} (hu : P.underlying t = some (.func k l v)) (f : Fn) (a b : Array Value) : (Op.equalIn (D + 1) t .nilFunc (.func f a b)).run P w = .ok false w := by simp [Op.equalIn, run_underlying hu]
theorem run_eq_f3 {k l : Array TypeId} {v : Bool} (hu : P.underlying t = some (.func k l v)) (f : Fn) (a b : Array Value) : (Op.equalIn (D + 1) t (.func f a b) .nilFunc).run P w = .ok false w := by simp [Op.equalIn, run_underlying hu]
theorem run_eq_n1 {ms : Array (String × TypeId)} (hu : P.underlying t = some (.interface ms)) : (Op.equalIn (D + 1) t .nilIface .nilIface).run P w = .ok true w := by simp [Op.equalIn, run_underlying hu]
theorem run_eq_n2 {ms : Array (String × TypeId)} (hu : P.underlying t = some (.interface ms)) (d : TypeId) (v : Value) : (Op.equalIn (D + 1) t .nilIface (.iface d v)).run P w = .ok false w := by simp [Op.equalIn, run_underlying hu]
theorem run_eq_n3 {ms : Array (String × TypeId)} (hu : P.underlying t = some (.interface ms)) (d : TypeId) (v : Value) : (Op.equalIn (D + 1) t (.iface d v) .nilIface).run P w = .ok false w := by simp [Op.equalIn, run_underlying hu]
end

theorem eqK_sound (w : World) : ∀ (d : Nat) (t : TypeId) (g : Bool) (ks : List EqK), eqKinds P d t = some (g, ks) → EqSound P M K w d t g ks
  | 0, t, g, ks, h => by simp [eqKinds] at h
  | d + 1, t, g, ks, h => by
    intro D x y X Y b hD hx hy rx ry hg
    obtain ⟨D, rfl⟩ : ∃ D', D = D' + 1 := ⟨D - 1, by omega⟩
    have hD : d ≤ D := by omega
    unfold eqKinds at h
    split at h
    case h_9 fs hu =>
      split at h
      · simp at h
      · rename_i hst
        simp only [Bool.or_eq_true, not_or, Bool.not_eq_true] at hst
        simp only [Option.map_eq_some_iff, Prod.mk.injEq] at h
        obtain ⟨ks', hf, rfl, rfl⟩ := h
        simp only [kindsOk, if_true] at hx hy
        split at hx
        · split at hy
          · rename_i as bs
            obtain ⟨A, rfl, hA⟩ := rx.agg_inv
            obtain ⟨B, rfl, hB⟩ := ry.agg_inv
            have hfs : P.fieldsOf t = fs := by simp [Program.fieldsOf, hu]
            rw [run_equalIn_struct w D t A B (by rw [hfs]; exact hu) hst.1, hfs]
            exact fields_eq (eqK_sound w d) hA hB hD fs.toList 0 ks' b hf (Nat.zero_le _) (Nat.zero_le _) (by simpa using hx) (by simpa using hy) (by simpa [geq] using hg)
          · simp at hy
        · simp at hx
    case h_1 hu =>
      simp only [Option.some.injEq, Prod.mk.injEq] at h; obtain ⟨rfl, rfl⟩ := h
      simp only [kindsOk, Bool.false_eq_true, if_false] at hx hy
      cases x <;> simp only [kindOf, Bool.false_eq_true] at hx
      cases y <;> simp only [kindOf, Bool.false_eq_true] at hy
      rw [rx.bool_inv, ry.bool_inv]
      simp only [geq, Option.some.injEq] at hg; subst hg
      simp [Op.equalIn, run_underlying hu]
    case h_2 k hu =>
      simp only [Option.some.injEq, Prod.mk.injEq] at h; obtain ⟨rfl, rfl⟩ := h
      simp only [kindsOk, Bool.false_eq_true, if_false] at hx hy
      obtain ⟨kk, nx, ny, rfl, rfl, rfl⟩ := geq_int hx hy rx ry hg
      simp [Op.equalIn, run_underlying hu]
    case h_3 hu =>
      simp only [Option.some.injEq, Prod.mk.injEq] at h; obtain ⟨rfl, rfl⟩ := h
      simp only [kindsOk, Bool.false_eq_true, if_false] at hx hy
      cases x <;> simp only [kindOf, Bool.false_eq_true] at hx
      cases y <;> simp only [kindOf, Bool.false_eq_true] at hy
      obtain ⟨b1, rfl, rfl⟩ := rx.str_inv
      obtain ⟨b2, rfl, rfl⟩ := ry.str_inv
      simp only [geq, Option.some.injEq] at hg; subst hg
      simp [Op.equalIn, run_underlying hu, bytesEq]
    case h_4 k hu =>
      simp only [Option.some.injEq, Prod.mk.injEq] at h; obtain ⟨rfl, rfl⟩ := h
      simp only [kindsOk, Bool.false_eq_true, if_false] at hx hy
      cases x <;> simp only [kindOf, Bool.false_eq_true] at hx
      all_goals (cases y <;> simp only [kindOf, Bool.false_eq_true] at hy)
      all_goals (try simp only [geq, reduceCtorEq, Option.some.injEq] at hg)
      all_goals (try split at hg)
      all_goals (try simp only [reduceCtorEq, Option.some.injEq] at hg)
      all_goals (subst hg; cases rx <;> cases ry <;> first | exact run_eq_p1 hu _ | exact run_eq_p2 hu _ | exact run_eq_l1 hu _ _ _ _ _ | exact run_eq_l2 hu _ _ _ _ _ | exact run_eq_m1 hu _ | exact run_eq_m2 hu _ | exact run_eq_f1 hu | exact run_eq_f2 hu _ _ _ | exact run_eq_f3 hu _ _ _ | exact run_eq_n1 hu | exact run_eq_n2 hu _ _ | exact run_eq_n3 hu _ _)
    case h_5 k1 k2 k3 hu =>
      simp only [Option.some.injEq, Prod.mk.injEq] at h; obtain ⟨rfl, rfl⟩ := h
      simp only [kindsOk, Bool.false_eq_true, if_false] at hx hy
      cases x <;> simp only [kindOf, Bool.false_eq_true] at hx
      all_goals (cases y <;> simp only [kindOf, Bool.false_eq_true] at hy)
      all_goals (try simp only [geq, reduceCtorEq, Option.some.injEq] at hg)
      all_goals (try split at hg)
      all_goals (try simp only [reduceCtorEq, Option.some.injEq] at hg)
      all_goals (subst hg; cases rx <;> cases ry <;> first | exact run_eq_p1 hu _ | exact run_eq_p2 hu _ | exact run_eq_l1 hu _ _ _ _ _ | exact run_eq_l2 hu _ _ _ _ _ | exact run_eq_m1 hu _ | exact run_eq_m2 hu _ | exact run_eq_f1 hu | exact run_eq_f2 hu _ _ _ | exact run_eq_f3 hu _ _ _ | exact run_eq_n1 hu | exact run_eq_n2 hu _ _ | exact run_eq_n3 hu _ _)
    case h_6 k hu =>
      simp only [Option.some.injEq, Prod.mk.injEq] at h; obtain ⟨rfl, rfl⟩ := h
      simp only [kindsOk, Bool.false_eq_true, if_false] at hx hy
      obtain ⟨⟨sz, rfl⟩, hx'⟩ := geq_l hx hy hg
      have hY : Y = .slice none 0 0 := by cases ry; rfl
      subst hY
      rcases hx' with ⟨sz', c, xs, rfl⟩ | ⟨rfl, g, v, o, l, s, rfl⟩
      · cases rx with
        | slnil sz c hc => exact run_eq_l1 hu _ _ _ _ _
        | sl hc he hl hs hm hr => exact run_eq_l2 hu _ _ _ _ _
      · cases rx with
        | msl hk hv hl ha => exact run_eq_l2 hu _ _ _ _ _
    case h_7 k1 k2 hu =>
      simp only [Option.some.injEq, Prod.mk.injEq] at h; obtain ⟨rfl, rfl⟩ := h
      simp only [kindsOk, Bool.false_eq_true, if_false] at hx hy
      cases x <;> simp only [kindOf, Bool.false_eq_true] at hx
      all_goals (cases y <;> simp only [kindOf, Bool.false_eq_true] at hy)
      all_goals (try simp only [geq, reduceCtorEq, Option.some.injEq] at hg)
      all_goals (try split at hg)
      all_goals (try simp only [reduceCtorEq, Option.some.injEq] at hg)
      all_goals (subst hg; cases rx <;> cases ry <;> first | exact run_eq_p1 hu _ | exact run_eq_p2 hu _ | exact run_eq_l1 hu _ _ _ _ _ | exact run_eq_l2 hu _ _ _ _ _ | exact run_eq_m1 hu _ | exact run_eq_m2 hu _ | exact run_eq_f1 hu | exact run_eq_f2 hu _ _ _ | exact run_eq_f3 hu _ _ _ | exact run_eq_n1 hu | exact run_eq_n2 hu _ _ | exact run_eq_n3 hu _ _)
    case h_8 ms hu =>
      split at h
      · simp only [Option.some.injEq, Prod.mk.injEq] at h; obtain ⟨rfl, rfl⟩ := h
        simp only [kindsOk, Bool.false_eq_true, if_false] at hx hy
        cases x <;> simp only [kindOf, Bool.false_eq_true] at hx
        all_goals (cases y <;> simp only [kindOf, Bool.false_eq_true] at hy)
        all_goals (try simp only [geq, reduceCtorEq, Option.some.injEq] at hg)
        all_goals (try split at hg)
        all_goals (try simp only [reduceCtorEq, Option.some.injEq] at hg)
        all_goals (subst hg; cases rx <;> cases ry <;> first | exact run_eq_p1 hu _ | exact run_eq_p2 hu _ | exact run_eq_l1 hu _ _ _ _ _ | exact run_eq_l2 hu _ _ _ _ _ | exact run_eq_m1 hu _ | exact run_eq_m2 hu _ | exact run_eq_f1 hu | exact run_eq_f2 hu _ _ _ | exact run_eq_f3 hu _ _ _ | exact run_eq_n1 hu | exact run_eq_n2 hu _ _ | exact run_eq_n3 hu _ _)
      · simp at h
    case h_10 => simp at h
end
end Go.Proofs.YtibhcmacccfakaaGreatDoor
namespace Go.Proofs.YtibhcmacccfakaaGreatDoor
variable [Sym]

section
variable {P : Program} {G : Glob} {O : Own} {w : World} {e : Env} {a : Act} {st : St} {o : Oper} {v : GV}

theorem eqKinds_iface {t : TypeId} (h : eqKinds P 9 t = some (false, [.n])) : ∃ ms, P.underlying t = some (.interface ms) := by
  unfold eqKinds at h
  split at h
  case h_8 ms hu => exact ⟨ms, hu⟩
  case h_9 => split at h <;> simp at h
  all_goals (simp at h)
theorem eqKinds_agg {t : TypeId} {ks : List EqK} (h : eqKinds P 9 t = some (true, ks)) : P.eqGuardType P.depth t = false := by
  unfold eqKinds at h
  split at h
  case h_9 =>
    split at h
    · simp at h
    · rename_i hst
      simp only [Bool.or_eq_true, not_or, Bool.not_eq_true] at hst
      exact hst.2
  case h_8 => split at h <;> simp at h
  all_goals (simp at h)

theorem run_eqGuard_ok {op : BinOp} {t : TypeId} {X Y : Operand} {x y : Value} {g : Bool} {ks : List EqK} (hk : eqKinds P 9 t = some (g, ks))
    (hn : okNil P t X Y = true) {M : Mem} {K : KMap} {gx gy : GV} (rx : VRel M K gx x) (ry : VRel M K gy y)
    (kx : kindsOk g ks gx = true) (ky : kindsOk g ks gy = true) : (eqGuard op t X Y x y).run P w = .ok () w := by
  cases rx with
  | niliface =>
    cases g with
    | true => simp [kindsOk] at kx
    | false =>
      simp only [kindsOk, Bool.false_eq_true, if_false] at kx ky
      split at kx
      · rename_i k
        have hkn : k = .n := by cases k <;> simp [kindOf] at kx; rfl
        subst hkn
        obtain ⟨ms, hu⟩ := eqKinds_iface hk
        simp only [okNil, hu, Bool.or_eq_true] at hn
        cases ry <;> simp only [kindOf, Bool.false_eq_true] at ky
        · simp [eqGuard_nil_iface]
        · rcases hn with hn | hn
          · cases X <;> simp only [isConst, Bool.false_eq_true] at hn
            simp [eqGuard_nil_constL]
          · cases Y <;> simp only [isConst, Bool.false_eq_true] at hn
            simp [eqGuard_nil_constR]
      · simp at kx
  | agg hA hr =>
    cases g with
    | false =>
      simp only [kindsOk, Bool.false_eq_true, if_false] at kx
      split at kx
      · rename_i k; cases k <;> simp [kindOf] at kx
      · simp at kx
    | true =>
      have hu := eqKinds_agg hk
      cases ry <;> simp only [kindsOk, if_true, Bool.false_eq_true] at ky
      exact run_eqGuard_agg w op t X Y _ _ hu
  | undef x =>
    cases g <;> simp only [kindsOk, Bool.false_eq_true, if_false, if_true] at kx
    split at kx
    · rename_i k; cases k <;> simp [kindOf] at kx
    · simp at kx
  | _ => first | simp [eqGuard_at_bool] | simp [eqGuard_at_int] | simp [eqGuard_at_string] | simp [eqGuard_at_pointer] | simp [eqGuard_at_slice] | simp [eqGuard_at_map] | simp [eqGuard_at_func] | simp [eqGuard_at_nilFunc] | simp [eqGuard_at_iface] | simp [eqGuard_at_tuple]

def plainV : Value → Bool
  | .int .. | .float .. | .complex .. | .string _ => false
  | _ => true
theorem binOp_eql' {t : TypeId} {x y : Value} (h : plainV x = true) : binOp .eql t x y = (do pure (.bool (← Op.equal t x y))) := by
  cases x <;> first | (simp [plainV] at h; done) | rfl | (cases y <;> rfl)
theorem binOp_neq' {t : TypeId} {x y : Value} (h : plainV x = true) : binOp .neq t x y = (do pure (.bool (!(← Op.equal t x y)))) := by
  cases x <;> first | (simp [plainV] at h; done) | rfl | (cases y <;> rfl)
theorem plainV_of {M : Mem} {K : KMap} {gx : GV} {x : Value} {g : Bool} {ks : List EqK} (rx : VRel M K gx x) (kx : kindsOk g ks gx = true) (hp : (g || (ks != [.i] && ks != [.s])) = true) : plainV x = true := by
  cases rx <;> first | rfl | skip
  all_goals (cases g <;> simp only [kindsOk, Bool.false_eq_true, if_false, if_true] at kx)
  all_goals (split at kx <;> simp_all [kindOf])
  all_goals (rename_i k _; cases k <;> simp_all [kindOf])

theorem sim_eqv (he : EnvRel O w e a.tmps) (hh : HInv P G O st w) {neg agg : Bool} {ks : List EqK} {x y : GX} (hk : okOp P G o.op (.eqv neg agg ks x y) = true) (hv : pureOp e (.eqv neg agg ks x y) = some v) :
    PureSim P O w e a o v := by
  simp only [pureOp] at hv
  unfold okOp at hk; dsimp only at hk
  split at hk
  · rename_i op t X Y b ho
    simp only [Bool.and_eq_true, beq_iff_eq, decide_eq_true_eq] at hk
    obtain ⟨⟨⟨⟨⟨hop, hx⟩, hy⟩, hks⟩, hpl⟩, hn⟩ := hk
    have hx := rd_rel he hh hx
    have hy := rd_rel he hh hy
    split at hv
    · rename_i hkk
      simp only [Option.map_eq_some_iff] at hv
      obtain ⟨r, hr, rfl⟩ := hv
      have h1 := eqK_sound w 9 t agg ks hks 10000 _ _ _ _ r (by decide) hkk.1 hkk.2 hx hy hr
      have h2 := run_eqGuard_ok (w := w) (op := op) hks hn hx hy hkk.1 hkk.2
      have h3 : (binOp op t (a.eval X) (a.eval Y)).run P w = .ok (.bool (r != neg)) w := by
        have hp : plainV (a.eval X) = true := plainV_of hx hkk.1 hpl
        cases neg with
        | true => simp only [if_true] at hop; rw [hop, binOp_neq' hp]; simp [Op.equal, Op.maxDepth, h1]
        | false => simp only [Bool.false_eq_true, if_false] at hop; rw [hop, binOp_eql' hp]; simp [Op.equal, Op.maxDepth, h1]
      exact .of_vrel (x := .bool (r != neg)) (by simp [Gives, execOp, ho, h2, h3]) (.bool _)
    · simp at hv
  · simp at hk
end
end Go.Proofs.YtibhcmacccfakaaGreatDoor
namespace Go.Proofs.YtibhcmacccfakaaGreatDoor
variable [Sym]

section
variable {P : Program} {G : Glob} {O : Own} {w : World} {e : Env} {a : Act} {st : St} {o : Oper} {v : GV}

theorem add_none (b o n : Nat) : (⟨b, o, none⟩ : Addr).add n = ⟨b, o + n, none⟩ := Addr.add_lit b o n

theorem plus_rel {tmps : Array Value} {v v' : GV} {x : Value} {off : Nat} (h : ARel O e tmps v x) (hp : plus off v = some v') :
    ∃ A, x = .pointer (some A) ∧ ARel O e tmps v' (.pointer (some (A.add off))) := by
  cases v with
  | lptr s o =>
    simp only [plus, Option.some.injEq] at hp
    subst hp
    obtain ⟨b, rfl, h1, h2⟩ := h
    exact ⟨_, rfl, b, by rw [add_none], h1, h2⟩
  | eptr cs =>
    simp only [plus] at hp
    split at hp
    · rename_i hl
      simp only [Option.some.injEq] at hp
      subst hp
      have h : VRel O.M O.K (.eptr cs) x := h
      cases h with
      | @eptr _ b o f hm hr =>
        refine ⟨_, rfl, ?_⟩
        rw [add_none]
        show VRel O.M O.K (.eptr (cs.drop off)) _
        refine .eptr (f := fun i => f (off + i)) (fun i hi => ?_) fun i c hc => ?_
        · rw [Nat.add_assoc]; exact hm _ (by simp at hi; omega)
        · exact hr _ c (by simpa using hc)
    · simp at hp
  | ptr g ver o =>
    simp only [plus, Option.some.injEq] at hp
    subst hp
    have h : VRel O.M O.K (.ptr g ver o) x := h
    cases h with
    | @ptr _ _ _ b o' k hk hv ha =>
      refine ⟨_, rfl, ?_⟩
      rw [add_none]
      show VRel O.M O.K (.ptr g ver (o + off)) _
      exact .ptr hk hv fun q => by obtain ⟨h1, h2⟩ := ha q; exact ⟨h1, by omega⟩
  | _ => simp [plus] at hp

theorem sim_fieldAddr (he : EnvRel O w e a.tmps) (hh : HInv P G O st w) {x : GX} {off : Nat} (hk : okOp P G o.op (.fieldAddr x off) = true) (hv : pureOp e (.fieldAddr x off) = some v) : PureSim P O w e a o v := by
  simp only [pureOp] at hv
  unfold okOp at hk; dsimp only at hk
  split at hk
  · rename_i t X f ho
    simp only [Bool.and_eq_true] at hk
    obtain ⟨hx, hk⟩ := hk
    have hx := adr_rel he hh hx
    split at hk
    · rename_i fs hu
      split at hk
      · rename_i fd hf
        simp only [Bool.and_eq_true, beq_iff_eq, bne_iff_ne, ne_eq] at hk
        obtain ⟨rfl, hs⟩ := hk
        obtain ⟨A, hA, hr⟩ := plus_rel hx hv
        refine ⟨_, ?_, hr⟩
        have h1 : (fieldPlace A fd).run P w = .ok (A.add fd.offset) w := by
          cases hi : P.info? fd.type with
          | none => simp [Program.cellsOf, hi] at hs
          | some i =>
            have hs : ¬ i.size = 0 := by simpa [Program.cellsOf, hi] using hs
            simp [fieldPlace, sizeOf, typeInfo, hi, hs]
        simp [Gives, execOp, ho, hA, Instr.fieldAt, run_underlying hu, hf, Instr.sureAddr, h1]
      · simp at hk
    · simp at hk
  · simp at hk

theorem sim_indexArr (he : EnvRel O w e a.tmps) (hh : HInv P G O st w) {x i : GX} {n sz : Nat} (hk : okOp P G o.op (.indexArr x i n sz) = true) (hv : pureOp e (.indexArr x i n sz) = some v) : PureSim P O w e a o v := by
  simp only [pureOp, Option.bind_eq_bind, Option.bind_eq_some_iff] at hv
  obtain ⟨m, hm, hv⟩ := hv
  obtain ⟨k, hm⟩ := asNat_inv hm
  unfold okOp at hk; dsimp only at hk
  split at hk
  · rename_i t X I ho
    simp only [Bool.and_eq_true] at hk
    obtain ⟨⟨hx, hi⟩, hk⟩ := hk
    have hx := adr_rel he hh hx
    have hi := rd_rel he hh hi
    rw [hm] at hi
    have hi := hi.int_inv
    split at hk
    · rename_i m' el hu
      simp only [Bool.and_eq_true, beq_iff_eq, decide_eq_true_eq] at hk
      obtain ⟨⟨rfl, h1⟩, hs⟩ := hk
      split at hv
      · rename_i hl
        obtain ⟨A, hA, hr⟩ := plus_rel hx hv
        exact ⟨_, by simp [Gives, execOp, ho, hA, hi, Instr.indexAt, asIntOf, run_underlying hu, Instr.sureAddr, run_sizeOf hs, hl], hr⟩
      · simp at hv
    · simp at hk
  · simp at hk

theorem sim_indexSl (he : EnvRel O w e a.tmps) (hh : HInv P G O st w) {x i : GX} {sz : Nat} (hk : okOp P G o.op (.indexSl x i sz) = true) (hv : pureOp e (.indexSl x i sz) = some v) : PureSim P O w e a o v := by
  simp only [pureOp, Option.bind_eq_bind, Option.bind_eq_some_iff] at hv
  obtain ⟨m, hm, hv⟩ := hv
  obtain ⟨k, hm⟩ := asNat_inv hm
  unfold okOp at hk; dsimp only at hk
  split at hk
  · rename_i t X I ho
    simp only [Bool.and_eq_true] at hk
    obtain ⟨⟨hx, hi⟩, hk⟩ := hk
    have hx := rd_rel he hh hx
    have hi := rd_rel he hh hi
    rw [hm] at hi
    have hi := hi.int_inv
    split at hk
    · rename_i el hsl
      have hu := sliceOf_inv hsl
      have run : ∀ (b off len cap : Nat), a.eval X = .slice (some ⟨b, off, none⟩) len cap → m < len → Gives P w a o (.pointer (some ⟨b, off + m * sz, none⟩)) w := by
        intro b off len cap hX hl
        simp [Gives, execOp, ho, hX, hi, Instr.indexAt, asIntOf, run_underlying hu, run_sizeOf hk, hl, add_none]
      split at hv
      · rename_i z bn c xs h2
        rw [h2] at hx
        split at hv
        · rename_i cs hcs
          split at hv
          · rename_i hz
            subst hz
            simp only [Option.some.injEq] at hv
            subst hv
            have hml := (List.getElem?_eq_some_iff.1 hcs).1
            generalize hX : a.eval X = y at hx
            cases hx with
            | slnil => simp at hcs
            | @sl _ _ _ b off cap f hc hex hl hs hm hr =>
              refine .of_vrel (run b off _ cap hX hml) ?_
              have hlen : cs.length = z := hs cs (List.mem_of_getElem? hcs)
              refine .eptr (f := fun j => f (m * z + j)) (fun j hj => ?_) fun j c hc => ?_
              · rw [Nat.add_assoc]
                refine hm (m * z + j) ?_
                have : (m + 1) * z ≤ xs.length * z := Nat.mul_le_mul_right z (by omega)
                rw [Nat.add_mul] at this
                omega
              · exact hr m j cs c hcs hc
          · simp at hv
        · simp at hv
      · rename_i g ver off n z h2
        rw [h2] at hx
        split at hv
        · rename_i hl
          obtain ⟨hl, rfl⟩ := hl
          simp only [Option.some.injEq] at hv
          subst hv
          generalize hX : a.eval X = y at hx
          cases hx with
          | @msl _ _ _ _ _ cap b off' kk hk' hv' hl' ha =>
            refine .of_vrel (run b off' _ cap hX hl) (.ptr hk' hv' fun q => ?_)
            obtain ⟨h1, h2, _⟩ := ha q
            exact ⟨h1, by omega⟩
        · simp at hv
      · simp at hv
    · simp at hk
  · simp at hk

theorem sim_nilCheck (he : EnvRel O w e a.tmps) (hh : HInv P G O st w) {x : GX} (hk : okOp P G o.op (.nilCheck x) = true) (hv : pureOp e (.nilCheck x) = some v) : PureSim P O w e a o v := by
  simp only [pureOp] at hv
  unfold okOp at hk; dsimp only at hk
  split at hk
  · rename_i X ho
    have hx := adr_rel he hh hk
    generalize hX : a.eval X = y at hx
    split at hv
    · rename_i s o' h1
      simp only [Option.some.injEq] at hv; subst hv
      rw [h1] at hx
      obtain ⟨b, rfl, h2⟩ := hx
      exact ⟨_, by simp [Gives, execOp, ho, hX], b, rfl, h2⟩
    · rename_i h1
      simp only [Option.some.injEq] at hv; subst hv
      rw [h1] at hx
      have hx' : VRel O.M O.K _ y := hx
      refine ⟨y, ?_, hx⟩
      cases hx'; simp [Gives, execOp, ho, hX]
    · rename_i h1
      simp only [Option.some.injEq] at hv; subst hv
      rw [h1] at hx
      have hx' : VRel O.M O.K _ y := hx
      refine ⟨y, ?_, hx⟩
      cases hx'; simp [Gives, execOp, ho, hX]
    · rename_i h1
      simp only [Option.some.injEq] at hv; subst hv
      rw [h1] at hx
      have hx' : VRel O.M O.K _ y := hx
      refine ⟨y, ?_, hx⟩
      cases hx'; simp [Gives, execOp, ho, hX]
    · rename_i h1
      simp only [Option.some.injEq] at hv; subst hv
      rw [h1] at hx
      have hx' : VRel O.M O.K _ y := hx
      refine ⟨y, ?_, hx⟩
      cases hx'; simp [Gives, execOp, ho, hX]
    · rename_i h1
      simp only [Option.some.injEq] at hv; subst hv
      rw [h1] at hx
      have hx' : VRel O.M O.K _ y := hx
      refine ⟨y, ?_, hx⟩
      cases hx'; simp [Gives, execOp, ho, hX]
    · simp at hv
  · simp at hk

/-! ### Parts put together -/
theorem set_fold (off : Nat) : ∀ (vs : List Value) (k : Nat) (A : Array Value), off + k + vs.length ≤ A.size →
    ((vs.zipIdx k).foldl (fun cs p => cs.setIfInBounds (off + p.2) p.1) A).size = A.size ∧
    ∀ i, ((vs.zipIdx k).foldl (fun cs p => cs.setIfInBounds (off + p.2) p.1) A)[i]? = if off + k ≤ i ∧ i < off + k + vs.length then vs[i - (off + k)]? else A[i]?
  | [], k, A, _ => ⟨rfl, fun i => by simp; omega⟩
  | v :: r, k, A, h => by
    simp only [List.length_cons] at h
    obtain ⟨h1, h2⟩ := set_fold off r (k + 1) (A.setIfInBounds (off + k) v) (by rw [Array.size_setIfInBounds]; omega)
    simp only [List.zipIdx_cons, List.foldl_cons]
    refine ⟨by simpa using h1, fun i => ?_⟩
    rw [h2]
    simp only [List.length_cons]
    by_cases hi : i = off + k
    · subst hi
      rw [if_neg (by omega), if_pos (by omega)]
      rw [Nat.sub_self, List.getElem?_cons_zero, Array.getElem?_setIfInBounds, if_pos rfl, if_pos (by omega)]
    · by_cases h3 : off + (k + 1) ≤ i ∧ i < off + (k + 1) + r.length
      · rw [if_pos h3, if_pos (by omega)]
        rw [show i - (off + k) = (i - (off + (k + 1))) + 1 by omega, List.getElem?_cons_succ]
      · rw [if_neg h3, if_neg (by omega)]
        rw [Array.getElem?_setIfInBounds, if_neg (by omega)]

theorem fill_cells {cs vs : List GV} {A : Array Value} {M : Mem} {K : KMap} (hA : LRel M K cs A) {V : Array Value} (hV : LRel M K vs V) {off : Nat} (h : off + vs.length ≤ cs.length) :
    LRel M K (splice cs off vs) (V.zipIdx.foldl (fun cs (c, j) => cs.setIfInBounds (off + j) c) A) := by
  have h1 := set_fold off V.toList 0 A (by simp [hV.1, hA.1]; omega)
  have e1 : V.zipIdx.foldl (fun cs (c, j) => cs.setIfInBounds (off + j) c) A = (V.toList.zipIdx 0).foldl (fun cs p => cs.setIfInBounds (off + p.2) p.1) A := by
    rw [← Array.foldl_toList]; simp
  rw [e1]
  refine hA.spliced hV h h1.1 fun i => ?_
  rw [h1.2]
  simp

theorem fill_rel (he : EnvRel O w e a.tmps) (hh : HInv P G O st w) {place : Nat → Option (Nat × Nat)} : ∀ {ps : List (Nat × Operand)} {qs : List (Nat × Nat × GX)} {cs cs' : List GV} {A : Array Value},
    okParts P G place ps qs = true → LRel O.M O.K cs A → fillParts e cs qs = some cs' → ∃ A', Instr.fill place A (ps.map fun p => (p.1, a.eval p.2)) = some A' ∧ LRel O.M O.K cs' A'
  | [], [], cs, cs', A, _, hA, hf => by
    simp only [fillParts, Option.some.injEq] at hf
    subst hf
    exact ⟨A, rfl, hA⟩
  | [], _ :: _, _, _, _, h, _, _ => by simp [okParts] at h
  | _ :: _, [], _, _, _, h, _, _ => by simp [okParts] at h
  | (i, X) :: r, (off, n, y) :: q, cs, cs', A, h, hA, hf => by
    simp only [okParts, Bool.and_eq_true, beq_iff_eq] at h
    obtain ⟨⟨hp, hx⟩, hr⟩ := h
    have hx := rd_rel he hh hx
    simp only [fillParts] at hf
    split at hf
    · rename_i hc
      obtain ⟨hd, hn, hl⟩ := hc
      have hV := hx.cells hd
      have hfc := fill_cells hA hV (off := off) (by omega)
      obtain ⟨A', h1, h2⟩ := fill_rel he hh hr hfc hf
      refine ⟨A', ?_, h2⟩
      simp only [List.map_cons, Instr.fill, hp]
      rw [if_neg]
      · exact h1
      · simp only [Bool.or_eq_true, decide_eq_true_eq, not_or, ne_eq, hV.1, hn, hA.1, not_true_eq_false, not_false_eq_true, true_and]
        omega
    · simp at hf

theorem sim_build (he : EnvRel O w e a.tmps) (hh : HInv P G O st w) {z : List GV} {qs : List (Nat × Nat × GX)} (hk : okOp P G o.op (.build z qs) = true) (hv : pureOp e (.build z qs) = some v) : PureSim P O w e a o v := by
  simp only [pureOp, Option.map_eq_some_iff] at hv
  obtain ⟨cs, hv, rfl⟩ := hv
  unfold okOp at hk; dsimp only at hk
  split at hk
  · rename_i t ps ho
    simp only [Bool.and_eq_true] at hk
    obtain ⟨hz, hk⟩ := hk
    obtain ⟨i, zz, hi, hzz, hc⟩ := zeroIs_inv hz
    have hz0 : LRel O.M O.K z zz.cells := okCL_lrel hc
    have fin : ∀ {A : Array Value}, P.built t (ps.map fun p => (p.1, a.eval p.2)).toList = some A → LRel O.M O.K cs A → PureSim P O w e a o (.agg cs) := fun {A} hb hr => by
      refine .of_vrel (x := .agg A) ?_ (.agg_of hr)
      have := run_build w t (ps.map fun p => (p.1, a.eval p.2)) A hb
      simp [Gives, execOp, ho, this]
    split at hk
    · rename_i fs hu
      split at hk
      · rename_i places hpl
        obtain ⟨A, h1, h2⟩ := fill_rel he hh hk hz0 hv
        refine fin ?_ h2
        simp only [Program.built, hi, hu, hzz, hpl, Array.toList_map]
        exact h1
      · simp at hk
    · rename_i n el hu
      split at hk
      · rename_i ie hie
        obtain ⟨A, h1, h2⟩ := fill_rel he hh hk hz0 hv
        refine fin ?_ h2
        simp only [Program.built, hi, hu, hzz, hie, Array.toList_map]
        exact h1
      · simp at hk
    · simp at hk
  · simp at hk

/-! ### Slices -/
theorem optNat_rel (he : EnvRel O w e a.tmps) (hh : HInv P G O st w) {X : Option Operand} {x : Option GX} {n : Option Nat} (hk : okOX G X x = true) (hv : optNat e x = some n) :
    (X = none ∧ n = none) ∨ ∃ X' m k, X = some X' ∧ n = some m ∧ a.eval X' = .int k m := by
  cases X with
  | none =>
    cases x with
    | none => simp only [optNat, Option.some.injEq] at hv; exact .inl ⟨rfl, hv.symm⟩
    | some x => simp [okOX] at hk
  | some X =>
    cases x with
    | none => simp [okOX] at hk
    | some x =>
      simp only [optNat, Option.map_eq_some_iff] at hv
      obtain ⟨m, hm, rfl⟩ := hv
      obtain ⟨k, hm⟩ := asNat_inv hm
      have hx := rd_rel he hh (show okX G X x = true from hk)
      rw [hm] at hx
      exact .inr ⟨X, m, k, rfl, rfl, hx.int_inv⟩

theorem run_sliceBound {k : IntKind} {i y : Nat} {code : BoundsCode} (h : i ≤ y) : (Instr.sliceBound (.int k i) y code).run P w = .ok i w := by
  simp [Instr.sliceBound, asIntOf, h]

/-- The bounds of a slice. -/
theorem run_sliceBounds (isS : Bool) (len cap : Nat) {L H M : Option Value} {l h m : Option Nat} (hL : (L = none ∧ l = none) ∨ ∃ (n : Nat) (k : IntKind), L = some (.int k n) ∧ l = some n)
    (hH : (H = none ∧ h = none) ∨ ∃ (n : Nat) (k : IntKind), H = some (.int k n) ∧ h = some n) (hM : (M = none ∧ m = none) ∨ ∃ (n : Nat) (k : IntKind), M = some (.int k n) ∧ m = some n)
    (h1 : l.getD 0 ≤ h.getD len) (h2 : h.getD len ≤ cap) (h3 : m = none ∨ m = h) :
    (Instr.sliceBounds isS len cap L H M).run P w = .ok (l.getD 0, h.getD len, m.getD cap) w := by
  rcases hM with ⟨rfl, rfl⟩ | ⟨nm, km, rfl, rfl⟩
  · rcases hH with ⟨rfl, rfl⟩ | ⟨nh, kh, rfl, rfl⟩
    · rcases hL with ⟨rfl, rfl⟩ | ⟨nl, kl, rfl, rfl⟩
      · simp [Instr.sliceBounds]
      · simp only [Option.getD_some, Option.getD_none] at h1 h2
        simp [Instr.sliceBounds, run_sliceBound h1]
    · rcases hL with ⟨rfl, rfl⟩ | ⟨nl, kl, rfl, rfl⟩
      · simp only [Option.getD_some, Option.getD_none] at h1 h2
        simp [Instr.sliceBounds, run_sliceBound h2]
      · simp only [Option.getD_some] at h1 h2
        simp [Instr.sliceBounds, run_sliceBound h2, run_sliceBound h1]
  · rcases hH with ⟨rfl, rfl⟩ | ⟨nh, kh, rfl, rfl⟩
    · simp at h3
    · simp only [reduceCtorEq, Option.getD_some, Option.some.injEq, false_or] at h1 h2 h3
      subst h3
      rcases hL with ⟨rfl, rfl⟩ | ⟨nl, kl, rfl, rfl⟩
      · simp [Instr.sliceBounds, run_sliceBound h2, run_sliceBound (Nat.le_refl _)]
      · simp only [Option.getD_some] at h1
        simp [Instr.sliceBounds, run_sliceBound h2, run_sliceBound (Nat.le_refl _), run_sliceBound h1]

theorem sim_slice (he : EnvRel O w e a.tmps) (hh : HInv P G O st w) {str : Bool} {x : GX} {lo hi mx : Option GX} {sz : Nat} (hk : okOp P G o.op (.slice str x lo hi mx sz) = true)
    (hv : pureOp e (.slice str x lo hi mx sz) = some v) : PureSim P O w e a o v := by
  simp only [pureOp, Option.bind_eq_bind, Option.bind_eq_some_iff, Option.some.injEq] at hv
  obtain ⟨l, hl, h, hh', m, hm, v', hv, rfl⟩ := hv
  unfold okOp at hk; dsimp only at hk
  split at hk
  · rename_i t X L H Mx ho
    simp only [Bool.and_eq_true] at hk
    obtain ⟨⟨⟨⟨hx, hL⟩, hH⟩, hM⟩, hk⟩ := hk
    have hx := rd_rel he hh hx
    have conv : ∀ {Y : Option Operand} {n : Option Nat}, ((Y = none ∧ n = none) ∨ ∃ X' m k, Y = some X' ∧ n = some m ∧ a.eval X' = .int k m) →
        (Y.map a.eval = none ∧ n = none) ∨ ∃ (p : Nat) (k : IntKind), Y.map a.eval = some (.int k p) ∧ n = some p := by
      rintro Y n (⟨rfl, rfl⟩ | ⟨X', p, k, rfl, rfl, hq⟩)
      · exact .inl ⟨rfl, rfl⟩
      · exact .inr ⟨p, k, by simp [hq], rfl⟩
    have hL := conv (optNat_rel he hh hL hl)
    have hH := conv (optNat_rel he hh hH hh')
    have hM := conv (optNat_rel he hh hM hm)
    generalize hX : a.eval X = y at hx
    have runSl : ∀ {el : TypeId} {base : Option Addr} {len cap : Nat}, P.underlying t = some (.slice el) → sizeIs P el sz = true → y = .slice base len cap → l.getD 0 ≤ h.getD len → h.getD len ≤ cap → (m = none ∨ m = h) →
        Gives P w a o (.slice (if m.getD cap = l.getD 0 then base else base.map (·.add (l.getD 0 * sz))) (h.getD len - l.getD 0) (m.getD cap - l.getD 0)) w := by
      intro el base len cap hu hs hy c1 c2 c3
      simp [Gives, execOp, ho, Instr.sliceAt, run_underlying hu, Instr.slice, hX, hy, run_sliceBounds (P := P) (w := w) true len cap hL hH hM c1 c2 c3, run_sizeOf hs]
    unfold doSlice at hv
    split at hv
    · -- a string
      rename_i s h2
      rw [h2] at hx
      obtain ⟨b, rfl, rfl⟩ := hx.str_inv
      dsimp only at hv
      split at hv
      · rename_i hc
        obtain ⟨rfl, c1, c2, rfl⟩ := hc
        simp only [Option.some.injEq] at hv; subst hv
        have hu : P.underlying t = some .string := by
          split at hk
          · simp at hk
          · assumption
          · simp at hk
        have hb := run_sliceBounds (P := P) (w := w) false b.size b.size hL hH (M := none) (m := none) (.inl ⟨rfl, rfl⟩) c1 c2 (.inl rfl)
        have hMx : Mx.map a.eval = none := by
          rcases hM with ⟨h1, _⟩ | ⟨p, k, _, h2⟩
          · exact h1
          · simp at h2
        have e1 : (b.extract (l.getD 0) (h.getD b.size)).data.toList = (b.data.toList.take (h.getD b.size)).drop (l.getD 0) := by
          rw [ByteArray.data_extract, Array.toList_extract, List.extract_eq_take_drop, List.drop_take]
        refine .of_vrel (x := .string (b.extract (l.getD 0) (h.getD b.size))) ?_ ?_
        · simp only [Option.map_eq_none_iff] at hMx
          simp [Gives, execOp, ho, Instr.sliceAt, run_underlying hu, Instr.slice, hX, hb, hMx]
        · have := VRel.str (M := O.M) (K := O.K) (b.extract (l.getD 0) (h.getD b.size))
          rw [e1] at this
          exact this
      · simp at hv
    · -- a slice that never changes
      rename_i z bn cap xs h2
      rw [h2] at hx
      dsimp only at hv
      split at hv
      · rename_i hc
        obtain ⟨rfl, c1, c2, c3, c4⟩ := hc
        simp only [Option.some.injEq] at hv; subst hv
        obtain ⟨el, hu, hs⟩ : ∃ el, P.underlying t = some (.slice el) ∧ sizeIs P el sz = true := by
          split at hk
          · exact ⟨_, by assumption, by simpa using hk⟩
          · simp at hk
          · simp at hk
        cases hx with
        | slnil _ _ hcn =>
          simp only [List.length_nil] at c1 c2
          have e0 : l.getD 0 = 0 := by omega
          have e1 : h.getD 0 = 0 := by omega
          have hg := runSl hu hs rfl (len := 0) (cap := 0) (by simpa using c1) (by omega) c3
          have e2 : m.getD 0 = 0 := by rcases c3 with rfl | rfl <;> simp_all
          rw [e0, e1, e2] at hg
          refine .of_vrel (by simpa using hg) ?_
          simp only [List.take_nil, List.drop_nil]
          exact .slnil _ _ (by split <;> decide)
        | @sl _ _ _ b' o' cap' f hcn hex hlen hs' hm' hr' =>
          have hg := runSl hu hs rfl (len := xs.length) (cap := cap') c1 (by omega) c3
          have hlen2 : ((xs.take (h.getD xs.length)).drop (l.getD 0)).length = h.getD xs.length - l.getD 0 := by simp; omega
          have c5 : h.getD xs.length ≤ m.getD cap' := by
            rcases c3 with rfl | rfl
            · simp only [Option.getD_none]; omega
            · cases m with
              | none => simpa using hlen
              | some p => simp
          have hmem : ∀ q, q ∈ (xs.take (h.getD xs.length)).drop (l.getD 0) → q ∈ xs := fun q hq => List.mem_of_mem_take (List.mem_of_mem_drop hq)
          have hexact : ∀ c', (if m.isSome ∨ (cap = .exact ∧ h.getD xs.length = xs.length) then Cap.exact else Cap.no) = c' → c' = .exact → m.getD cap' - l.getD 0 = h.getD xs.length - l.getD 0 := by
            intro c' h1 h2
            subst h2
            split at h1
            · rename_i h3
              rcases h3 with h3 | ⟨h3, h4⟩
              · rcases c3 with rfl | rfl
                · simp at h3
                · cases m <;> simp_all
              · rcases c3 with rfl | rfl
                · simp only [Option.getD_none]; rw [hex h3, h4]
                · cases m <;> simp_all
            · simp at h1
          have hne : (if m.isSome ∨ (cap = .exact ∧ h.getD xs.length = xs.length) then Cap.exact else Cap.no) ≠ .own := by split <;> decide
          by_cases hml : m.getD cap' = l.getD 0
          · rw [if_pos hml] at hg
            have e0 : (xs.take (h.getD xs.length)).drop (l.getD 0) = [] := List.length_eq_zero_iff.1 (by rw [hlen2]; omega)
            refine .of_vrel hg ?_
            rw [e0]
            rw [show h.getD xs.length - l.getD 0 = ([] : List (List GV)).length by simp; omega]
            refine .sl (f := fun _ => undef) hne (fun hq => ?_) (by simp) (by simp) (by simp) (by simp)
            simp; omega
          · rw [if_neg hml] at hg
            simp only [Option.map_some, add_none] at hg
            refine .of_vrel hg ?_
            rw [← hlen2]
            have hdrop : ∀ i, ((xs.take (h.getD xs.length)).drop (l.getD 0))[i]? = if l.getD 0 + i < h.getD xs.length then xs[l.getD 0 + i]? else none := by
              intro i; simp [List.getElem?_take]
            rcases c4 with rfl | rfl
            · refine .sl (f := fun i => f (l.getD 0 * z + i)) hne (fun hq => by rw [hlen2]; exact hexact _ rfl hq) (by rw [hlen2]; omega) (fun q hq => hs' q (hmem q hq)) (fun i hi => ?_) fun i j q c hq hc => ?_
              · rw [Nat.add_assoc]
                refine hm' _ ?_
                rw [hlen2, Nat.sub_mul] at hi
                have : h.getD xs.length * z ≤ xs.length * z := Nat.mul_le_mul_right z c2
                omega
              · rw [hdrop] at hq
                split at hq
                · have := hr' _ j q c hq hc
                  rw [Nat.add_mul, Nat.add_assoc] at this
                  exact this
                · simp at hq
            · simp only [List.take_nil, List.drop_nil]
              refine .sl (f := fun _ => undef) hne (fun hq => ?_) (by simp) (by simp) (by simp) (by simp)
              have := hexact _ rfl hq
              simp at this c1 c2 ⊢; omega
      · simp at hv
    · -- a slice of a ghost block
      rename_i g ver off n z h2
      rw [h2] at hx
      dsimp only at hv
      split at hv
      · rename_i hc
        obtain ⟨rfl, c1, c2, c3, rfl⟩ := hc
        simp only [Option.some.injEq] at hv; subst hv
        obtain ⟨el, hu, hs⟩ : ∃ el, P.underlying t = some (.slice el) ∧ sizeIs P el z = true := by
          split at hk
          · exact ⟨_, by assumption, by simpa using hk⟩
          · simp at hk
          · simp at hk
        cases hx with
        | @msl _ _ _ _ _ cap' b' o' k hk' hv' hl' ha =>
          have hg := runSl hu hs rfl (len := n) (cap := cap') c1 (by omega) c3
          have c5 : h.getD n ≤ m.getD cap' ∧ m.getD cap' ≤ cap' := by
            rcases c3 with rfl | rfl
            · simp; omega
            · cases m <;> simp at c2 ⊢ <;> omega
          split
          · rename_i hq
            have hbase : ∃ b2 o2, (if m.getD cap' = l.getD 0 then some (⟨b', o', none⟩ : Addr) else (some (⟨b', o', none⟩ : Addr)).map (·.add (l.getD 0 * z))) = some ⟨b2, o2, none⟩ := by
              split
              · exact ⟨_, _, rfl⟩
              · exact ⟨b', o' + l.getD 0 * z, by simp only [Option.map_some, add_none]⟩
            obtain ⟨b2, o2, hb2⟩ := hbase
            rw [hb2] at hg
            refine .of_vrel hg ?_
            rw [show h.getD n - l.getD 0 = ([] : List (List GV)).length by simp; omega]
            exact .sl (f := fun _ => undef) (by decide) (fun hq => by simp at hq) (by simp) (by simp) (by simp) (by simp)
          · rename_i hq
            have hbase : (if m.getD cap' = l.getD 0 then some (⟨b', o', none⟩ : Addr) else (some (⟨b', o', none⟩ : Addr)).map (·.add (l.getD 0 * z))) = some ⟨b', o' + l.getD 0 * z, none⟩ := by
              split
              · have : l.getD 0 = 0 := by omega
                rw [this]; simp
              · simp only [Option.map_some, add_none]
            rw [hbase] at hg
            refine .of_vrel hg (.msl hk' hv' (by omega) fun q => ?_)
            obtain ⟨h3, h4, h5⟩ := ha q
            refine ⟨h3, by omega, ?_⟩
            have : (l.getD 0 + (m.getD cap' - l.getD 0)) * z ≤ cap' * z := Nat.mul_le_mul_right z (by omega)
            rw [Nat.add_mul] at this
            omega
      · simp at hv
    · simp at hv
  · simp at hk
end
end Go.Proofs.YtibhcmacccfakaaGreatDoor
namespace Go.Proofs.YtibhcmacccfakaaGreatDoor
variable [Sym]

theorem least_none : ∀ {l : List String}, Instr.least l = none ↔ l = []
  | [] => by simp [Instr.least]
  | _ :: _ => by simp [Instr.least]

theorem missing_iff (want : Array (String × TypeId)) (got : Array Method) :
    (Instr.missingMethod want got = none) ↔ (want.toList.all fun p => got.any fun m => m.name == p.1 && m.sig == p.2) = true := by
  unfold Instr.missingMethod
  have e1 : (List.map (fun x => x.fst) (List.filter (fun x => match x with | (name, sig) => !got.any fun m => m.name == name && m.sig == sig) want.toList)) = [] ↔
      (want.toList.all fun p => got.any fun m => m.name == p.1 && m.sig == p.2) = true := by
    rw [List.map_eq_nil_iff, List.filter_eq_nil_iff, List.all_eq_true]
    simp
  generalize (List.map (fun x => x.fst) (List.filter (fun x => match x with | (name, sig) => !got.any fun m => m.name == name && m.sig == sig) want.toList)) = l at e1
  rw [← e1]
  cases hp : l.partition fun x => x.contains (Char.ofNat 46) with
  | mk u ex =>
    simp only [hp]
    rw [List.partition_eq_filter_filter] at hp
    simp only [Prod.mk.injEq] at hp
    cases ex with
    | nil =>
      cases u with
      | nil =>
        simp only [Instr.least, List.map_nil]
        constructor
        · intro _
          cases l with
          | nil => rfl
          | cons x r =>
            have h1 := hp.1; have h2 := hp.2
            rw [List.filter_eq_nil_iff] at h1 h2
            have := h1 x (by simp); have := h2 x (by simp)
            simp_all
        · intro _; rfl
      | cons x r =>
        simp only [Instr.least, List.map_cons]
        constructor
        · intro h; simp at h
        · rintro rfl; simp at hp
    | cons x r =>
      simp only [Instr.least]
      constructor
      · intro h; simp at h
      · rintro rfl; simp at hp

section
variable {P : Program} {G : Glob} {O : Own} {w : World} {e : Env} {a : Act} {st : St} {o : Oper} {v : GV}

theorem okTypes_find {want : Array (String × TypeId)} : ∀ {ts : List (TypeId × Bool)} {t : TypeId} {p : TypeId × Bool}, okTypes P want ts = true → ts.find? (fun q => q.1 == t) = some p →
    ∃ i, P.info? t = some i ∧ (want.toList.all fun p => i.methods.any fun m => m.name == p.1 && m.sig == p.2) = p.2
  | [], _, _, _, h => by simp at h
  | (u, b) :: r, t, p, hk, h => by
    simp only [okTypes, Bool.and_eq_true] at hk
    simp only [List.find?_cons] at h
    split at h
    · rename_i hu
      simp only [beq_iff_eq] at hu
      subst hu
      simp only [Option.some.injEq] at h; subst h
      obtain ⟨hk, _⟩ := hk
      split at hk
      · rename_i i hi
        exact ⟨i, hi, by simpa using hk⟩
      · simp at hk
    · exact okTypes_find hk.2 h

theorem VRel.pair {M : Mem} {K : KMap} {p q : GV} {x y : Value} (h : VRel M K p x) (h' : VRel M K q y) : VRel M K (.tuple [p, q]) (.tuple #[x, y]) := by
  have := LRel.cons h (LRel.cons h' LRel.nil)
  exact .tuple_of (by simpa using this)

theorem sim_assertTo (he : EnvRel O w e a.tmps) (hh : HInv P G O st w) {x : GX} {ts : List (TypeId × Bool)} {isI : Bool} {z : GV} {ok : Bool} (hk : okOp P G o.op (.assertTo x ts isI z ok) = true)
    (hv : pureOp e (.assertTo x ts isI z ok) = some v) : PureSim P O w e a o v := by
  simp only [pureOp] at hv
  unfold okOp at hk; dsimp only at hk
  split at hk
  · rename_i X xT t ok' ho
    simp only [Bool.and_eq_true, beq_iff_eq] at hk
    obtain ⟨⟨⟨hx, rfl⟩, hz⟩, hk⟩ := hk
    have hx := rd_rel he hh hx
    obtain ⟨i, zz, hi, hzz, hc⟩ := zeroVal_inv hz
    have hz0 : VRel O.M O.K z zz := okC_rel z zz hc
    generalize hX : a.eval X = y at hx
    have fin : ∀ {r : Value}, (Instr.typeAssert y xT t ok').run P w = .ok r w → VRel O.M O.K v r → PureSim P O w e a o v := fun {r} h1 h2 => .of_vrel (by simp [Gives, execOp, ho, hX, h1]) h2
    cases hu : P.underlying t with
    | none => rw [hu] at hk; simp at hk
    | some d =>
      rw [hu] at hk
      split at hv
      · rename_i h1
        rw [h1] at hx
        cases hx
        split at hv
        · rename_i hok
          subst hok
          simp only [Option.some.injEq] at hv; subst hv
          refine fin (r := .tuple #[zz, .bool false]) ?_ (.pair hz0 (.bool _))
          cases d <;> simp [Instr.typeAssert, run_underlying hu, run_zeroValue hi hzz]
        · simp at hv
      · rename_i dt dv h1
        rw [h1] at hx
        cases hx with
        | iface hxv =>
          rename_i xv
          have hif : VRel O.M O.K (.iface dt dv) (.iface dt xv) := .iface hxv
          -- what the machine answers
          have yes : ∀ {r : GV} {rv : Value}, VRel O.M O.K r rv → (Instr.typeAssert (.iface dt xv) xT t ok').run P w = .ok (if ok' then .tuple #[rv, .bool true] else rv) w →
              some (if ok' then GV.tuple [r, .bool true] else r) = some v → PureSim P O w e a o v := by
            intro r rv hr hrun hq
            simp only [Option.some.injEq] at hq; subst hq
            refine fin hrun ?_
            cases ok'
            · exact hr
            · exact .pair hr (.bool _)
          have no : (Instr.typeAssert (.iface dt xv) xT t true).run P w = .ok (.tuple #[zz, .bool false]) w → (if ok' then some (GV.tuple [z, .bool false]) else none) = some v → PureSim P O w e a o v := by
            intro hrun hq
            split at hq
            · rename_i hok
              subst hok
              simp only [Option.some.injEq] at hq; subst hq
              exact fin hrun (.pair hz0 (.bool _))
            · simp at hq
          cases hd : d with
          | interface want =>
            rw [hd] at hk hu
            simp only [Bool.and_eq_true] at hk
            obtain ⟨rfl, hk⟩ := hk
            simp only [if_true] at hv
            cases hf : ts.find? (fun q => q.1 == dt) with
            | none => rw [hf] at hv; simp at hv
            | some p =>
              rw [hf] at hv
              obtain ⟨ii, hii, hm⟩ := okTypes_find hk hf
              simp only [Option.map_some] at hv
              cases hb : p.2 with
              | true =>
                rw [hb] at hv hm
                have hmm := (missing_iff want ii.methods).2 hm
                exact yes hif (by simp [Instr.typeAssert, run_underlying hu, run_typeInfo hii, hmm]) hv
              | false =>
                rw [hb] at hv hm
                have hmm : Instr.missingMethod want ii.methods ≠ none := fun q => by rw [(missing_iff want ii.methods).1 q] at hm; simp at hm
                obtain ⟨mm, hmm⟩ := Option.ne_none_iff_exists'.1 hmm
                exact no (by simp [Instr.typeAssert, run_underlying hu, run_typeInfo hii, hmm, run_zeroValue hi hzz]) hv
          | _ =>
            rw [hd] at hk hu
            simp only [Bool.and_eq_true, Bool.not_eq_true', beq_iff_eq] at hk
            obtain ⟨rfl, rfl⟩ := hk
            simp only [Bool.false_eq_true, if_false, List.head?_cons, Option.map_some, Option.some_beq_some] at hv
            by_cases htd : t = dt
            · subst htd
              simp only [beq_self_eq_true] at hv
              exact yes (show VRel O.M O.K (cp dv) xv by rw [hxv.cp_eq]; exact hxv) (by simp [Instr.typeAssert, run_underlying hu]) hv
            · have : (t == dt) = false := by simpa using htd
              rw [this] at hv
              exact no (by simp [Instr.typeAssert, run_underlying hu, Ne.symm htd, run_zeroValue hi hzz]) hv
      · simp at hv
  · simp at hk

/-- Is it a variable laid in a slot? -/
def GOp.boxes : GOp → Bool
  | .box _ | .alloc _ => true
  | _ => false

theorem pure_sim (he : EnvRel O w e a.tmps) (hh : HInv P G O st w) {g : GOp} (hb : g.boxes = false) (hk : okOp P G o.op g = true) (hv : pureOp e g = some v) : PureSim P O w e a o v := by
  cases g <;> first | (simp [pureOp] at hv; done) | (simp [GOp.boxes] at hb; done) | skip
  · exact sim_mv he hh hk hv
  · exact sim_pick he hh hk hv
  · exact sim_build he hh hk hv
  · exact sim_fieldAddr he hh hk hv
  · exact sim_indexArr he hh hk hv
  · exact sim_indexSl he hh hk hv
  · exact sim_nilCheck he hh hk hv
  · exact sim_bin he hh hk hv
  · exact sim_eqv he hh hk hv
  · exact sim_un he hh hk hv
  · exact sim_toInt he hh hk hv
  · exact sim_mkIface he hh hk hv
  · exact sim_mkFunc he hh hk hv
  · exact sim_extract he hh hk hv
  · exact sim_field he hh hk hv
  · exact sim_indexAgg he hh hk hv
  · exact sim_indexStr he hh hk hv
  · exact sim_slice he hh hk hv
  · exact sim_assertTo he hh hk hv
  · exact sim_minmax he hh hk hv
end
end Go.Proofs.YtibhcmacccfakaaGreatDoor
namespace Go.Proofs.YtibhcmacccfakaaGreatDoor
variable [Sym]

section
variable {P : Program} {G : Glob} {O : Own} {w : World} {e : Env} {a : Act} {st : St} {o : Oper} {v : GV}

theorem cell_at {b i : Nat} {rc : Array Value} {ty : TypeId} {fz : Nat × Nat} (h : w.heap[b]? = some (.cells rc ty fz)) : w.cell? ⟨b, i, none⟩ = rc[i]? := by simp [World.cell?, h]

/-- The cells that lie at an address. -/
theorem cellsAt_rel {tmps : Array Value} (he : EnvRel O w e tmps) (hh : HInv P G O st w) {A : GV} {x : Value} (hA : ARel O e tmps A x) {root n : Nat} {heap : Bool} {cs : List GV}
    (h : cellsAt e st.heap root heap n A = some cs) :
    ∃ b o, x = .pointer (some ⟨b, o, none⟩) ∧ cs.length = n ∧ ∀ (i : Nat) (c : GV), cs[i]? = some c → ∃ y, w.cell? ⟨b, o + i, none⟩ = some y ∧ VRel O.M O.K (cp c) y := by
  cases A with
  | lptr s o =>
    simp only [cellsAt] at h
    split at h
    · rename_i hs
      obtain ⟨rfl, rfl⟩ := hs
      split at h
      · rename_i bcs hb
        split at h
        · rename_i hl
          simp only [Option.some.injEq] at h
          subst h
          obtain ⟨b, rfl, h1, h2⟩ := hA
          have hsl := he.slot s
          rw [hb] at hsl
          obtain ⟨b', rc, ty, q1, q2, q3, q4, q5⟩ := hsl
          have e1 := h2 bcs hb
          rw [e1] at q1
          simp only [Value.pointer.injEq, Option.some.injEq, Addr.mk.injEq, and_true] at q1
          subst q1
          refine ⟨b, o, rfl, by simp; omega, fun i c hc => ?_⟩
          simp only [List.getElem?_take, List.getElem?_drop] at hc
          split at hc
          · have hi := (List.getElem?_eq_some_iff.1 hc).1
            have hy : rc[o + i]? = some (rc[o + i]'(by omega)) := by simp
            exact ⟨_, (cell_at q3).trans hy, (q5 _ c _ hc hy).1⟩
          · simp at hc
        · simp at h
      · simp at h
    · simp at h
  | eptr ecs =>
    simp only [cellsAt] at h
    split at h
    · rename_i hl
      simp only [Option.some.injEq] at h
      subst h
      have hA : VRel O.M O.K (.eptr ecs) x := hA
      cases hA with
      | @eptr _ b o f hm hr =>
        refine ⟨b, o, rfl, by simp; omega, fun i c hc => ?_⟩
        simp only [List.getElem?_take] at hc
        split at hc
        · have hi := (List.getElem?_eq_some_iff.1 hc).1
          refine ⟨f i, (hh.mem _ _ _ (hm i hi)).1, ?_⟩
          have := hr i c hc
          rw [this.cp_eq]; exact this
        · simp at hc
    · simp at h
  | ptr g ver o =>
    simp only [cellsAt] at h
    split at h
    · split at h
      · rename_i v' gcs hg
        split at h
        · rename_i hl
          obtain ⟨rfl, hl⟩ := hl
          simp only [Option.some.injEq] at h
          subst h
          have hA : VRel O.M O.K (.ptr g v' o) x := hA
          obtain ⟨k, rc, ty, k1, k2, k3, k4, k5, k6, k7⟩ := hh.obj g _ hg
          cases hA with
          | @ptr _ _ _ b o' k' hk hv ha =>
            rw [k1] at hk
            simp only [Option.some.injEq] at hk
            subst hk
            obtain ⟨rfl, rfl⟩ := ha k2.symm
            refine ⟨k.b, k.o + o, rfl, by simp; omega, fun i c hc => ?_⟩
            simp only [List.getElem?_take, List.getElem?_drop] at hc
            split at hc
            · have hi := (List.getElem?_eq_some_iff.1 hc).1
              have hy : rc[k.o + (o + i)]? = some (rc[k.o + (o + i)]'(by omega)) := by simp
              have := k7 _ c _ hc hy
              exact ⟨_, (cell_at k4).trans (by rw [Nat.add_assoc]; exact hy), by rw [this.cp_eq]; exact this⟩
            · simp at hc
        · simp at h
      · simp at h
    · simp at h
  | _ => simp [cellsAt] at h

/-- A load out of cells that are told. -/
theorem run_loadVar {t : TypeId} {n : Nat} {isAgg : Bool} (hs : sizeIs P t n = true) (ha : aggB P t isAgg = true) {b off : Nat} {cs : List GV} (hl : cs.length = n)
    (hc : ∀ (i : Nat) (c : GV), cs[i]? = some c → ∃ y, w.cell? ⟨b, off + i, none⟩ = some y ∧ VRel O.M O.K (cp c) y) {v : GV} (hv : mkv isAgg cs = some v) :
    ∃ y, (loadVar t ⟨b, off, none⟩).run P w = .ok y w ∧ VRel O.M O.K v y := by
  unfold mkv at hv
  cases isAgg with
  | true =>
    simp only [if_true, Option.some.injEq] at hv
    subst hv
    have hc' : ∀ i, ∃ y, i < n → w.cell? ⟨b, off + i, none⟩ = some y ∧ ∀ c, cs[i]? = some c → VRel O.M O.K (cp c) y := by
      intro i
      by_cases hi : i < n
      · have hi' : i < cs.length := by omega
        obtain ⟨y, h1, h2⟩ := hc i _ (List.getElem?_eq_getElem hi')
        refine ⟨y, fun _ => ⟨h1, fun c hc => ?_⟩⟩
        rw [List.getElem?_eq_getElem hi'] at hc
        simp only [Option.some.injEq] at hc
        subst hc; exact h2
      · exact ⟨undef, fun h => absurd h hi⟩
    obtain ⟨f, hf⟩ := Classical.axiomOfChoice hc'
    have hrun := run_loadCells (P := P) w ⟨b, off, none⟩ n f (fun j hj => by rw [add_none]; exact (hf j hj).1)
    refine ⟨.agg ((List.range n).map f).toArray, by simp [loadVar, run_isAgg ha, run_sizeOf hs, hrun], .agg_of ⟨by simp [hl], fun i c y h1 h2 => ?_⟩⟩
    simp only [List.getElem?_map, Option.map_eq_some_iff] at h1
    obtain ⟨c', h1, rfl⟩ := h1
    have hi : i < n := by have := (List.getElem?_eq_some_iff.1 h1).1; omega
    simp [hi] at h2
    subst h2
    exact (hf i hi).2 c' h1
  | false =>
    simp only [Bool.false_eq_true, if_false] at hv
    split at hv
    · rename_i c
      simp only [Option.some.injEq] at hv
      subst hv
      obtain ⟨y, h1, h2⟩ := hc 0 c rfl
      exact ⟨y, by simp [loadVar, run_isAgg ha, show w.cell? ⟨b, off, none⟩ = some y from h1], h2⟩
    · simp at hv

theorem sim_load (he : EnvRel O w e a.tmps) (hh : HInv P G O st w) {n : Nat} {isAgg : Bool} {x : GX} {root : Nat} {heap : Bool} (hk : okOp P G o.op (.load n isAgg x root heap) = true)
    (hv : readOp e st.heap (.load n isAgg x root heap) = some v) : PureSim P O w e a o v := by
  simp only [readOp, Option.bind_eq_bind, Option.bind_eq_some_iff, Option.some.injEq] at hv
  obtain ⟨cs, hcs, v', hv, rfl⟩ := hv
  unfold okOp at hk; dsimp only at hk
  split at hk
  · rename_i t X ho
    simp only [Bool.and_eq_true] at hk
    obtain ⟨⟨hs, ha⟩, hx⟩ := hk
    have hx := adr_rel he hh hx
    obtain ⟨b, off, hX, hl, hc⟩ := cellsAt_rel he hh hx hcs
    obtain ⟨y, h1, h2⟩ := run_loadVar (P := P) hs ha hl hc hv
    exact .of_vrel (x := y) (by simp [Gives, execOp, ho, hX, Instr.loadAt, Instr.sureAddr, h1]) h2
  · simp at hk

theorem sim_len (he : EnvRel O w e a.tmps) (hh : HInv P G O st w) {x : GX} {k : EqK} {m : Bool} (hk : okOp P G o.op (.len x k m) = true)
    (hv : readOp e st.heap (.len x k m) = some v) : PureSim P O w e a o v := by
  simp only [readOp] at hv
  split at hv
  · rename_i hkind
    simp only [Option.map_eq_some_iff] at hv
    obtain ⟨n, hn, rfl⟩ := hv
    unfold okOp at hk; dsimp only at hk
    split at hk
    · rename_i args ats ho
      split at hk
      · rename_i X t hargs hats
        simp only [Bool.and_eq_true] at hk
        obtain ⟨hx, hk⟩ := hk
        have hx := rd_rel he hh hx
        generalize hX : a.eval X = y at hx
        generalize rd e x = gx at hx hkind hn
        have e1 : args = #[X] := by rw [← Array.toArray_toList (xs := args), hargs]
        have e2 : ats = #[t] := by rw [← Array.toArray_toList (xs := ats), hats]
        subst e1 e2
        have fin : ∀ {d : TypeDesc}, P.underlying t = some d → (Builtin.len_ #[t] o.type #[y]).run P w = .ok (.int .i64 n) w → PureSim P O w e a o (.int .i64 n) := fun {d} hu h1 =>
          .of_vrel (x := .int .i64 n) (by simp [Gives, execOp, ho, resolve, invoke, builtin, hX, h1]) (.int _ _)
        split at hk
        · rename_i el hu
          simp only [beq_iff_eq] at hk; subst hk
          refine fin hu ?_
          cases hx <;> simp only [kindOf, Bool.false_eq_true] at hkind <;> simp only [glen, Option.some.injEq] at hn <;> subst hn <;> simp [Builtin.len_, run_underlying hu, goInt]
        · rename_i hu
          simp only [beq_iff_eq] at hk; subst hk
          refine fin hu ?_
          cases hx <;> simp only [kindOf, Bool.false_eq_true] at hkind
          simp only [glen, Option.some.injEq] at hn; subst hn; simp [Builtin.len_, run_underlying hu, goInt]
        · rename_i k' el hu
          simp only [Bool.and_eq_true, beq_iff_eq] at hk
          obtain ⟨rfl, rfl⟩ := hk
          refine fin hu ?_
          cases hx <;> simp only [kindOf, Bool.false_eq_true] at hkind
          · simp only [glen, Option.some.injEq] at hn; subst hn; simp [Builtin.len_, run_underlying hu, goInt]
          · rename_i g r kk hkk hr
            simp only [glen, if_true] at hn
            split at hn
            · rename_i es hes
              simp only [Option.some.injEq] at hn; subst hn
              obtain ⟨k2, res, clock, k3, k4, k5, k6, k7, _⟩ := hh.obj g _ hes
              rw [k3] at hkk
              simp only [Option.some.injEq] at hkk; subst hkk
              have hr := hr k4
              subst hr
              simp [Builtin.len_, run_underlying hu, goInt, MapKept.run_getObj_map k6, k7]
            · simp at hn
        · simp at hk
      · simp at hk
    · simp at hk
  · simp at hv

/-! ### Maps -/
/-- A key's type. -/
def keyDesc (str : Bool) (d : TypeDesc) : Prop := if str then d = .string else ∃ k, d = .int k

theorem geq_key {str : Bool} {d : TypeDesc} (hd : keyDesc str d) {k j : GV} (hk : isKey str k = true) {M : Mem} {K : KMap} {x y : Value} (rx : VRel M K k x) (ry : VRel M K j y) {b : Bool}
    (h : geq k j = some b) : Instr.sameNow d x y = some b := by
  cases k <;> simp only [isKey, Bool.false_eq_true, Bool.not_eq_true'] at hk
  · subst hk
    simp only [keyDesc, Bool.false_eq_true, if_false] at hd
    obtain ⟨kd, rfl⟩ := hd
    obtain ⟨kk, nx, ny, rfl, rfl, rfl⟩ := geq_int rfl (geq_int_kind h) rx ry h
    simp [Instr.sameNow]
  · subst hk
    simp only [keyDesc, if_true] at hd
    subst hd
    obtain ⟨b1, rfl, rfl⟩ := rx.str_inv
    cases j <;> simp only [geq, reduceCtorEq] at h
    obtain ⟨b2, rfl, rfl⟩ := ry.str_inv
    simp only [Option.some.injEq] at h; subst h
    simp [Instr.sameNow, bytesEq]

def EntsRel (M : Mem) (K : KMap) (es : List (GV × GV)) (L : List MapEntry) : Prop :=
  L.length = es.length ∧ ∀ (i : Nat) (c : GV × GV) (y : MapEntry), es[i]? = some c → L[i]? = some y → VRel M K c.1 y.key ∧ VRel M K c.2 y.val

theorem EntsRel.tail {M : Mem} {K : KMap} {c : GV × GV} {es : List (GV × GV)} {y : MapEntry} {L : List MapEntry} (h : EntsRel M K (c :: es) (y :: L)) : EntsRel M K es L :=
  ⟨by simpa using h.1, fun i c' y' h1 h2 => h.2 (i + 1) c' y' (by simpa using h1) (by simpa using h2)⟩

theorem findKey_rel {str : Bool} {d : TypeDesc} (hd : keyDesc str d) {k : GV} (hk : isKey str k = true) {M : Mem} {K : KMap} {x : Value} (rx : VRel M K k x) :
    ∀ {es : List (GV × GV)} {L : List MapEntry} {r : Option GV} (i : Nat), EntsRel M K es L → findKey k es = some r →
      (r = none ∧ Instr.findNow d x L i = some none) ∨ ∃ g j y, r = some g ∧ Instr.findNow d x L i = some (some (i + j, y.val)) ∧ L[j]? = some y ∧ (∃ c, es[j]? = some c ∧ c.2 = g) ∧ VRel M K g y.val
  | [], [], r, i, _, h => by
    simp only [findKey, Option.some.injEq] at h
    exact .inl ⟨h.symm, rfl⟩
  | [], _ :: _, _, _, hr, _ => by simp [EntsRel] at hr
  | _ :: _, [], _, _, hr, _ => by simp [EntsRel] at hr
  | (j, gy) :: es, y :: L, r, i, hr, h => by
    simp only [findKey] at h
    obtain ⟨r1, r2⟩ := hr.2 0 (j, gy) y rfl rfl
    split at h
    · rename_i hg
      simp only [Option.some.injEq] at h; subst h
      have := geq_key hd hk rx r1 hg
      exact .inr ⟨gy, 0, y, rfl, by simp [Instr.findNow, this], rfl, ⟨_, rfl, rfl⟩, r2⟩
    · rename_i hg
      have := geq_key hd hk rx r1 hg
      rcases findKey_rel hd hk rx (i + 1) hr.tail h with ⟨h1, h2⟩ | ⟨g, j', y', h1, h2, h3, h4, h5⟩
      · exact .inl ⟨h1, by simp [Instr.findNow, this, h2]⟩
      · refine .inr ⟨g, j' + 1, y', h1, ?_, by simpa using h3, by simpa using h4, h5⟩
        simp only [Instr.findNow, this, h2]
        congr 3; omega
    · simp at h

theorem run_checkKey' {str : Bool} {kt : TypeId} {d : TypeDesc} (hu : P.underlying kt = some d) (hd : keyDesc str d) {k : GV} (hk : isKey str k = true) {x : Value} (rx : VRel O.M O.K k x) (em : Bool) :
    (Instr.checkKey em 10000 kt x).run P w = .ok () w := by
  have : ∃ n, (10000 : Nat) = n + 1 := ⟨9999, rfl⟩
  obtain ⟨n, hn⟩ := this
  rw [hn]
  unfold Instr.checkKey
  simp only [Sem.run_bind, run_underlying hu, Result.andThen_ok]
  cases k <;> simp only [isKey, Bool.false_eq_true, Bool.not_eq_true'] at hk
  · subst hk
    simp only [keyDesc, Bool.false_eq_true, if_false] at hd
    obtain ⟨kd, rfl⟩ := hd
    rw [rx.int_inv]; rfl
  · subst hk
    simp only [keyDesc, if_true] at hd
    subst hd
    obtain ⟨b, rfl, _⟩ := rx.str_inv
    rfl

theorem keyDesc_of {str : Bool} {kt : TypeId} (h : (if str = true then isString P kt else (intKind? P kt).isSome) = true) : ∃ d, P.underlying kt = some d ∧ keyDesc str d := by
  cases str with
  | true => simp only [if_true] at h; exact ⟨.string, isString_inv h, rfl⟩
  | false =>
    simp only [Bool.false_eq_true, if_false] at h
    obtain ⟨k, hk⟩ := Option.isSome_iff_exists.1 h
    exact ⟨.int k, intKind_inv hk, k, rfl⟩

theorem sim_lookup (he : EnvRel O w e a.tmps) (hh : HInv P G O st w) {x i : GX} {z : GV} {ok str : Bool} (hk : okOp P G o.op (.lookup x i z ok str) = true)
    (hv : readOp e st.heap (.lookup x i z ok str) = some v) : PureSim P O w e a o v := by
  simp only [readOp] at hv
  split at hv
  · rename_i hkey
    simp only [Option.map_eq_some_iff] at hv
    obtain ⟨r, hr, hv⟩ := hv
    unfold okOp at hk; dsimp only at hk
    split at hk
    · rename_i t X I ok' ho
      simp only [Bool.and_eq_true, beq_iff_eq] at hk
      obtain ⟨⟨⟨rfl, hx⟩, hi⟩, hk⟩ := hk
      have hx := rd_rel he hh hx
      have hi := rd_rel he hh hi
      split at hk
      · rename_i kt el hu
        simp only [Bool.and_eq_true] at hk
        obtain ⟨hkt, hz⟩ := hk
        obtain ⟨d, hud, hd⟩ := keyDesc_of hkt
        obtain ⟨ii, zz, hii, hzz, hc⟩ := zeroVal_inv hz
        have hz0 : VRel O.M O.K z zz := okC_rel z zz hc
        generalize hX : a.eval X = y at hx
        generalize hI : a.eval I = yi at hi
        have hck : ∀ em, (Instr.checkKey em 10000 kt yi).run P w = .ok () w := fun em => run_checkKey' hud hd hkey hi em
        -- the entries
        have ents : ∃ L : Array MapEntry, ∃ es, EntsRel O.M O.K es L.toList ∧ findKey (rd e i) es = some r ∧
            (y = .map none ∧ L = #[] ∨ ∃ b clock, y = .map (some b) ∧ w.heap[b]? = some (.map L clock)) := by
          unfold findIn at hr
          split at hr
          · rename_i h1
            rw [h1] at hx
            simp only [Option.some.injEq] at hr; subst hr
            cases hx
            exact ⟨#[], [], ⟨rfl, fun i c y h => by simp at h⟩, rfl, .inl ⟨rfl, rfl⟩⟩
          · rename_i g h1
            rw [h1] at hx
            split at hr
            · rename_i es hes
              obtain ⟨k2, res, clock, k3, k4, k5, k6, ⟨k7, _⟩, k8⟩ := hh.obj g _ hes
              cases hx with
              | map hkk hrr =>
                rw [k3] at hkk
                simp only [Option.some.injEq] at hkk; subst hkk
                have hrr := hrr k4
                subst hrr
                refine ⟨res, es, ⟨by simpa using k7, fun i c y h1 h2 => k8 i c y h1 (by simpa using h2)⟩, hr, .inr ⟨_, clock, rfl, k6⟩⟩
            · simp at hr
          · simp at hr
        obtain ⟨L, es, hL, hf, hy⟩ := ents
        have hrun : ∀ {q : Value × Bool}, (match r with | some _ => ∃ y, q = (y, true) ∧ VRel O.M O.K (cp (r.getD z)) y | none => q = (zz, false)) →
            (Instr.lookup t y yi ok').run P w = .ok (if ok' then .tuple #[q.1, .bool q.2] else q.1) w → PureSim P O w e a o v := by
          intro q hq hrun
          refine .of_vrel (x := if ok' then .tuple #[q.1, .bool q.2] else q.1) (by simp [Gives, execOp, ho, hX, hI, hrun]) ?_
          rw [← hv]
          cases r with
          | none =>
            simp only at hq
            subst hq
            have : VRel O.M O.K (cp z) zz := by rw [hz0.cp_eq]; exact hz0
            cases ok'
            · exact this
            · exact .pair this (.bool _)
          | some g =>
            simp only at hq
            obtain ⟨y', rfl, h2⟩ := hq
            cases ok'
            · exact h2
            · exact .pair h2 (.bool _)
        have hfk := findKey_rel hd hkey hi 0 hL hf
        rcases hfk with ⟨rfl, h2⟩ | ⟨g, j, y', rfl, h2, h3, _, h5⟩
        · refine hrun (q := (zz, false)) rfl ?_
          have hfr := MapKept.run_findKey (P := P) (w := w) hud h2
          rcases hy with ⟨rfl, rfl⟩ | ⟨b, clock, rfl, hb⟩
          · simp only [Instr.lookup, Sem.run_bind, run_underlying hu, Result.andThen_ok, Sem.run_pure, hck, hfr, run_zeroValue hii hzz]
          · simp only [Instr.lookup, Sem.run_bind, run_underlying hu, Result.andThen_ok, Sem.run_pure, MapKept.run_getObj_map hb, hck, hfr, run_zeroValue hii hzz]
        · refine hrun (q := (y'.val, true)) ⟨_, rfl, by simp only [Option.getD_some]; rw [h5.cp_eq]; exact h5⟩ ?_
          have hfr := MapKept.run_findKey (P := P) (w := w) hud h2
          rcases hy with ⟨rfl, rfl⟩ | ⟨b, clock, rfl, hb⟩
          · simp at h3
          · simp only [Instr.lookup, Sem.run_bind, run_underlying hu, Result.andThen_ok, Sem.run_pure, MapKept.run_getObj_map hb, hck, hfr]
      · simp at hk
    · simp at hk
  · simp at hv

theorem sim_mentry (he : EnvRel O w e a.tmps) (hh : HInv P G O st w) {x : GX} (hk : okOp P G o.op (.mentry x) = true) (hv : readOp e st.heap (.mentry x) = some v) : PureSim P O w e a o v := by
  simp only [readOp] at hv
  unfold okOp at hk; dsimp only at hk
  split at hk
  · rename_i X ho
    have hx := rd_rel he hh hk
    split at hv
    · rename_i g h1
      rw [h1] at hx
      split at hv
      · rename_i m since seen last hg
        split at hv
        · rename_i es i hes hi
          split at hv
          · rename_i k v1 hkv
            split at hv
            · rename_i hlen
              simp only [Option.some.injEq] at hv; subst hv
              obtain ⟨kk, mr, k1, k2, k3, k4, k5, k6⟩ := hh.obj g _ hg
              obtain ⟨km, res, clock, m1, m2, m3, m4, ⟨m5, m5', m5''⟩, m6⟩ := hh.obj m _ hes
              obtain ⟨km', b, n1, rfl, n3⟩ := k6
              rw [m1] at n1
              simp only [Option.some.injEq] at n1; subst n1
              have hb := n3 m2
              subst hb
              generalize hX : a.eval X = y at hx
              cases hx with
              | @ptr _ _ _ b o' k' hk' hv' ha =>
                rw [k1] at hk'
                simp only [Option.some.injEq] at hk'; subst hk'
                obtain ⟨rfl, rfl⟩ := ha k2.symm
                rw [k3] at hX
                have hil := (List.getElem?_eq_some_iff.1 hkv).1
                have hre : res[i]? = some (res[i]'(by omega)) := by simp
                have hborn := m5'' i _ hre
                have hv12 := m6 i _ _ hkv hre
                have hfind : res.find? (fun e => e.born == i) = some (res[i]'(by omega)) := by
                  rw [Array.find?_eq_some_iff_getElem]
                  refine ⟨by simp [hborn], i, by omega, rfl, fun j hj => ?_⟩
                  have := m5'' j (res[j]'(by omega)) (by simp)
                  simp [this]; omega
                refine .of_vrel (x := .tuple #[(res[i]'(by omega)).key, (res[i]'(by omega)).val]) ?_ (.tuple_of ?_)
                · have hback : (seen.toArray).back? = some i := by rw [List.back?_toArray]; exact hi
                  simp [Gives, execOp, ho, hX, Instr.entry, getObj, Sem.run, k5, m4, hback, m5', hlen, hfind]
                · have h1 := hv12.1
                  have h2 := hv12.2
                  simp only at h1 h2
                  rw [h1.cp_eq, h2.cp_eq]
                  exact LRel.cons h1 (LRel.cons h2 LRel.nil)
            · simp at hv
          · simp at hv
        · simp at hv
      · simp at hv
    · simp at hv
  · simp at hk

theorem read_sim (he : EnvRel O w e a.tmps) (hh : HInv P G O st w) {g : GOp} (hk : okOp P G o.op g = true) (hv : readOp e st.heap g = some v) : PureSim P O w e a o v := by
  cases g <;> first | (simp [readOp] at hv; done) | skip
  · exact sim_load he hh hk hv
  · exact sim_lookup he hh hk hv
  · exact sim_mentry he hh hk hv
  · exact sim_len he hh hk hv
end
end Go.Proofs.YtibhcmacccfakaaGreatDoor
namespace Go.Proofs.YtibhcmacccfakaaGreatDoor
variable [Sym]

section
variable {P : Program} {G : Glob} {τ : Tag → Prop} {O O' : Own} {w w' : World} {st st' : St} {e : Env} {tmps : Array Value}

/-- **The ghost heap after a step.** -/
theorem HInv.stp (h : HInv P G O st w) (s : Stp τ O w O' w')
    (hobj : ∀ g o, st'.heap[g]? = some o → (st.heap[g]? = some o ∧ ¬ τ (.heap g) ∧ ∀ g', g' ≤ g → ¬ τ (.defer g')) ∨ ObjRel P G O' w' g o)
    (hperm : ∀ g i, (g, i) ∈ st'.perms → ((g, i) ∈ st.perms ∧ st'.heap[g]? = st.heap[g]? ∧ ¬ τ (.heap g) ∧ ¬ τ (.perm (.hcell g i))) ∨ PermAt O' w' st'.heap g i)
    (hmem : ∀ b, (w.heap.size ≤ b ∨ τ (O.B b)) → ∀ o v, O'.M b o = some v → w'.cell? ⟨b, o, none⟩ = some v ∧ (O'.B b = .other ∨ ∃ l, O'.B b = .perm l))
    (hfresh : ∀ b, w'.heap.size ≤ b → O'.B b = .other ∧ ∀ o, O'.M b o = none)
    (hk : ∀ g, st'.heap.length ≤ g → O'.K g = none) (hp : ∀ g i, (g, i) ∈ st'.perms → g < st'.heap.length) : HInv P G O' st' w' where
  obj g o hg := by
    rcases hobj g o hg with ⟨h1, h2, h3⟩ | h1
    · exact s.objRel (h.obj g o h1) h2 h3
    · exact h1
  perm g i hgi := by
    rcases hperm g i hgi with ⟨h1, h2, h3, h4⟩ | h1
    · have hp := h.perm g i h1
      intro ver cs sz b c xs k y e1 e2 e3 e4
      rw [h2] at e1
      obtain ⟨k', rc, ty, q1, q2, q3, q4, _⟩ := h.obj g _ e1
      have hK := s.ksame g k' q1 (lt_of_heap q4) q3 h3
      rw [hK] at e3
      simp only [Option.some.injEq] at e3
      subst e3
      obtain ⟨s1, _, _⟩ := s.same k'.b (lt_of_heap q4) (by rw [q3]; exact h3)
      have e4' : w.cell? ⟨k'.b, k'.o + i, none⟩ = some y := by
        rw [cell_at (s1.trans q4)] at e4
        rw [cell_at q4]; exact e4
      exact s.perm (hp ver cs sz b c xs k' y e1 e2 q1 e4') h4
    · exact h1
  mem b o v hm := by
    by_cases hb : w.heap.size ≤ b ∨ τ (O.B b)
    · exact hmem b hb o v hm
    · simp only [not_or, Nat.not_le] at hb
      obtain ⟨s1, s2, s3⟩ := s.same b hb.1 hb.2
      rw [s3] at hm
      obtain ⟨h1, h2⟩ := h.mem b o v hm
      refine ⟨?_, by rw [s2]; exact h2⟩
      have : w'.cell? ⟨b, o, none⟩ = w.cell? ⟨b, o, none⟩ := by simp only [World.cell?, s1]
      rw [this]; exact h1
  fresh := hfresh
  glob g vs hg i v hv := s.mem _ _ _ (h.glob g vs hg i v hv)
  kdom := hk
  pdom := hp

theorem Stp.hbox (h : HInv P G O st w) (s : Stp τ O w O' w') (hτ : ∀ r, ¬ τ (.box r)) : ∀ b r, O.B b = .box r → O'.B b = .box r := fun b r hb => by
  rcases Nat.lt_or_ge b w.heap.size with hl | hl
  · rw [(s.same b hl (by rw [hb]; exact hτ r)).2.1]; exact hb
  · rw [(h.fresh b hl).1] at hb; cases hb

/-- **A frame after a step.** -/
theorem EnvRel.next (he : EnvRel O w e tmps) (s : Stp τ O w O' w') (hb : ∀ b r, O.B b = .box r → O'.B b = .box r) {e' : Env} {tmps' : Array Value}
    (hs : ∀ t, (get e' t = get e t ∧ tmps'.getD t undef = tmps.getD t undef ∧ ¬ τ (.box t) ∧ ¬ τ (.perm (.slot t)) ∧ ∀ i, ¬ τ (.perm (.cell t i))) ∨ SlotRel O' w' t (get e' t) (tmps'.getD t undef))
    (hl : ∀ t r o cs, get e' t = .lptr r o → get e' r = .box cs →
      (get e t = .lptr r o ∧ (∃ cs', get e r = .box cs') ∧ tmps'.getD t undef = tmps.getD t undef ∧ tmps'.getD r undef = tmps.getD r undef) ∨
      ∃ b, tmps'.getD t undef = .pointer (some ⟨b, o, none⟩) ∧ tmps'.getD r undef = .pointer (some ⟨b, 0, none⟩)) : EnvRel O' w' e' tmps' where
  slot t := by
    rcases hs t with ⟨h1, h2, h3, h4, h5⟩ | h1
    · rw [h1, h2]; exact s.slotRel hb (he.slot t) h3 h4 h5
    · exact h1
  lptr t r o cs h1 h2 := by
    rcases hl t r o cs h1 h2 with ⟨h3, ⟨cs', h4⟩, h5, h6⟩ | h3
    · rw [h5, h6]; exact he.lptr t r o cs' h3 h4
    · exact h3

theorem EnvRel.step0 (he : EnvRel O w e tmps) (h : HInv P G O st w) (s : Stp τ O w O' w') (h1 : ∀ t, ¬ τ (.box t)) (h2 : ∀ t, ¬ τ (.perm (.slot t))) (h3 : ∀ t i, ¬ τ (.perm (.cell t i))) : EnvRel O' w' e tmps :=
  s.envRel (s.hbox h h1) he h1 h2 h3

/-- What a statement writes into its own slot. -/
def dstU (dst : Option Nat) (v : GV) (e : Env) : Env := match dst with
  | some d => (d, v) :: e
  | none => e

theorem getD_put {a : Act} {d t : Nat} {x : Value} (hd : d < a.tmps.size) : (a.put (some d) x).tmps.getD t undef = if t = d then x else a.tmps.getD t undef := by
  simp only [Act.put, Array.getD_eq_getD_getElem?, Array.getElem?_setIfInBounds]
  by_cases h : t = d
  · subst h; simp [hd]
  · rw [if_neg (Ne.symm h), if_neg h]

theorem EnvRel.putV {a : Act} (he : EnvRel O w e a.tmps) {dst : Option Nat} {v : GV} {x : Value} (hd : ∀ d, dst = some d → d < a.tmps.size) (hv : ∀ d, dst = some d → SlotRel O w d v x)
    (hlp : ∀ r o, v = .lptr r o → ∀ cs, get e r = .box cs → ∃ b, x = .pointer (some ⟨b, o, none⟩) ∧ a.tmps.getD r undef = .pointer (some ⟨b, 0, none⟩))
    (hbx : ∀ cs, v = .box cs → ∀ d, dst = some d → ∀ t r, get e t ≠ .lptr d r) : EnvRel O w (dstU dst v e) (a.put dst x).tmps := by
  cases dst with
  | none => exact he
  | some d =>
    have hd := hd d rfl
    have hv := hv d rfl
    refine he.next (Stp.refl (fun _ => False) O w) (fun b r h => h) (fun t => ?_) fun t r o cs h1 h2 => ?_
    · rw [getD_put hd]
      simp only [dstU, get]
      by_cases ht : d = t
      · subst ht; rw [if_pos rfl, if_pos rfl]; exact .inr hv
      · rw [if_neg ht, if_neg (Ne.symm ht)]; exact .inl ⟨rfl, rfl, id, id, fun _ => id⟩
    · rw [getD_put hd, getD_put hd]
      simp only [dstU, get] at h1 h2
      by_cases hr : d = r
      · subst hr
        rw [if_pos rfl] at h2
        by_cases ht : d = t
        · subst ht; rw [if_pos rfl] at h1; rw [h1] at h2; cases h2
        · rw [if_neg ht] at h1
          exact absurd h1 (hbx cs h2 d rfl t o)
      · rw [if_neg hr] at h2
        rw [if_neg (Ne.symm hr)]
        by_cases ht : d = t
        · subst ht
          rw [if_pos rfl] at h1
          rw [if_pos rfl]
          exact .inr (hlp r o h1 cs h2)
        · rw [if_neg ht] at h1
          rw [if_neg (Ne.symm ht)]
          exact .inl ⟨h1, ⟨cs, h2⟩, rfl, rfl⟩

theorem VRel.slot {d : Nat} {v : GV} {x : Value} (h : VRel O.M O.K v x) : SlotRel O w d v x := by
  have hc := h.cp_eq
  have key : CRel O w (.slot d) v x := ⟨by rw [hc]; exact h, fun sz b xs q => by
    subst q
    cases h with
    | slnil _ _ h1 => exact absurd rfl h1
    | sl h1 => exact absurd rfl h1⟩
  cases h <;> exact key

theorem ARel.slot {d : Nat} {v : GV} {x : Value} (h : ARel O e tmps v x) : SlotRel O w d v x := by
  cases v with
  | lptr r o => obtain ⟨b, h1, h2, _⟩ := h; exact ⟨b, h1, h2⟩
  | _ => exact VRel.slot h

/-- A value of no permission, or of an address, is put into its slot. -/
theorem EnvRel.putA {a : Act} (he : EnvRel O w e a.tmps) {dst : Option Nat} {v : GV} {x : Value} (hd : ∀ d, dst = some d → d < a.tmps.size) (h : ARel O e a.tmps v x) :
    EnvRel O w (dstU dst v e) (a.put dst x).tmps :=
  he.putV hd (fun d _ => h.slot) (fun r o hq cs hc => by subst hq; obtain ⟨b, h1, _, h3⟩ := h; exact ⟨b, h1, h3 cs hc⟩) fun cs hq => by
    subst hq
    have h : VRel O.M O.K (.box cs) x := h
    cases h

/-! ### A block laid -/
def Own.newB (O : Own) (n : Nat) (t : Tag) (m : Nat → Option Value) : Own := ⟨fun b => if b = n then m else O.M b, O.K, fun b => if b = n then t else O.B b⟩
def Own.bindK (O : Own) (g : Nat) (k : KI) : Own := ⟨O.M, fun h => if h = g then some k else O.K h, O.B⟩

/-- The world has one block more. -/
structure Pushed (w w' : World) (ob : Obj) : Prop where
  heap : w'.heap = w.heap.push ob
  os : w'.os = w.os
  tape : w'.tape = w.tape
  output : w'.output = w.output

theorem Pushed.of (w : World) (ob : Obj) : Pushed w { w with heap := w.heap.push ob } ob := ⟨rfl, rfl, rfl, rfl⟩
theorem Pushed.get {ob : Obj} (h : Pushed w w' ob) : w'.heap[w.heap.size]? = some ob ∧ ∀ b, b < w.heap.size → w'.heap[b]? = w.heap[b]? := by
  rw [h.heap]
  exact ⟨by simp, fun b hb => by rw [Array.getElem?_push, if_neg (by omega)]⟩
theorem Pushed.size {ob : Obj} (h : Pushed w w' ob) : w'.heap.size = w.heap.size + 1 := by rw [h.heap]; simp

theorem Stp.alloc (h : HInv P G O st w) {ob : Obj} (hp : Pushed w w' ob) (t : Tag) (m : Nat → Option Value) : Stp (fun _ => False) O w (O.newB w.heap.size t m) w' where
  mem b o v hm := by
    simp only [Own.newB]
    split
    · rename_i hb; subst hb
      rw [(h.fresh _ (Nat.le_refl _)).2] at hm; cases hm
    · exact hm
  kmap := .refl _
  size := by rw [hp.size]; omega
  os := hp.os
  tape := hp.tape
  output := hp.output
  same b hb _ := by
    refine ⟨hp.get.2 b hb, ?_, fun o => ?_⟩ <;> simp only [Own.newB] <;> rw [if_neg (by omega)]
  ksame g k hk _ _ _ := hk

theorem Stp.bindK (s : Stp τ O w O' w') {g : Nat} {k : KI} (hg : O'.K g = none) : Stp τ O w (O'.bindK g k) w' where
  mem := s.mem
  kmap := s.kmap.trans fun g' k' hk => by
    refine ⟨k', ?_, Nat.le_refl _, fun _ => rfl⟩
    simp only [Own.bindK]
    split
    · rename_i hq; subst hq; rw [hg] at hk; cases hk
    · exact hk
  size := s.size
  os := s.os
  tape := s.tape
  output := s.output
  same := s.same
  ksame g' k' hk h1 h2 h3 := by
    have := s.ksame g' k' hk h1 h2 h3
    simp only [Own.bindK]
    split
    · rename_i hq; subst hq; rw [hg] at this; cases this
    · exact this

/-- A block laid that is no ghost block. -/
theorem HInv.alloc (h : HInv P G O st w) {ob : Obj} (hp : Pushed w w' ob) (t : Tag) (m : Nat → Option Value)
    (hm : ∀ o v, m o = some v → (∃ rc ty fz, ob = .cells rc ty fz ∧ rc[o]? = some v) ∧ (t = .other ∨ ∃ l, t = .perm l)) : HInv P G (O.newB w.heap.size t m) st w' := by
  refine h.stp (Stp.alloc h hp t m) (fun g o hg => .inl ⟨hg, id, fun _ _ => id⟩) (fun g i hg => .inl ⟨hg, rfl, id, id⟩) (fun b hb o v hbm => ?_) (fun b hb => ?_) h.kdom h.pdom
  · have hb : w.heap.size ≤ b := hb.resolve_right id
    by_cases hbn : b = w.heap.size
    · subst hbn
      simp only [Own.newB, if_true] at hbm ⊢
      obtain ⟨⟨rc, ty, fz, rfl, h1⟩, h2⟩ := hm o v hbm
      exact ⟨(cell_at hp.get.1).trans h1, h2⟩
    · simp only [Own.newB, if_neg hbn] at hbm
      rw [(h.fresh b hb).2] at hbm; cases hbm
  · rw [hp.size] at hb
    simp only [Own.newB]
    rw [if_neg (by omega), if_neg (by omega)]
    exact h.fresh b (by omega)

theorem get_snoc {o : GObj} {l : List GObj} {g : Nat} {x : GObj} (h : (l ++ [o])[g]? = some x) : l[g]? = some x ∨ (g = l.length ∧ x = o) := by
  rw [List.getElem?_append] at h
  split at h
  · exact .inl h
  · right
    rw [List.getElem?_singleton] at h
    split at h
    · simp only [Option.some.injEq] at h; exact ⟨by omega, h.symm⟩
    · simp at h

theorem get_snoc' {α : Type} {o : α} {l : List α} {g : Nat} {x : α} (h : (l ++ [o])[g]? = some x) : l[g]? = some x ∨ (g = l.length ∧ x = o) := by
  rw [List.getElem?_append] at h
  split at h
  · exact .inl h
  · right
    rw [List.getElem?_singleton] at h
    split at h
    · simp only [Option.some.injEq] at h; exact ⟨by omega, h.symm⟩
    · simp at h

/-- A ghost block laid. -/
theorem HInv.allocObj (h : HInv P G O st w) {ob : Obj} (hp : Pushed w w' ob) (go : GObj) (k : KI)
    (ho : ObjRel P G ((O.newB w.heap.size (.heap st.heap.length) fun _ => none).bindK st.heap.length k) w' st.heap.length go) :
    HInv P G ((O.newB w.heap.size (.heap st.heap.length) fun _ => none).bindK st.heap.length k) (st.new go) w' := by
  have hs := (Stp.alloc h hp (.heap st.heap.length) fun _ => none).bindK (k := k) (h.kdom _ (Nat.le_refl _))
  refine h.stp hs (fun g o hg => ?_) (fun g i hg => .inl ⟨hg, ?_, id, id⟩) (fun b hb o v hbm => ?_) (fun b hb => ?_) (fun g hg => ?_) fun g i hg => ?_
  · rcases get_snoc hg with h1 | ⟨rfl, rfl⟩
    · exact .inl ⟨h1, id, fun _ _ => id⟩
    · exact .inr ho
  · have := h.pdom g i hg
    simp only [St.new]
    rw [List.getElem?_append_left this]
  · have hb : w.heap.size ≤ b := hb.resolve_right id
    simp only [Own.bindK, Own.newB] at hbm
    split at hbm
    · simp at hbm
    · rw [(h.fresh b hb).2] at hbm; cases hbm
  · rw [hp.size] at hb
    simp only [Own.bindK, Own.newB]
    rw [if_neg (by omega), if_neg (by omega)]
    exact h.fresh b (by omega)
  · simp only [St.new, List.length_append, List.length_singleton] at hg
    simp only [Own.bindK]
    rw [if_neg (by omega)]
    exact h.kdom g (by omega)
  · simp only [St.new, List.length_append, List.length_singleton]
    have := h.pdom g i hg
    omega
end
end Go.Proofs.YtibhcmacccfakaaGreatDoor
namespace Go.Proofs.YtibhcmacccfakaaGreatDoor
variable [Sym]

section
variable {P : Program} {G : Glob} {τ : Tag → Prop} {O O' : Own} {w w' : World} {st st' : St} {e : Env} {a : Act} {o : Oper} {v : GV} {u : Env}

/-- What an operation may touch. -/
def opT (ro : Nat) (t : Tag) : Prop := (∃ g, ro ≤ g ∧ t = .heap g) ∨ (∃ s, t = .box s) ∨ ∃ l, t = .perm l

/-- What an operation comes to: its value, the frame and the ghost heap behind it. -/
def EffSim (P : Program) (G : Glob) (O : Own) (w : World) (e : Env) (a : Act) (o : Oper) (v : GV) (u : Env) (st' : St) : Prop :=
  ∃ x w' O', (Gives P w a o x w' ∨ (x = undef ∧ (execOp a.eval o).run P w = .ok .skip w')) ∧
    EnvRel O' w' (dstU o.dst v (u ++ e)) (a.put o.dst x).tmps ∧ HInv P G O' st' w' ∧ Stp (opT st'.ro) O w O' w'

theorem EffSim.of_pure (he : EnvRel O w e a.tmps) (hh : HInv P G O st w) (hd : ∀ d, o.dst = some d → d < a.tmps.size) (h : PureSim P O w e a o v) : EffSim P G O w e a o v [] st := by
  obtain ⟨x, h1, h2⟩ := h
  exact ⟨x, w, O, .inl h1, he.putA hd h2, hh, .refl _ _ _⟩

/-! ### Variables laid -/
theorem ndef_rd {x : GX} {M : Mem} {K : KMap} {y : Value} (h : VRel M K (rd e x) y) (hn : ndef (rd e x) = true) : LRel M K ((cellsOf (rd e x)).map cp) y.cells := by
  have := h.cells hn
  rw [this.map_cp]; exact this

theorem sim_box (he : EnvRel O w e a.tmps) (hh : HInv P G O st w) (hd : ∀ d, o.dst = some d → d < a.tmps.size) (hlp : ∀ d, o.dst = some d → ∀ t r, get e t ≠ .lptr d r) {cs : List GV} {ty : TypeId} {A : Array Value}
    (hr : LRel O.M O.K cs A) (hrun : (execOp a.eval o).run P w = .ok (.value (.pointer (some ⟨w.heap.size, 0, none⟩))) { w with heap := w.heap.push (.cells A ty) }) : EffSim P G O w e a o (.box cs) [] st := by
  let t : Tag := match o.dst with | some d => .box d | none => .other
  have hp := Pushed.of w (.cells A ty)
  have hs := Stp.alloc hh hp t fun _ => none
  have he' := he.step0 hh hs (fun _ => id) (fun _ => id) (fun _ _ => id)
  refine ⟨_, _, O.newB w.heap.size t fun _ => none, .inl hrun, ?_, hh.alloc hp t _ (fun o v h => by simp at h), hs.weak fun _ h => h.elim⟩
  refine he'.putV hd (fun d hdd => ?_) (fun r o h => by cases h) fun cs' _ d hdd => hlp d hdd
  refine ⟨w.heap.size, A, ty, rfl, by simp only [Own.newB, if_true, t, hdd], hp.get.1, hr.1, fun i c y h1 h2 => ?_⟩
  have hv := hs.vrel (hr.2 i c y h1 h2)
  refine ⟨by rw [hv.cp_eq]; exact hv, fun sz b xs hq => ?_⟩
  subst hq
  have := hv.cp_eq
  simp [cp] at this

theorem run_newVarBox {ty : TypeId} {X : Operand} (ho : o.op = .box ty X) : (execOp a.eval o).run P w = .ok (.value (.pointer (some ⟨w.heap.size, 0, none⟩))) { w with heap := w.heap.push (.cells (a.eval X).cells ty) } := by
  simp [execOp, ho, Instr.box, newVar, newRow]
theorem run_newVarAlloc {ty : TypeId} {i : TypeInfo} {z : Value} (hi : P.info? ty = some i) (hz : i.zero = some z) (ho : o.op = .alloc ty) :
    (execOp a.eval o).run P w = .ok (.value (.pointer (some ⟨w.heap.size, 0, none⟩))) { w with heap := w.heap.push (.cells z.cells ty) } := by
  simp [execOp, ho, Instr.alloc, run_zeroValue hi hz, newVar, newRow]

theorem sim_boxes (he : EnvRel O w e a.tmps) (hh : HInv P G O st w) (hd : ∀ d, o.dst = some d → d < a.tmps.size) {g : GOp} (hb : g.boxes = true) (hlp : ∀ d, o.dst = some d → ∀ t r, get e t ≠ .lptr d r)
    (hk : okOp P G o.op g = true) (hv : pureOp e g = some v) : EffSim P G O w e a o v [] st := by
  cases g <;> simp only [GOp.boxes, Bool.false_eq_true] at hb <;> simp only [pureOp] at hv
  · split at hv
    · rename_i x hn
      simp only [Option.some.injEq] at hv; subst hv
      unfold okOp at hk; dsimp only at hk
      split at hk
      · rename_i ty X ho
        have hx := rd_rel he hh hk
        exact sim_box he hh hd hlp (ndef_rd hx hn) (run_newVarBox ho)
      · simp at hk
    · simp at hv
  · simp only [Option.some.injEq] at hv; subst hv
    unfold okOp at hk; dsimp only at hk
    split at hk
    · rename_i ty ho
      obtain ⟨i, z, hi, hz, hc⟩ := zeroIs_inv hk
      exact sim_box he hh hd hlp (okCL_lrel hc) (run_newVarAlloc hi hz ho)
    · simp at hk

/-- A ghost block of cells laid. -/
theorem sim_hcells (he : EnvRel O w e a.tmps) (hh : HInv P G O st w) (hd : ∀ d, o.dst = some d → d < a.tmps.size) {cs : List GV} {ty : TypeId} {A : Array Value} {x : Value} {v : GV} {w' : World}
    (hr : LRel O.M O.K cs A) (hrun : Gives P w a o x w') (hp : Pushed w w' (.cells A ty))
    (hv : ∀ {M : Mem} {K : KMap}, K st.heap.length = some ⟨w.heap.size, 0, 0, A.size⟩ → VRel M K v x) : EffSim P G O w e a o v [] (st.new (.cells 0 cs)) := by
  have hs := (Stp.alloc hh hp (.heap st.heap.length) fun _ => none).bindK (k := ⟨w.heap.size, 0, 0, A.size⟩) (hh.kdom _ (Nat.le_refl _))
  have he' := he.step0 hh hs (fun _ => id) (fun _ => id) (fun _ _ => id)
  refine ⟨x, w', _, .inl hrun, ?_, hh.allocObj hp (.cells 0 cs) ⟨w.heap.size, 0, 0, A.size⟩ ?_, hs.weak fun _ h => h.elim⟩
  · refine he'.putA hd (.of_vrel (hv ?_))
    simp [Own.bindK]
  · refine ⟨⟨w.heap.size, 0, 0, A.size⟩, A, ty, by simp [Own.bindK], rfl, by simp [Own.bindK, Own.newB], hp.get.1, rfl, by simp [hr.1], fun i c y h1 h2 => hs.vrel (hr.2 i c y h1 (by simpa using h2))⟩

theorem sim_hbox (he : EnvRel O w e a.tmps) (hh : HInv P G O st w) (hd : ∀ d, o.dst = some d → d < a.tmps.size) {C : Call} {V : CallV} {x : GX} (hk : okOp P G o.op (.hbox x) = true)
    (hv : effOp C V e st (.hbox x) = some (v, u, st')) : EffSim P G O w e a o v u st' := by
  simp only [effOp] at hv
  split at hv
  · rename_i hn
    simp only [Option.some.injEq, Prod.mk.injEq] at hv; obtain ⟨rfl, rfl, rfl⟩ := hv
    unfold okOp at hk; dsimp only at hk
    split at hk
    · rename_i ty X ho
      have hx := rd_rel he hh hk
      exact sim_hcells he hh hd (ndef_rd hx hn) (run_newVarBox ho) (Pushed.of _ _) fun hK => .ptr hK (Nat.le_refl _) fun _ => ⟨rfl, rfl⟩
    · simp at hk
  · simp at hv

theorem sim_halloc (he : EnvRel O w e a.tmps) (hh : HInv P G O st w) (hd : ∀ d, o.dst = some d → d < a.tmps.size) {C : Call} {V : CallV} {z : List GV} (hk : okOp P G o.op (.halloc z) = true)
    (hv : effOp C V e st (.halloc z) = some (v, u, st')) : EffSim P G O w e a o v u st' := by
  simp only [effOp, Option.some.injEq, Prod.mk.injEq] at hv; obtain ⟨rfl, rfl, rfl⟩ := hv
  unfold okOp at hk; dsimp only at hk
  split at hk
  · rename_i ty ho
    obtain ⟨i, z, hi, hz, hc⟩ := zeroIs_inv hk
    exact sim_hcells he hh hd (okCL_lrel hc) (run_newVarAlloc hi hz ho) (Pushed.of _ _) fun hK => .ptr hK (Nat.le_refl _) fun _ => ⟨rfl, rfl⟩
  · simp at hk

/-! ### Maps and iterators laid -/
theorem sim_hobj (he : EnvRel O w e a.tmps) (hh : HInv P G O st w) (hd : ∀ d, o.dst = some d → d < a.tmps.size) {x : Value} {v : GV} {ob : Obj} {go : GObj} (hrun : Gives P w a o x { w with heap := w.heap.push ob })
    (hgo : ∀ {O' : Own} {w' : World}, O'.K st.heap.length = some ⟨w.heap.size, 0, 0, 0⟩ → O'.B w.heap.size = .heap st.heap.length → w'.heap[w.heap.size]? = some ob → ObjRel P G O' w' st.heap.length go)
    (hv : ∀ {M : Mem} {K : KMap}, K st.heap.length = some ⟨w.heap.size, 0, 0, 0⟩ → VRel M K v x) : EffSim P G O w e a o v [] (st.new go) := by
  have hp := Pushed.of w ob
  have hs := (Stp.alloc hh hp (.heap st.heap.length) fun _ => none).bindK (k := ⟨w.heap.size, 0, 0, 0⟩) (hh.kdom _ (Nat.le_refl _))
  have he' := he.step0 hh hs (fun _ => id) (fun _ => id) (fun _ _ => id)
  refine ⟨x, _, _, .inl hrun, he'.putA hd (.of_vrel (hv (by simp [Own.bindK]))), hh.allocObj hp go ⟨w.heap.size, 0, 0, 0⟩ (hgo (by simp [Own.bindK]) (by simp [Own.bindK, Own.newB]) hp.get.1), hs.weak fun _ h => h.elim⟩

theorem sim_mkMap (he : EnvRel O w e a.tmps) (hh : HInv P G O st w) (hd : ∀ d, o.dst = some d → d < a.tmps.size) {C : Call} {V : CallV} (hk : okOp P G o.op .mkMap = true)
    (hv : effOp C V e st .mkMap = some (v, u, st')) : EffSim P G O w e a o v u st' := by
  simp only [effOp, Option.some.injEq, Prod.mk.injEq] at hv; obtain ⟨rfl, rfl, rfl⟩ := hv
  unfold okOp at hk; dsimp only at hk
  split at hk
  · rename_i ty ho
    exact sim_hobj he hh hd (x := .map (some w.heap.size)) (ob := .map #[] 0) (by simp [Gives, execOp, ho, Instr.makeMap])
      (fun h1 h2 h3 => ⟨_, #[], 0, h1, rfl, h2, h3, ⟨rfl, rfl, fun i y h => by simp at h⟩, fun i c y h => by simp at h⟩) fun hK => .map hK fun _ => rfl
  · simp at hk

theorem sim_mrange (he : EnvRel O w e a.tmps) (hh : HInv P G O st w) (hd : ∀ d, o.dst = some d → d < a.tmps.size) {C : Call} {V : CallV} {x : GX} (hk : okOp P G o.op (.mrange x) = true)
    (hv : effOp C V e st (.mrange x) = some (v, u, st')) : EffSim P G O w e a o v u st' := by
  simp only [effOp] at hv
  unfold okOp at hk; dsimp only at hk
  split at hk
  · rename_i ty X ho
    simp only [Bool.and_eq_true] at hk
    obtain ⟨hx, hu⟩ := hk
    have hx := rd_rel he hh hx
    split at hu
    · rename_i kt et hul
      generalize hX : a.eval X = y at hx
      split at hv
      · rename_i h1
        rw [h1] at hx
        simp only [Option.some.injEq, Prod.mk.injEq] at hv; obtain ⟨rfl, rfl, rfl⟩ := hv
        cases hx
        exact sim_hobj he hh hd (x := .pointer (some ⟨w.heap.size, 0, none⟩)) (ob := .mapIter none 0 #[] 0) (by simp [Gives, execOp, ho, Instr.range, hX, run_underlying hul])
          (fun h1 h2 h3 => ⟨_, none, h1, rfl, rfl, h2, by rw [h3], rfl⟩) fun hK => .ptr hK (Nat.le_refl _) fun _ => ⟨rfl, rfl⟩
      · rename_i g h1
        split at hv
        · rename_i es hg
          rw [h1] at hx
          simp only [Option.some.injEq, Prod.mk.injEq] at hv; obtain ⟨rfl, rfl, rfl⟩ := hv
          obtain ⟨kk, res, clock, k1, k2, k3, k4, ⟨k5, k5', k5''⟩, k6⟩ := hh.obj g _ hg
          cases hx with
          | map hk' hr' =>
            rw [k1] at hk'
            simp only [Option.some.injEq] at hk'; subst hk'
            have hr' := hr' k2
            subst hr'
            have hgl := (List.getElem?_eq_some_iff.1 hg).1
            have hp := Pushed.of w (.mapIter (some kk.b) clock #[] clock)
            have hs := (Stp.alloc hh hp (.heap st.heap.length) fun _ => none).bindK (k := ⟨w.heap.size, 0, 0, 0⟩) (hh.kdom _ (Nat.le_refl _))
            have he' := he.step0 hh hs (fun _ => id) (fun _ => id) (fun _ _ => id)
            refine ⟨.pointer (some ⟨w.heap.size, 0, none⟩), _, _, .inl (by simp [Gives, execOp, ho, Instr.range, hX, run_underlying hul, getObj, Sem.run, k4]), he'.putA hd (.of_vrel (.ptr (k := ⟨w.heap.size, 0, 0, 0⟩) (by simp [Own.bindK]) (Nat.le_refl _) fun _ => ⟨rfl, rfl⟩)), hh.allocObj hp (.miter (some g) es.length [] es.length) ⟨w.heap.size, 0, 0, 0⟩ ?_, hs.weak fun _ h => h.elim⟩
            exact ⟨⟨w.heap.size, 0, 0, 0⟩, some kk.b, by simp [Own.bindK], rfl, rfl, by simp [Own.bindK, Own.newB], by rw [hp.get.1, k5'], ⟨kk, kk.b, by simp only [Own.bindK]; rw [if_neg (by omega)]; exact k1, rfl, fun _ => rfl⟩⟩
        · simp at hv
      · simp at hv
    · simp at hu
  · simp at hk

theorem sim_range (he : EnvRel O w e a.tmps) (hh : HInv P G O st w) (hd : ∀ d, o.dst = some d → d < a.tmps.size) {C : Call} {V : CallV} {x : GX} (hk : okOp P G o.op (.range x) = true)
    (hv : effOp C V e st (.range x) = some (v, u, st')) : EffSim P G O w e a o v u st' := by
  simp only [effOp] at hv
  split at hv
  · rename_i s h1
    simp only [Option.some.injEq, Prod.mk.injEq] at hv; obtain ⟨rfl, rfl, rfl⟩ := hv
    unfold okOp at hk; dsimp only at hk
    split at hk
    · rename_i ty X ho
      simp only [Bool.and_eq_true] at hk
      have hx := rd_rel he hh hk.1
      have hu := isString_inv hk.2
      rw [h1] at hx
      obtain ⟨b, hb, rfl⟩ := hx.str_inv
      exact sim_hobj he hh hd (x := .pointer (some ⟨w.heap.size, 0, none⟩)) (ob := .stringIter b 0) (by simp [Gives, execOp, ho, Instr.range, hb, run_underlying hu])
        (fun h1 h2 h3 => ⟨_, h1, rfl, rfl, h2, by rw [h3]⟩) fun hK => .ptr hK (Nat.le_refl _) fun _ => ⟨rfl, rfl⟩
    · simp at hk
  · simp at hv

/-! ### Ghost blocks written -/
/-- The world's block bk is another one now. -/
structure Wrote (w w' : World) (bk : Nat) : Prop where
  other : ∀ b, b ≠ bk → w'.heap[b]? = w.heap[b]?
  size : w'.heap.size = w.heap.size
  os : w'.os = w.os
  tape : w'.tape = w.tape
  output : w'.output = w.output

theorem Wrote.stp {bk : Nat} {t : Tag} (h : Wrote w w' bk) (ht : O.B bk = t) : Stp (· = t) O w O w' where
  mem := .refl _
  kmap := .refl _
  size := by rw [h.size]; exact Nat.le_refl _
  os := h.os
  tape := h.tape
  output := h.output
  same b _ hb := ⟨h.other b fun q => hb (by rw [q]; exact ht), rfl, fun _ => rfl⟩
  ksame g k hk _ _ _ := hk

theorem HInv.write (h : HInv P G O st w) {g bk : Nat} (hB : O.B bk = .heap g) (hw : Wrote w w' bk) {new : GObj} (ho : ObjRel P G O w' g new) {pp : List (Nat × Nat)} (hg : g < st.heap.length)
    (hpp : ∀ g' i, (g', i) ∈ pp → (g', i) ∈ st.perms) (hperm : ∀ i, (g, i) ∈ pp → PermAt O w' (st.heap.set g new) g i) :
    HInv P G O { st with heap := st.heap.set g new, perms := pp } w' := by
  refine h.stp (hw.stp hB) (fun g' o' hg' => ?_) (fun g' i hgi => ?_) (fun b hb o v hm => ?_) (fun b hb => ?_) (fun g' hg' => ?_) fun g' i hgi => ?_
  · by_cases hgg : g' = g
    · subst hgg
      right
      have : o' = new := by simpa [List.getElem?_set, hg] using hg'.symm
      rw [this]; exact ho
    · left
      refine ⟨by simpa [List.getElem?_set, Ne.symm hgg] using hg', by simpa using hgg, fun _ _ => by simp⟩
  · by_cases hgg : g' = g
    · subst hgg; exact .inr (hperm i hgi)
    · left
      exact ⟨hpp g' i hgi, by simp [Ne.symm hgg], by simpa using hgg, by simp⟩
  · exfalso
    obtain ⟨h1, h2⟩ := h.mem b o v hm
    rcases hb with hb | hb
    · rw [(h.fresh b hb).2] at hm; cases hm
    · rw [hb] at h2; rcases h2 with h2 | ⟨l, h2⟩ <;> cases h2
  · rw [hw.size] at hb; exact h.fresh b hb
  · simp only [List.length_set] at hg'; exact h.kdom g' hg'
  · simp only [List.length_set]; exact h.pdom g' i (hpp g' i hgi)

theorem St.put_some {g : Nat} {o : GObj} {s : St} (h : st.put g o = some s) : st.ro ≤ g ∧ s = { st with heap := st.heap.set g o } := by
  unfold St.put at h
  split at h
  · rename_i hr; simp only [Option.some.injEq] at h; exact ⟨hr, h.symm⟩
  · simp at h

theorem setObj_wrote {bk : Nat} {ob : Obj} : Wrote w { w with heap := w.heap.setIfInBounds bk ob } bk :=
  ⟨fun b hb => by simp [Ne.symm hb], by simp, rfl, rfl, rfl⟩

theorem sim_next (he : EnvRel O w e a.tmps) (hh : HInv P G O st w) (hd : ∀ d, o.dst = some d → d < a.tmps.size) {C : Call} {V : CallV} {x : GX} (hk : okOp P G o.op (.next x) = true)
    (hv : effOp C V e st (.next x) = some (v, u, st')) : EffSim P G O w e a o v u st' := by
  simp only [effOp] at hv
  split at hv
  · rename_i g h1
    split at hv
    · rename_i s pos hg
      unfold okOp at hk; dsimp only at hk
      split at hk
      · rename_i X ho
        have hx := rd_rel he hh hk
        rw [h1] at hx
        obtain ⟨k, k1, k2, k3, k4, k5⟩ := hh.obj g _ hg
        generalize hX : a.eval X = y at hx
        cases hx with
        | @ptr _ _ _ b o' k' hk' hv' ha =>
          rw [k1] at hk'
          simp only [Option.some.injEq] at hk'; subst hk'
          obtain ⟨rfl, rfl⟩ := ha k2.symm
          rw [k3] at hX
          have hsz : (⟨s.toArray⟩ : ByteArray).size = s.length := by simp [ByteArray.size]
          split at hv
          · rename_i hpos
            simp only [Option.bind_eq_bind, Option.bind_eq_some_iff, Option.some.injEq, Prod.mk.injEq] at hv
            obtain ⟨s1, hput, rfl, rfl, rfl⟩ := hv
            obtain ⟨hro, rfl⟩ := St.put_some hput
            have hw : Wrote w { w with heap := w.heap.setIfInBounds k.b (.stringIter ⟨s.toArray⟩ (pos + (Utf8.decode ⟨s.toArray⟩ pos).2)) } k.b := setObj_wrote
            have hlt := lt_of_heap k5
            have hrun : Gives P w a o (.tuple #[.bool true, goInt pos, .int .i32 (Utf8.decode ⟨s.toArray⟩ pos).1]) { w with heap := w.heap.setIfInBounds k.b (.stringIter ⟨s.toArray⟩ (pos + (Utf8.decode ⟨s.toArray⟩ pos).2)) } := by
              simp [Gives, execOp, ho, hX, Instr.next, getObj, setObj, Sem.run, k5, hpos, hsz]
            have hobj : ObjRel P G O { w with heap := w.heap.setIfInBounds k.b (.stringIter ⟨s.toArray⟩ (pos + (Utf8.decode ⟨s.toArray⟩ pos).2)) } g (.iter s (pos + (Utf8.decode ⟨s.toArray⟩ pos).2)) :=
              ⟨k, k1, k2, k3, k4, by simp [hlt]⟩
            have hglt := (List.getElem?_eq_some_iff.1 hg).1
            refine ⟨_, _, O, .inl hrun, ?_, hh.write k4 hw hobj hglt (fun _ _ h => h) (fun i _ => ?_), (hw.stp k4).weak fun t ht => .inl ⟨g, hro, ht⟩⟩
            · refine (he.step0 hh (hw.stp k4) (by simp) (by simp) (by simp)).putA hd (.of_vrel ?_)
              have := LRel.cons (M := O.M) (K := O.K) (.bool true) (LRel.cons (.int .i64 pos) (LRel.cons (.int .i32 (Utf8.decode ⟨s.toArray⟩ pos).1) LRel.nil))
              exact .tuple_of (by simpa [goInt] using this)
            · intro ver cs sz b c xs kk y h1
              simp [hglt] at h1
          · rename_i hpos
            simp only [Option.some.injEq, Prod.mk.injEq] at hv
            obtain ⟨rfl, rfl, rfl⟩ := hv
            have hrun : Gives P w a o (.tuple #[.bool false]) w := by
              simp [Gives, execOp, ho, hX, Instr.next, getObj, Sem.run, k5, hpos, hsz]
            exact EffSim.of_pure he hh hd (.of_vrel hrun (.tuple_of (LRel.cons (.bool false) LRel.nil)))
      · simp at hk
    · simp at hv
  · simp at hv
end
end Go.Proofs.YtibhcmacccfakaaGreatDoor
namespace Go.Proofs.YtibhcmacccfakaaGreatDoor
variable [Sym]

section
variable {P : Program} {G : Glob} {τ : Tag → Prop} {O O' : Own} {w w' : World} {st st' : St} {e : Env} {a : Act} {o : Oper} {v : GV} {u : Env} {tmps : Array Value}

/-! ### Maps -/
theorem setKey_rel {str : Bool} {d : TypeDesc} (hd : keyDesc str d) {k : GV} (hk : isKey str k = true) {M : Mem} {K : KMap} {x : Value} (rx : VRel M K k x) {g : GV} :
    ∀ {es : List (GV × GV)} {L : List MapEntry} {es' : List (GV × GV)} (i : Nat), EntsRel M K es L → setKey k g es = some es' →
      (Instr.findNow d x L i = some none ∧ es' = es ++ [(k, g)]) ∨
      ∃ j y, Instr.findNow d x L i = some (some (i + j, y.val)) ∧ L[j]? = some y ∧ y.key = x ∧ es' = es.set j (k, g)
  | [], [], es', i, _, h => by
    simp only [setKey, Option.some.injEq] at h
    exact .inl ⟨rfl, h.symm⟩
  | [], _ :: _, _, _, hr, _ => by simp [EntsRel] at hr
  | _ :: _, [], _, _, hr, _ => by simp [EntsRel] at hr
  | (j, gy) :: es, y :: L, es', i, hr, h => by
    simp only [setKey] at h
    obtain ⟨r1, r2⟩ := hr.2 0 (j, gy) y rfl rfl
    split at h
    · rename_i hg
      simp only [Option.some.injEq] at h; subst h
      have hs := geq_key hd hk rx r1 hg
      refine .inr ⟨0, y, by simp [Instr.findNow, hs], rfl, ?_, rfl⟩
      cases k <;> simp only [isKey, Bool.false_eq_true, Bool.not_eq_true'] at hk
      · obtain ⟨kk, nx, ny, q1, q2, q3⟩ := geq_int rfl (geq_int_kind hg) rx r1 hg
        have : nx = ny := by simpa using q3.symm
        rw [q1, q2, this]
      · obtain ⟨b1, rfl, rfl⟩ := rx.str_inv
        cases j <;> simp only [geq, reduceCtorEq] at hg
        obtain ⟨b2, hb2, rfl⟩ := r1.str_inv
        simp only [Option.some.injEq, beq_iff_eq] at hg
        rw [hb2]
        congr 1
        have h1 : b1.data = b2.data := by
          have := congrArg List.toArray hg
          simpa using this
        cases b1; cases b2; simp at h1; rw [h1]
    · rename_i hg
      have hs := geq_key hd hk rx r1 hg
      simp only [Option.map_eq_some_iff] at h
      obtain ⟨es2, h, rfl⟩ := h
      rcases setKey_rel hd hk rx (i + 1) hr.tail h with ⟨h1, rfl⟩ | ⟨j', y', h1, h2, h3, rfl⟩
      · exact .inl ⟨by simp [Instr.findNow, hs, h1], rfl⟩
      · refine .inr ⟨j' + 1, y', ?_, by simpa using h2, h3, rfl⟩
        simp only [Instr.findNow, hs, h1]
        congr 3; omega
    · simp at h

theorem EffSim.of_skip {w' : World} {O' : Own} (hd : ∀ d, o.dst = some d → d < a.tmps.size) (hrun : (execOp a.eval o).run P w = .ok .skip w') (he : EnvRel O' w' (u ++ e) a.tmps) (hh : HInv P G O' st' w') (hs : Stp (opT st'.ro) O w O' w') :
    EffSim P G O w e a o .undef u st' := ⟨undef, w', O', .inr ⟨rfl, hrun⟩, he.putA hd (.of_vrel (.undef _)), hh, hs⟩

theorem sim_mapUpdate (he : EnvRel O w e a.tmps) (hh : HInv P G O st w) (hd : ∀ d, o.dst = some d → d < a.tmps.size) {C : Call} {V : CallV} {m k x : GX} {str : Bool} (hk : okOp P G o.op (.mapUpdate m k x str) = true)
    (hv : effOp C V e st (.mapUpdate m k x str) = some (v, u, st')) : EffSim P G O w e a o v u st' := by
  simp only [effOp] at hv
  split at hv
  · rename_i hkey
    split at hv
    · rename_i g h1
      split at hv
      · rename_i es hg
        split at hv
        · simp only [Option.bind_eq_bind, Option.bind_eq_some_iff, Option.some.injEq, Prod.mk.injEq] at hv
          obtain ⟨es', hset, s1, hput, rfl, rfl, rfl⟩ := hv
          obtain ⟨hro, rfl⟩ := St.put_some hput
          unfold okOp at hk; dsimp only at hk
          split at hk
          · rename_i t X Y Z ho
            simp only [Bool.and_eq_true] at hk
            obtain ⟨⟨⟨hm, hkk⟩, hx⟩, hk⟩ := hk
            have hm := rd_rel he hh hm
            have hkk := rd_rel he hh hkk
            have hx := rd_rel he hh hx
            split at hk
            · rename_i kt el hu
              obtain ⟨d, hud, hdd⟩ := keyDesc_of hk
              rw [h1] at hm
              obtain ⟨kk, res, clock, k1, k2, k3, k4, ⟨k5, kc, kb⟩, k6⟩ := hh.obj g _ hg
              generalize hX : a.eval X = y at hm
              cases hm with
              | map hk' hr' =>
                rw [k1] at hk'
                simp only [Option.some.injEq] at hk'; subst hk'
                have hr' := hr' k2
                subst hr'
                have hE : EntsRel O.M O.K es res.toList := ⟨by simpa using k5, fun i c y h1 h2 => k6 i c y h1 (by simpa using h2)⟩
                have hck : (Instr.checkKey false 10000 kt (a.eval Y)).run P w = .ok () w := run_checkKey' hud hdd hkey hkk false
                have hlt := lt_of_heap k4
                have hglt := (List.getElem?_eq_some_iff.1 hg).1
                have fin : ∀ {ob : Array MapEntry} {cl : Nat}, (execOp a.eval o).run P w = .ok .skip { w with heap := w.heap.setIfInBounds kk.b (.map ob cl) } → EntsRel O.M O.K es' ob.toList → (cl = es'.length ∧ ∀ (i : Nat) (y : MapEntry), ob[i]? = some y → y.born = i) →
                    EffSim P G O w e a o .undef [] { st with heap := st.heap.set g (.map es') } := by
                  intro ob cl hrun hob hst
                  have hw : Wrote w { w with heap := w.heap.setIfInBounds kk.b (.map ob cl) } kk.b := setObj_wrote
                  have hobj : ObjRel P G O { w with heap := w.heap.setIfInBounds kk.b (.map ob cl) } g (.map es') :=
                    ⟨kk, ob, cl, k1, k2, k3, by simp [hlt], ⟨by simpa using hob.1, hst.1, hst.2⟩, fun i c y h1 h2 => hob.2 i c y h1 (by simpa using h2)⟩
                  refine EffSim.of_skip hd hrun (he.step0 hh (hw.stp k3) (by simp) (by simp) (by simp)) (hh.write k3 hw hobj hglt (fun _ _ h => h) fun i _ => ?_) ((hw.stp k3).weak fun t ht => .inl ⟨g, hro, ht⟩)
                  intro ver cs sz b c xs kk y h1
                  simp [hglt] at h1
                rcases setKey_rel hdd hkey hkk (g := rd e x) 0 hE hset with ⟨hf, rfl⟩ | ⟨j, y', hf, hj, hjk, rfl⟩
                · have hfr := MapKept.run_findKey (P := P) (w := w) hud hf
                  refine fin (ob := res.push { key := a.eval Y, val := a.eval Z, born := clock }) (cl := clock + 1) ?_ ⟨by simp [k5], fun i c y h1 h2 => ?_⟩ ⟨by simp [kc], fun i y h => ?_⟩
                  · simp only [execOp, ho, hX, Instr.mapUpdate, Sem.run_bind, run_underlying hu, Result.andThen_ok, MapKept.run_getObj_map k4, hck, hfr, MapKept.run_setObj_map _ k4, Sem.run_pure]
                  · rcases get_snoc' h1 with h1 | ⟨rfl, rfl⟩
                    · have hi := (List.getElem?_eq_some_iff.1 h1).1
                      simp only [Array.toList_push] at h2
                      rw [List.getElem?_append_left (by simpa [k5] using hi)] at h2
                      exact k6 i c y h1 (by simpa using h2)
                    · simp only [Array.toList_push] at h2
                      rw [List.getElem?_append_right (by simp [k5])] at h2
                      simp [k5] at h2
                      subst h2
                      exact ⟨hkk, hx⟩
                  · rw [Array.getElem?_push] at h
                    split at h
                    · rename_i hi
                      simp only [Option.some.injEq] at h
                      rw [← h]; simp only; omega
                    · exact kb i y h
                · have hfr := MapKept.run_findKey (P := P) (w := w) hud hf
                  have hj' : res[j]? = some y' := by simpa using hj
                  have hsame : Instr.sameBits 10000 (a.eval Y) (a.eval Y) = true := by
                    generalize rd e k = gk at hkey hkk
                    cases gk <;> simp only [isKey, Bool.false_eq_true, Bool.not_eq_true'] at hkey
                    · rw [hkk.int_inv]; simp [Instr.sameBits]
                    · obtain ⟨b, hb, _⟩ := hkk.str_inv
                      rw [hb]; simp [Instr.sameBits, bytesEq]
                  have hstay : (Instr.keyThatStays y'.key (a.eval Y)).run P w = .ok (a.eval Y) w := by
                    rw [hjk]; simp [Instr.keyThatStays, hsame]
                  refine fin (ob := res.modify j fun e => { e with key := a.eval Y, val := a.eval Z }) (cl := clock) ?_ ⟨by simp [k5], fun i c y h1 h2 => ?_⟩ ⟨by simp [kc], fun i y h => ?_⟩
                  · simp only [execOp, ho, hX, Instr.mapUpdate, Sem.run_bind, run_underlying hu, Result.andThen_ok, MapKept.run_getObj_map k4, hck, hfr, Nat.zero_add, hj', Option.map_some, Option.getD_some, hstay, MapKept.run_setObj_map _ k4, Sem.run_pure]
                  · have hjl := (Array.getElem?_eq_some_iff.1 hj').1
                    simp only [Array.getElem?_toList, Array.getElem?_modify] at h2
                    rw [List.getElem?_set] at h1
                    by_cases hij : j = i
                    · subst hij
                      rw [if_pos rfl] at h1 h2
                      rw [hj'] at h2
                      split at h1
                      · simp only [Option.some.injEq, Option.map_some] at h1 h2
                        subst h1 h2
                        exact ⟨hkk, hx⟩
                      · simp at h1
                    · rw [if_neg hij] at h1 h2
                      exact k6 i c y h1 h2
                  · rw [Array.getElem?_modify] at h
                    split at h
                    · simp only [Option.map_eq_some_iff] at h
                      obtain ⟨y0, h0, rfl⟩ := h
                      exact kb i y0 h0
                    · exact kb i y h
            · simp at hk
          · simp at hk
        · simp at hv
      · simp at hv
    · simp at hv
  · simp at hv
end
end Go.Proofs.YtibhcmacccfakaaGreatDoor
