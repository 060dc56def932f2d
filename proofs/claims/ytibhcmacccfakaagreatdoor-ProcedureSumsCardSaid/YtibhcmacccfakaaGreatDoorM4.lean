/- What a ghost state says of a real world; the tests that the evaluator's code is the program's operations; the order in which a region's operations may be taken. -/
import Derived.Test.YtibhcmacccfakaaGreatDoorM1
import Derived.Laws.Sem
import Derived.Laws.Cells
import Derived.Laws.Entries
set_option linter.unusedSectionVars false
set_option linter.unusedVariables false
set_option linter.unusedSimpArgs false
namespace Go.Proofs.YtibhcmacccfakaaGreatDoor

/-- Where a ghost block lies: real block, offset, version, the real block's size. -/
structure KI where
  b : Nat
  o : Nat
  ver : Nat
  size : Nat

/-- A whole number, known or not. -/
def ivalOf (kind : Nat → IntKind) (val : Nat → Int) : GV → Option (IntKind × Int)
  | .int k n => some (k, n)
  | .sym i => some (kind i, val i)
  | _ => none
def rvalOf (kind : Nat → IntKind) (val : Nat → Int) : GV → Option Value
  | .bool b => some (.bool b)
  | .int k n => some (.int k n)
  | .sym i => some (.int (kind i) (val i))
  | _ => none
/-- The unknown whole numbers' values; the table tells the truth of them. -/
class Sym extends Tab where
  val : Nat → Int
  rng : ∀ i, (kind i).wrap (val i) = val i
  ok : ∀ (op : BinOp) (x y r : GV), tab op x y = some r → ∀ kx nx ky ny, ivalOf kind val x = some (kx, nx) → ivalOf kind val y = some (ky, ny) →
    ∃ rv, rvalOf kind val r = some rv ∧ ∀ (P : Program) (w : World) (t : TypeId), (binOp op t (.int kx nx) (.int ky ny)).run P w = .ok rv w
variable [Sym]

abbrev Mem := Nat → Nat → Option Value
abbrev KMap := Nat → Option KI

inductive VRel (M : Mem) (K : KMap) : GV → Value → Prop
  | undef (x : Value) : VRel M K .undef x
  | bool (b : Bool) : VRel M K (.bool b) (.bool b)
  | int (k : IntKind) (n : Int) : VRel M K (.int k n) (.int k n)
  | str (s : ByteArray) : VRel M K (.str s.data.toList) (.string s)
  | nilptr : VRel M K .nilptr (.pointer none)
  | ptr {g ver off b o : Nat} {k : KI} (hk : K g = some k) (hv : ver ≤ k.ver) (ha : ver = k.ver → b = k.b ∧ o = k.o + off) :
      VRel M K (.ptr g ver off) (.pointer (some ⟨b, o, none⟩))
  | eptr {cs : List GV} {b o : Nat} {f : Nat → Value} (hm : ∀ i, i < cs.length → M b (o + i) = some (f i))
      (hr : ∀ (i : Nat) (c : GV), cs[i]? = some c → VRel M K c (f i)) : VRel M K (.eptr cs) (.pointer (some ⟨b, o, none⟩))
  | slnil (sz : Nat) (c : Cap) (hc : c ≠ .own) : VRel M K (.sl sz true c []) (.slice none 0 0)
  | sl {sz : Nat} {c : Cap} {xs : List (List GV)} {b o cap : Nat} {f : Nat → Value} (hc : c ≠ .own) (he : c = .exact → cap = xs.length)
      (hl : xs.length ≤ cap) (hs : ∀ x, x ∈ xs → x.length = sz) (hm : ∀ i, i < xs.length * sz → M b (o + i) = some (f i))
      (hr : ∀ (i j : Nat) (x : List GV) (c : GV), xs[i]? = some x → x[j]? = some c → VRel M K c (f (i * sz + j))) :
      VRel M K (.sl sz false c xs) (.slice (some ⟨b, o, none⟩) xs.length cap)
  | msl {g ver off len sz cap b o : Nat} {k : KI} (hk : K g = some k) (hv : ver ≤ k.ver) (hl : len ≤ cap)
      (ha : ver = k.ver → b = k.b ∧ o = k.o + off ∧ o + cap * sz ≤ k.size) :
      VRel M K (.msl g ver off len sz) (.slice (some ⟨b, o, none⟩) len cap)
  | nilmap : VRel M K .nilmap (.map none)
  | map {g r : Nat} {k : KI} (hk : K g = some k) (hr : k.ver = 0 → r = k.b) : VRel M K (.map g) (.map (some r))
  | fnc {f : FuncId} {fs cs : List GV} {F C : Array Value} (hF : F.size = fs.length) (hC : C.size = cs.length)
      (rF : ∀ (i : Nat) (c : GV) (v : Value), fs[i]? = some c → F[i]? = some v → VRel M K c v) (rC : ∀ (i : Nat) (c : GV) (v : Value), cs[i]? = some c → C[i]? = some v → VRel M K c v) :
      VRel M K (.func (.func f) fs cs) (.func (.func f) F C)
  | yld {l r : Nat} {k : KI} (hk : K l = some k) (hr : k.ver = 0 → r = k.b) : VRel M K (.func (.yield l) [] []) (.func (.yield r) #[] #[])
  | nilfunc : VRel M K .nilfunc .nilFunc
  | sym (i : Nat) : VRel M K (.sym i) (.int (Tab.kind i) (Sym.val i))
  | iface {t : TypeId} {v : GV} {x : Value} (h : VRel M K v x) : VRel M K (.iface t v) (.iface t x)
  | niliface : VRel M K .niliface .nilIface
  | agg {cs : List GV} {A : Array Value} (hA : A.size = cs.length) (hr : ∀ (i : Nat) (c : GV) (v : Value), cs[i]? = some c → A[i]? = some v → VRel M K c v) :
      VRel M K (.agg cs) (.agg A)
  | tuple {cs : List GV} {A : Array Value} (hA : A.size = cs.length) (hr : ∀ (i : Nat) (c : GV) (v : Value), cs[i]? = some c → A[i]? = some v → VRel M K c v) :
      VRel M K (.tuple cs) (.tuple A)

def MLe (M M' : Mem) : Prop := ∀ b o v, M b o = some v → M' b o = some v
/-- Ghost blocks are where they were, or have turned their version. -/
def KLe (K K' : KMap) : Prop := ∀ g k, K g = some k → ∃ k', K' g = some k' ∧ k.ver ≤ k'.ver ∧ (k'.ver = k.ver → k' = k)

theorem MLe.refl (M : Mem) : MLe M M := fun _ _ _ h => h
theorem MLe.trans {M M' M'' : Mem} (h : MLe M M') (h' : MLe M' M'') : MLe M M'' := fun b o v e => h' b o v (h b o v e)
theorem KLe.refl (K : KMap) : KLe K K := fun _ k h => ⟨k, h, Nat.le_refl _, fun _ => rfl⟩
theorem KLe.trans {K K' K'' : KMap} (h : KLe K K') (h' : KLe K' K'') : KLe K K'' := fun g k e => by
  obtain ⟨k1, e1, l1, s1⟩ := h g k e
  obtain ⟨k2, e2, l2, s2⟩ := h' g k1 e1
  refine ⟨k2, e2, Nat.le_trans l1 l2, fun q => ?_⟩
  have q1 : k1.ver = k.ver := by omega
  obtain rfl := s1 q1
  exact s2 q

theorem refsLtL_get {n : Nat} : ∀ {cs : List GV} {i : Nat} {c : GV}, refsLtL n cs = true → cs[i]? = some c → refsLt n c = true
  | [], i, c, _, h => by simp at h
  | x :: r, 0, c, h, e => by
    simp only [refsLtL, Bool.and_eq_true] at h
    simp at e; exact e ▸ h.1
  | x :: r, i + 1, c, h, e => by
    simp only [refsLtL, Bool.and_eq_true] at h
    exact refsLtL_get h.2 (by simpa using e)
theorem refsLtLL_get {n : Nat} : ∀ {xs : List (List GV)} {i : Nat} {x : List GV}, refsLtLL n xs = true → xs[i]? = some x → refsLtL n x = true
  | [], i, c, _, h => by simp at h
  | x :: r, 0, c, h, e => by
    simp only [refsLtLL, Bool.and_eq_true] at h
    simp at e; exact e ▸ h.1
  | x :: r, i + 1, c, h, e => by
    simp only [refsLtLL, Bool.and_eq_true] at h
    exact refsLtLL_get h.2 (by simpa using e)
theorem refsLtL_all {n : Nat} : ∀ {cs : List GV}, (∀ (i : Nat) (c : GV), cs[i]? = some c → refsLt n c = true) → refsLtL n cs = true
  | [], _ => rfl
  | x :: r, h => by
    simp only [refsLtL, Bool.and_eq_true]
    exact ⟨h 0 x rfl, refsLtL_all fun i c e => h (i + 1) c (by simpa using e)⟩
theorem refsLtLL_all {n : Nat} : ∀ {xs : List (List GV)}, (∀ (i : Nat) (x : List GV), xs[i]? = some x → refsLtL n x = true) → refsLtLL n xs = true
  | [], _ => rfl
  | x :: r, h => by
    simp only [refsLtLL, Bool.and_eq_true]
    exact ⟨h 0 x rfl, refsLtLL_all fun i c e => h (i + 1) c (by simpa using e)⟩

theorem get_some_of_size {A : Array Value} {i : Nat} {c : GV} {cs : List GV} (h : A.size = cs.length) (e : cs[i]? = some c) : ∃ v, A[i]? = some v := by
  have := (List.getElem?_eq_some_iff.1 e).1
  exact ⟨A[i]'(by omega), by simp [h, this]⟩

/-- What a related value names is mapped. -/
theorem VRel.refs {M : Mem} {K : KMap} {n : Nat} {v : GV} {x : Value} (h : VRel M K v x) (hK : ∀ g, n ≤ g → K g = none) : refsLt n v = true := by
  have lt : ∀ {g : Nat} {k : KI}, K g = some k → g < n := fun {g k} e => by
    rcases Nat.lt_or_ge g n with h | h
    · exact h
    · rw [hK g h] at e; cases e
  induction h with
  | ptr hk hv ha => simpa [refsLt] using lt hk
  | eptr hm hr ih => exact refsLtL_all ih
  | sl hc he hl hs hm hr ih => exact refsLtLL_all fun i x e => refsLtL_all fun j c e' => ih i j x c e e'
  | msl hk hv hl ha => simpa [refsLt] using lt hk
  | map hk hr => simpa [refsLt] using lt hk
  | fnc hF hC rF rC iF iC =>
    simp only [refsLt, Bool.and_eq_true, Bool.true_and]
    exact ⟨refsLtL_all fun i c e => by obtain ⟨v, hv⟩ := get_some_of_size hF e; exact iF i c v e hv,
      refsLtL_all fun i c e => by obtain ⟨v, hv⟩ := get_some_of_size hC e; exact iC i c v e hv⟩
  | yld hk hr => simpa [refsLt, refsLtL] using lt hk
  | iface h ih => exact ih
  | agg hA hr ih => exact refsLtL_all fun i c e => by obtain ⟨v, hv⟩ := get_some_of_size hA e; exact ih i c v e hv
  | tuple hA hr ih => exact refsLtL_all fun i c e => by obtain ⟨v, hv⟩ := get_some_of_size hA e; exact ih i c v e hv
  | _ => rfl

/-- A related value is its own copy. -/
theorem VRel.cp_eq {M : Mem} {K : KMap} {v : GV} {x : Value} (h : VRel M K v x) : cp v = v := by
  cases h with
  | slnil sz c hc => cases c <;> simp_all [cp]
  | @sl sz c xs b o cap f hc he hl hs hm hr => cases c <;> simp_all [cp]
  | _ => rfl

/-- A value goes on to hold where the immutable memory has grown and the blocks that it names are where they were, or have turned their version. -/
theorem VRel.mono' {M M' : Mem} {K K' : KMap} {n : Nat} {v : GV} {x : Value} (h : VRel M K v x) (hM : MLe M M')
    (hK : ∀ g, g < n → ∀ k, K g = some k → ∃ k', K' g = some k' ∧ k.ver ≤ k'.ver ∧ (k'.ver = k.ver → k' = k)) (hn : refsLt n v = true) :
    VRel M' K' v x := by
  induction h with
  | undef x => exact .undef x
  | bool b => exact .bool b
  | int k n => exact .int k n
  | str s => exact .str s
  | nilptr => exact .nilptr
  | ptr hk hv ha =>
    simp only [refsLt, decide_eq_true_eq] at hn
    obtain ⟨k', e', l', s'⟩ := hK _ hn _ hk
    refine .ptr e' (Nat.le_trans hv l') fun q => ?_
    obtain rfl := s' (by omega)
    exact ha q
  | eptr hm hr ih =>
    simp only [refsLt] at hn
    exact .eptr (fun i hi => hM _ _ _ (hm i hi)) fun i c e => ih i c e (refsLtL_get hn e)
  | slnil sz c hc => exact .slnil sz c hc
  | sl hc he hl hs hm hr ih =>
    simp only [refsLt] at hn
    exact .sl hc he hl hs (fun i hi => hM _ _ _ (hm i hi)) fun i j x c e e' => ih i j x c e e' (refsLtL_get (refsLtLL_get hn e) e')
  | msl hk hv hl ha =>
    simp only [refsLt, decide_eq_true_eq] at hn
    obtain ⟨k', e', l', s'⟩ := hK _ hn _ hk
    refine .msl e' (Nat.le_trans hv l') hl fun q => ?_
    obtain rfl := s' (by omega)
    exact ha q
  | nilmap => exact .nilmap
  | map hk hr =>
    simp only [refsLt, decide_eq_true_eq] at hn
    obtain ⟨k', e', l', s'⟩ := hK _ hn _ hk
    refine .map e' fun q => ?_
    obtain rfl := s' (by omega)
    exact hr q
  | fnc hF hC rF rC iF iC =>
    simp only [refsLt, Bool.and_eq_true, Bool.true_and] at hn
    exact .fnc hF hC (fun i c v e e' => iF i c v e e' (refsLtL_get hn.1 e)) fun i c v e e' => iC i c v e e' (refsLtL_get hn.2 e)
  | yld hk hr =>
    simp only [refsLt, Bool.and_eq_true, decide_eq_true_eq] at hn
    obtain ⟨k', e', l', s'⟩ := hK _ hn.1.1 _ hk
    refine .yld e' fun q => ?_
    obtain rfl := s' (by omega)
    exact hr q
  | nilfunc => exact .nilfunc
  | sym i => exact .sym i
  | iface h ih =>
    simp only [refsLt] at hn
    exact .iface (ih hn)
  | niliface => exact .niliface
  | agg hA hr ih =>
    simp only [refsLt] at hn
    exact .agg hA fun i c v e e' => ih i c v e e' (refsLtL_get hn e)
  | tuple hA hr ih =>
    simp only [refsLt] at hn
    exact .tuple hA fun i c v e e' => ih i c v e e' (refsLtL_get hn e)

theorem VRel.mono {M M' : Mem} {K K' : KMap} {v : GV} {x : Value} (h : VRel M K v x) (hM : MLe M M') (hK : KLe K K') : VRel M' K' v x := by
  induction h with
  | undef x => exact .undef x
  | bool b => exact .bool b
  | int k n => exact .int k n
  | str s => exact .str s
  | nilptr => exact .nilptr
  | ptr hk hv ha =>
    obtain ⟨k', e', l', s'⟩ := hK _ _ hk
    refine .ptr e' (Nat.le_trans hv l') fun q => ?_
    obtain rfl := s' (by omega)
    exact ha q
  | eptr hm hr ih => exact .eptr (fun i hi => hM _ _ _ (hm i hi)) ih
  | slnil sz c hc => exact .slnil sz c hc
  | sl hc he hl hs hm hr ih => exact .sl hc he hl hs (fun i hi => hM _ _ _ (hm i hi)) ih
  | msl hk hv hl ha =>
    obtain ⟨k', e', l', s'⟩ := hK _ _ hk
    refine .msl e' (Nat.le_trans hv l') hl fun q => ?_
    obtain rfl := s' (by omega)
    exact ha q
  | nilmap => exact .nilmap
  | map hk hr =>
    obtain ⟨k', e', l', s'⟩ := hK _ _ hk
    refine .map e' fun q => ?_
    obtain rfl := s' (by omega)
    exact hr q
  | fnc hF hC rF rC iF iC => exact .fnc hF hC iF iC
  | yld hk hr =>
    obtain ⟨k', e', l', s'⟩ := hK _ _ hk
    refine .yld e' fun q => ?_
    obtain rfl := s' (by omega)
    exact hr q
  | nilfunc => exact .nilfunc
  | sym i => exact .sym i
  | iface h ih => exact .iface ih
  | niliface => exact .niliface
  | agg hA hr ih => exact .agg hA ih
  | tuple hA hr ih => exact .tuple hA ih

/-- Blocks below n alone. -/
def cutK (n : Nat) (K : KMap) : KMap := fun g => if g < n then K g else none
theorem VRel.cut {M : Mem} {K : KMap} {n : Nat} {v : GV} {x : Value} (h : VRel M K v x) (hn : refsLt n v = true) : VRel M (cutK n K) v x :=
  h.mono' (.refl M) (fun g hg k e => ⟨k, by simp [cutK, hg, e], Nat.le_refl _, fun _ => rfl⟩) hn
end Go.Proofs.YtibhcmacccfakaaGreatDoor
namespace Go.Proofs.YtibhcmacccfakaaGreatDoor

mutual
def okC (v : Value) : GV → Bool
  | .bool b => match v with
    | .bool a => a == b
    | _ => false
  | .int j m => match v with
    | .int k n => k == j && n == m
    | _ => false
  | .str l => match v with
    | .string s => s.data.toList == l
    | _ => false
  | .nilptr => match v with
    | .pointer none => true
    | _ => false
  | .sl _ b c xs => match v with
    | .slice none 0 0 => b && c == .exact && xs.isEmpty
    | _ => false
  | .nilmap => match v with
    | .map none => true
    | _ => false
  | .nilfunc => match v with
    | .nilFunc => true
    | _ => false
  | .niliface => match v with
    | .nilIface => true
    | _ => false
  | .agg cs => match v with
    | .agg A => okCL A.toList cs
    | _ => false
  | .tuple cs => match v with
    | .tuple A => okCL A.toList cs
    | _ => false
  | _ => false
def okCL (vs : List Value) : List GV → Bool
  | [] => vs.isEmpty
  | c :: q => match vs with
    | v :: r => okC v c && okCL r q
    | [] => false
end

/-- What package-level variables hold (their cells). -/
abbrev Glob := Nat → Option (List Value)

def okX (G : Glob) : Operand → GX → Bool
  | .tmp t, .s t' => t == t'
  | .const v, .c g => okC v g
  | .func f, .c (.func (.func f') [] []) => f == f'
  | .global g, .c (.eptr cs) => match G g with
    | some vs => okCL vs cs
    | none => false
  | _, _ => false

def okXs (G : Glob) : List Operand → List GX → Bool
  | [], [] => true
  | x :: r, y :: q => okX G x y && okXs G r q
  | _, _ => false

def okOX (G : Glob) : Option Operand → Option GX → Bool
  | none, none => true
  | some x, some y => okX G x y
  | _, _ => false

def sizeIs (P : Program) (t : TypeId) (n : Nat) : Bool := match P.info? t with
  | some i => i.size == n
  | none => false
def bytesAre (P : Program) (t : TypeId) (n : Nat) : Bool := match P.info? t with
  | some i => i.bytes == n
  | none => false
def zeroIs (P : Program) (t : TypeId) (cs : List GV) : Bool := match P.info? t with
  | some i => match i.zero with
    | some z => okCL z.cells.toList cs
    | none => false
  | none => false
def zeroVal (P : Program) (t : TypeId) (g : GV) : Bool := match P.info? t with
  | some i => match i.zero with
    | some z => okC z g
    | none => false
  | none => false
def aggB (P : Program) (t : TypeId) (b : Bool) : Bool := match P.underlying t with
  | some (.struct _) | some (.array _ _) => b
  | some _ => !b
  | none => false

def okParts (P : Program) (G : Glob) (place : Nat → Option (Nat × Nat)) : List (Nat × Operand) → List (Nat × Nat × GX) → Bool
  | [], [] => true
  | (i, x) :: r, (off, n, y) :: q => place i == some (off, n) && okX G x y && okParts P G place r q
  | _, _ => false
def okEls (G : Glob) : List (Nat × Operand) → List (Nat × GX) → Bool
  | [], [] => true
  | (i, x) :: r, (j, y) :: q => i == j && okX G x y && okEls G r q
  | _, _ => false

def intKind? (P : Program) (t : TypeId) : Option IntKind := match P.underlying t with
  | some (.int k) => some k
  | _ => none
def isString (P : Program) (t : TypeId) : Bool := match P.underlying t with
  | some .string => true
  | _ => false
def sliceOf (P : Program) (t : TypeId) : Option TypeId := match P.underlying t with
  | some (.slice e) => some e
  | _ => none

/-- The kinds of a struct's cells, one field behind the other. -/
def flatK (P : Program) (k : TypeId → Option (Bool × List EqK)) : List Field → Nat → Option (List EqK)
  | [], _ => some []
  | f :: r, o => if f.name ≠ "_" ∧ f.offset = o then match k f.type with
      | some (g, ks) => if sizeIs P f.type ks.length && aggB P f.type g then (flatK P k r (o + ks.length)).map (ks ++ ·) else none
      | none => none
    else none
/-- A type whose '==' the evaluator tells: whole numbers, bools, strings, pointers, functions, slices and maps (against nil), interfaces (against nil), structs of such. -/
def eqKinds (P : Program) : Nat → TypeId → Option (Bool × List EqK)
  | 0, _ => none
  | d + 1, t => match P.underlying t with
    | some .bool => some (false, [.b])
    | some (.int _) => some (false, [.i])
    | some .string => some (false, [.s])
    | some (.pointer _) => some (false, [.p])
    | some (.func ..) => some (false, [.f])
    | some (.slice _) => some (false, [.l])
    | some (.map ..) => some (false, [.m])
    | some (.interface _) => if d = 8 then some (false, [.n]) else none
    | some (.struct fs) => if P.stoodInHeld t || P.eqGuardType P.depth t then none else (flatK P (eqKinds P d) fs.toList 0).map fun ks => (true, ks)
    | _ => none

/-- A method that a type has itself, called on a value of it. -/
def okTab (P : Program) (name : String) : List (TypeId × Nat) → Bool
  | [] => true
  | (t, f) :: r => (match P.info? t with
      | some i => match i.methods.find? (·.name == name) with
        | some m => m.path.isEmpty && m.func == some (f, false) && (match P.underlying t with | some (.pointer _) => false | some _ => true | none => false)
        | none => false
      | none => false) && okTab P name r

def okTypes (P : Program) (want : Array (String × TypeId)) : List (TypeId × Bool) → Bool
  | [] => true
  | (t, b) :: r => (match P.info? t with
      | some i => (want.toList.all fun p => i.methods.any fun m => m.name == p.1 && m.sig == p.2) == b
      | none => false) && okTypes P want r

def isConst : Operand → Bool
  | .const _ => true
  | _ => false
/-- Two interface values are compared with the literal nil alone. -/
def okNil (P : Program) (t : TypeId) (x y : Operand) : Bool := match P.underlying t with
  | some (.interface _) => isConst x || isConst y
  | _ => true

def okOp (P : Program) (G : Glob) (o : Op) (g : GOp) : Bool := match g with
  | .bad => true
  | .mv y => match o with
    | .move x | .assign x => okX G x y
    | _ => false
  | .take u => match o with
    | .move (.tmp t) | .assign (.tmp t) => t == u
    | _ => false
  | .pick c' a' b' => match o with
    | .pick c a b => okX G c c' && okX G a a' && okX G b b'
    | _ => false
  | .box y => match o with
    | .box _ x => okX G x y
    | _ => false
  | .hbox y => match o with
    | .box _ x => okX G x y
    | _ => false
  | .alloc z => match o with
    | .alloc t => zeroIs P t z
    | _ => false
  | .halloc z => match o with
    | .alloc t => zeroIs P t z
    | _ => false
  | .build z qs => match o with
    | .build t ps => zeroIs P t z && (match P.underlying t with
      | some (.struct fs) => match fs.toList.mapM (fun f => (P.info? f.type).map fun i => (f.offset, i.size)) with
        | some places => okParts P G (fun i => places.toArray[i]?) ps.toList qs
        | none => false
      | some (.array _ e) => match P.info? e with
        | some ie => okParts P G (fun i => some (i * ie.size, ie.size)) ps.toList qs
        | none => false
      | _ => false)
    | _ => false
  | .bsl sz m z qs _ => match o with
    | .buildSlice t n ps => n == m && (match sliceOf P t with
      | some e => sizeIs P e sz && zeroIs P e z && z.length == sz && decide (n * sz ≤ 2 ^ 24) && okEls G ps.toList qs
      | none => false)
    | _ => false
  | .load n isAgg b _ _ => match o with
    | .load t a => sizeIs P t n && aggB P t isAgg && okX G a b
    | _ => false
  | .loadTake b _ _ => match o with
    | .load t a => sizeIs P t 1 && aggB P t false && okX G a b
    | _ => false
  | .store n b y _ _ => match o with
    | .store t a x => sizeIs P t n && okX G a b && okX G x y
    | _ => false
  | .storeTake b u _ _ => match o with
    | .store t a (.tmp v) => sizeIs P t 1 && okX G a b && v == u
    | _ => false
  | .fieldAddr y off => match o with
    | .fieldAddr t x f => okX G x y && (match P.underlying t with
      | some (.struct fs) => match fs[f]? with
        | some fd => fd.offset == off && P.cellsOf fd.type != 0
        | none => false
      | _ => false)
    | _ => false
  | .indexArr y j n sz => match o with
    | .indexAddr t x i => okX G x y && okX G i j && (match P.underlying t with
      | some (.array m e) => m == n && decide (1 < m) && sizeIs P e sz
      | _ => false)
    | _ => false
  | .indexSl y j sz => match o with
    | .indexAddr t x i => okX G x y && okX G i j && (match sliceOf P t with
      | some e => sizeIs P e sz
      | none => false)
    | _ => false
  | .nilCheck y => match o with
    | .nilCheck x => okX G x y
    | _ => false
  | .bin op' x' y' => match o with
    | .binOp op t x y _ => op == op' && okX G x x' && okX G y y' && ((intKind? P t).isSome || isString P t)
    | _ => false
  | .eqv neg agg ks x' y' => match o with
    | .binOp op t x y _ => op == (if neg then .neq else .eql) && okX G x x' && okX G y y' && decide (eqKinds P 9 t = some (agg, ks)) && (agg || (ks != [.i] && ks != [.s])) && okNil P t x y
    | _ => false
  | .un op' y => match o with
    | .unOp op _ x => op == op' && okX G x y
    | _ => false
  | .toInt k y => match o with
    | .convert s d x => okX G x y && intKind? P d == some k && (intKind? P s).isSome
    | _ => false
  | .mkIface t' y => match o with
    | .makeInterface t x => t == t' && okX G x y && (match P.underlying t with | some (.interface _) => false | some _ => true | none => false)
    | _ => false
  | .mkFunc f' gs ds => match o with
    | .makeFunc (.func f) fs cs => decide (f' = .func f) && okXs G fs.toList gs && okXs G cs.toList ds
    | _ => false
  | .extract y j => match o with
    | .extract x i => okX G x y && i == j
    | _ => false
  | .field y off n isAgg => match o with
    | .field t x f => okX G x y && (match P.underlying t with
      | some (.struct fs) => match fs[f]? with
        | some fd => fd.offset == off && sizeIs P fd.type n && aggB P fd.type isAgg && (isAgg || n == 1)
        | none => false
      | _ => false)
    | _ => false
  | .indexAgg y j n sz isAgg => match o with
    | .index t x i => okX G x y && okX G i j && (match P.underlying t with
      | some (.array m e) => m == n && sizeIs P e sz && aggB P e isAgg && (isAgg || sz == 1)
      | _ => false)
    | _ => false
  | .indexStr y j => match o with
    | .index t x i => okX G x y && okX G i j && isString P t
    | _ => false
  | .mkSlice sz bytes z l' c' _ => match o with
    | .makeSlice t l c => okX G l l' && okX G c c' && (match sliceOf P t with
      | some e => sizeIs P e sz && bytesAre P e bytes && zeroIs P e z && z.length == sz
      | none => false)
    | _ => false
  | .mkMap => match o with
    | .makeMap _ none => true
    | _ => false
  | .lookup y j z ok' str => match o with
    | .lookup t x i ok => ok == ok' && okX G x y && okX G i j && (match P.underlying t with
      | some (.map k e) => (if str then isString P k else (intKind? P k).isSome) && zeroVal P e z
      | _ => false)
    | _ => false
  | .mapUpdate m' k' x' str => match o with
    | .mapUpdate t m k x => okX G m m' && okX G k k' && okX G x x' && (match P.underlying t with
      | some (.map k _) => if str then isString P k else (intKind? P k).isSome
      | _ => false)
    | _ => false
  | .slice str y lo' hi' mx' sz => match o with
    | .slice t x lo hi mx => okX G x y && okOX G lo lo' && okOX G hi hi' && okOX G mx mx' && (match P.underlying t with
      | some (.slice e) => !str && sizeIs P e sz
      | some .string => str
      | _ => false)
    | _ => false
  | .range y => match o with
    | .range t x => okX G x y && isString P t
    | _ => false
  | .next y => match o with
    | .next x true => okX G x y
    | _ => false
  | .mrange y => match o with
    | .range t x => okX G x y && (match P.underlying t with
      | some (.map _ _) => true
      | _ => false)
    | _ => false
  | .mentry y => match o with
    | .entry x => okX G x y
    | _ => false
  | .mnext y => match o with
    | .next x false => okX G x y
    | _ => false
  | .assertTo y ts isI z ok' => match o with
    | .typeAssert x _ t ok => okX G x y && ok == ok' && zeroVal P t z && (match P.underlying t with
      | some (.interface want) => isI && okTypes P want ts
      | some _ => !isI && ts == [(t, true)]
      | none => false)
    | _ => false
  | .len y k m => match o with
    | .call { callee := .builtin .len, args, argTypes } => (match args.toList, argTypes.toList with
      | [x], [t] => okX G x y && (match P.underlying t with | some (.slice _) => k == .l | some .string => k == .s | some (.map ..) => k == .m && m | _ => false)
      | _, _ => false)
    | _ => false
  | .minmax mx ys => match o with
    | .call { callee := .builtin b, args, .. } => b == (if mx then .max else .min) && okXs G args.toList ys
    | _ => false
  | .append a b sz bytes _ _ => match o with
    | .call { callee := .builtin .append, args, argTypes } => (match args.toList, argTypes.toList with
      | [x, y], [t, u] => okX G x a && okX G y b && (match sliceOf P t with
        | some e => sizeIs P e sz && bytesAre P e bytes && (P.info? e).any (fun i => i.zero.any fun z => z.cells.size == sz) && (match P.underlying u with | some (.int _) => false | some _ => true | none => false)
        | none => false)
      | _, _ => false)
    | _ => false
  | .copy a b sz => match o with
    | .call { callee := .builtin .copy, args, argTypes } => (match args.toList, argTypes[0]? with
      | [x, y], some t => okX G x a && okX G y b && (match sliceOf P t with
        | some e => sizeIs P e sz
        | none => false)
      | _, _ => false)
    | _ => false
  | .call (.fn g) ys _ => match o with
    | .call { callee := .value (.func f), args, .. } => f == g && okXs G args.toList ys
    | _ => false
  | .call (.val y) ys _ => match o with
    | .call { callee := .value x, args, .. } => okX G x y && okXs G args.toList ys
    | _ => false
  | .call (.inv y tab) ys _ => match o with
    | .call { callee := .invoke x name, args, .. } => okX G x y && okXs G args.toList ys && okTab P name tab
    | _ => false
  | .pan y => match o with
    | .panic x => okX G x y
    | _ => false

def okGuard (ops : Array Oper) : Option (Nat × Bool) → Option (Nat × Bool) → Bool
  | none, none => true
  | some (j, b), some (t, c) => b == c && (match ops[j]? with
    | some o => o.dst == some t
    | none => false)
  | _, _ => false

def okStmts (P : Program) (G : Glob) (nt : Nat) (ops : Array Oper) : List Oper → List GStmt → Bool
  | [], [] => true
  | o :: r, s :: q => o.dst == s.dst && (match s.dst with | some d => decide (d < nt) | none => true) && okOp P G o.op s.op && okGuard ops o.guard s.guard && okStmts P G nt ops r q
  | _, _ => false
end Go.Proofs.YtibhcmacccfakaaGreatDoor
namespace Go.Proofs.YtibhcmacccfakaaGreatDoor

def GX.slots : GX → List Nat
  | .s t => [t]
  | .c _ => []
def xsSlots (xs : List GX) : List Nat := xs.flatMap GX.slots
def oxSlots (x : Option GX) : List Nat := match x with | some x => x.slots | none => []

/-- The slots that an operation reads. -/
def GOp.reads : GOp → List Nat
  | .mv x | .box x | .hbox x | .fieldAddr x _ | .nilCheck x | .un _ x | .toInt _ x | .mkIface _ x | .extract x _ | .field x _ _ _ | .range x | .next x
  | .assertTo x _ _ _ _ | .len x _ _ | .pan x | .mrange x | .mentry x | .mnext x => x.slots
  | .take t => [t]
  | .pick c a b => c.slots ++ a.slots ++ b.slots
  | .alloc _ | .halloc _ | .mkMap | .bad => []
  | .build _ ps => xsSlots (ps.map fun p => p.2.2)
  | .bsl _ _ _ ps _ => xsSlots (ps.map fun p => p.2)
  | .load _ _ a root h | .loadTake a root h => (if h then [] else [root]) ++ a.slots
  | .store _ a x root h => (if h then [] else [root]) ++ a.slots ++ x.slots
  | .storeTake a t root h => (if h then [] else [root]) ++ t :: a.slots
  | .indexArr x i _ _ | .indexSl x i _ | .indexAgg x i _ _ _ | .indexStr x i => x.slots ++ i.slots
  | .bin _ x y | .eqv _ _ _ x y | .copy x y _ | .append x y _ _ _ _ => x.slots ++ y.slots
  | .mkFunc _ fs cs => xsSlots fs ++ xsSlots cs
  | .mkSlice _ _ _ l c _ => l.slots ++ c.slots
  | .lookup m k _ _ _ => m.slots ++ k.slots
  | .mapUpdate m k x _ => m.slots ++ k.slots ++ x.slots
  | .slice _ x lo hi mx _ => x.slots ++ oxSlots lo ++ oxSlots hi ++ oxSlots mx
  | .minmax _ xs => xsSlots xs
  | .call f args _ => (match f with | .fn _ => [] | .val x => x.slots | .inv x _ => x.slots) ++ xsSlots args

/-- The slots beside its own that an operation may write. -/
def GOp.writes : GOp → List Nat
  | .take t => [t]
  | .loadTake _ root h => if h then [] else [root]
  | .store _ _ _ root h => if h then [] else [root]
  | .storeTake _ t root h => (if h then [] else [root]) ++ [t]
  | .append x _ _ _ _ _ => x.slots
  | _ => []

/-- May it look into the ghost heap? -/
def GOp.hr : GOp → Bool
  | .load _ _ _ _ h | .loadTake _ _ h | .store _ _ _ _ h | .storeTake _ _ _ h => h
  | .hbox _ | .halloc _ | .mkMap | .range _ | .next _ | .mrange _ | .mentry _ | .mnext _ | .lookup .. | .mapUpdate .. | .append .. | .copy .. | .call .. => true
  | .bsl _ _ _ _ mu => mu
  | .mkSlice _ _ _ _ _ pers => !pers
  | .len _ _ m => m
  | _ => false
/-- May it change the ghost heap? -/
def GOp.hw : GOp → Bool
  | .store _ _ _ _ h | .storeTake _ _ _ h => h
  | .hbox _ | .halloc _ | .mkMap | .range _ | .next _ | .mrange _ | .mnext _ | .mapUpdate .. | .copy .. => true
  | .bsl _ _ _ _ mu => mu
  | .mkSlice _ _ _ _ _ pers => !pers
  | .append _ _ _ _ _ h => h
  | .call _ _ pure => !pure
  | _ => false

/-- May it ask for or change a permission? -/
def GOp.pw : GOp → Bool
  | .loadTake _ _ h | .store _ _ _ _ h | .storeTake _ _ _ h => h
  | .append _ _ _ _ _ h => h
  | .copy .. => true
  | .call _ _ pure => !pure
  | _ => false

def GStmt.rds (s : GStmt) : List Nat := (match s.guard with | some (t, _) => [t] | none => []) ++ s.op.reads
def GStmt.wrs (s : GStmt) : List Nat := (match s.dst with | some d => [d] | none => []) ++ s.op.writes

def apart (a b : List Nat) : Bool := a.all fun t => !b.contains t

/-- Two operations that may change places. -/
def indep (a b : GStmt) : Bool :=
  apart a.wrs (b.rds ++ b.wrs) && apart b.wrs (a.rds ++ a.wrs) && !(a.op.pw && b.op.pw) && !(a.op.hw && (b.op.hr || b.op.hw)) && !(b.op.hw && (a.op.hr || a.op.hw))

/-- Of each operation, as a number's bits, those that its edges lay before it. -/
def masks : List Oper → List Nat → List Nat
  | [], acc => acc
  | o :: r, acc => masks r (acc ++ [o.after.toList.foldl (fun m e => if Region.binds .any e then m ||| 2 ^ e.on ||| acc.getD e.on 0 else m) 0])

def pairOk (ms : List Nat) (gs : List GStmt) : Bool :=
  gs.zipIdx.all fun (b, j) => gs.zipIdx.all fun (a, i) => !decide (i < j) || (ms.getD j 0).testBit i || indep a b

/-- No slot of a variable that is laid in a region is named earlier in it. -/
def boxOk : List GStmt → List Nat → Bool
  | [], _ => true
  | s :: r, seen => (match s.op, s.dst with
    | .box _, some d | .alloc _, some d => !seen.contains d
    | _, _ => true) && boxOk r (s.rds ++ s.wrs ++ seen)

def okRegion (P : Program) (G : Glob) (nt : Nat) (ops : Array Oper) (draw : Bool) (gs : List GStmt) : Bool :=
  okStmts P G nt ops ops.toList gs && boxOk gs [] && (ops.toList.zipIdx.all fun (o, i) => o.after.all fun e => !Region.binds .any e || decide (e.on < i)) &&
  (!draw || pairOk (masks ops.toList []) gs)

/-- All operations are laid before the last. -/
def lastOk (ms : List Nat) (gs : List GStmt) : Bool := (List.range (gs.length - 1)).all fun i => (ms.getD (gs.length - 1) 0).testBit i

def okCode (P : Program) (G : Glob) (nt : Nat) : Code → GC → Bool
  | .skip, .skip => true
  | .region _ ops draw, .region gs _ => okRegion P G nt ops draw gs
  | .region _ ops draw, .pregion last gs _ => okRegion P G nt ops draw gs && (!draw || (last && lastOk (masks ops.toList []) gs))
  | .seq a b, .seq c d => okCode P G nt a c && okCode P G nt b d
  | .cond x a b, .cond y c d => okX G x y && okCode P G nt a c && okCode P G nt b d
  | .block i a, .block j c => i == j && okCode P G nt a c
  | .loop a, .loop _ c => okCode P G nt a c
  | .exit i, .exit j => i == j
  | .ret, .ret => true
  | .rangeFunc f ps a b, .rangeFunc g qs c d => okX G f g && ps.toList == qs && qs.all (fun t => decide (t < nt)) && decide qs.Nodup && okCode P G nt a c && okCode P G nt b d
  | _, _ => false

def okResults : List ResultVar → List (Nat ⊕ (Nat × Nat × Bool)) → (TypeId → Nat → Bool → Bool) → Bool
  | [], [], _ => true
  | .tmp t :: r, .inl u :: q, f => t == u && okResults r q f
  | .cell a t :: r, .inr (b, n, g) :: q, f => a == b && f t n g && okResults r q f
  | _, _, _ => false

def okFun (P : Program) (G : Glob) (fn : Func) (g : GFun) : Bool :=
  fn.name != "runtime.NumGoroutine" && decide (g.nparams ≤ fn.ntmps) &&
  okResults fn.results.toList g.results (fun t n b => sizeIs P t n && aggB P t b && (b || n == 1)) &&
  match fn.body with
  | some c => okCode P G fn.ntmps c g.body
  | none => false
end Go.Proofs.YtibhcmacccfakaaGreatDoor
namespace Go.Proofs.YtibhcmacccfakaaGreatDoor
variable [Tab]

theorem get_append_not {t : Nat} : ∀ {u e : Env}, (∀ p, p ∈ u → p.1 ≠ t) → get (u ++ e) t = get e t
  | [], _, _ => rfl
  | (k, v) :: r, e, h => by
    have h1 : k ≠ t := h (k, v) (by simp)
    simp only [List.cons_append, get, if_neg h1]
    exact get_append_not fun p hp => h p (by simp [hp])

section
variable {C : Call} {V : CallV} {e e' : Env} {st : St}

theorem rd_congr {x : GX} (h : ∀ t, t ∈ x.slots → get e t = get e' t) : rd e x = rd e' x := by
  cases x with
  | s t => simp only [rd]; rw [h t (by simp [GX.slots])]
  | c v => rfl
theorem adr_congr {x : GX} (h : ∀ t, t ∈ x.slots → get e t = get e' t) : adr e x = adr e' x := by
  cases x with
  | s t => simp only [adr]; rw [h t (by simp [GX.slots])]
  | c v => rfl
theorem raw_congr {x : GX} (h : ∀ t, t ∈ x.slots → get e t = get e' t) : raw e x = raw e' x := by
  cases x with
  | s t => simp only [raw]; rw [h t (by simp [GX.slots])]
  | c v => rfl
theorem spent_congr {x : GX} (h : ∀ t, t ∈ x.slots → get e t = get e' t) : spent e x = spent e' x := by
  cases x with
  | s t => simp only [spent]; rw [h t (by simp [GX.slots])]
  | c v => rfl
theorem rds_congr {xs : List GX} (h : ∀ t, t ∈ xsSlots xs → get e t = get e' t) : xs.map (rd e) = xs.map (rd e') :=
  List.map_congr_left fun x hx => rd_congr fun t ht => h t (by simp only [xsSlots, List.mem_flatMap]; exact ⟨x, hx, ht⟩)
theorem optNat_congr {x : Option GX} (h : ∀ t, t ∈ oxSlots x → get e t = get e' t) : optNat e x = optNat e' x := by
  cases x with
  | none => rfl
  | some x => simp only [optNat]; rw [rd_congr h]
theorem fillParts_congr : ∀ {ps : List (Nat × Nat × GX)} {cs : List GV}, (∀ t, t ∈ xsSlots (ps.map fun p => p.2.2) → get e t = get e' t) → fillParts e cs ps = fillParts e' cs ps
  | [], _, _ => rfl
  | (o, n, x) :: r, cs, h => by
    have h1 : rd e x = rd e' x := rd_congr fun t ht => h t (by simp [xsSlots, ht])
    simp only [fillParts, h1]
    split
    · exact fillParts_congr fun t ht => h t (by simp only [xsSlots, List.map_cons, List.flatMap_cons, List.mem_append]; exact .inr ht)
    · rfl
theorem fillElems_congr {sz : Nat} : ∀ {ps : List (Nat × GX)} {xs : List (List GV)}, (∀ t, t ∈ xsSlots (ps.map fun p => p.2) → get e t = get e' t) → fillElems e sz xs ps = fillElems e' sz xs ps
  | [], _, _ => rfl
  | (i, x) :: r, xs, h => by
    have h1 : rd e x = rd e' x := rd_congr fun t ht => h t (by simp [xsSlots, ht])
    simp only [fillElems, h1]
    split
    · exact fillElems_congr fun t ht => h t (by simp only [xsSlots, List.map_cons, List.flatMap_cons, List.mem_append]; exact .inr ht)
    · rfl
theorem cellsAt_congr {hp : List GObj} {root n : Nat} {heap : Bool} {a : GV} (h : heap = false → get e root = get e' root) : cellsAt e hp root heap n a = cellsAt e' hp root heap n a := by
  cases a <;> simp only [cellsAt]
  split
  · rename_i hh; obtain ⟨rfl, hp⟩ := hh; rw [h hp]
  · rfl
theorem writeAt_congr {root : Nat} {heap : Bool} {vs : List GV} {a : GV} (h : heap = false → get e root = get e' root) : writeAt e st root heap vs a = writeAt e' st root heap vs a := by
  cases a <;> simp only [writeAt]
  split
  · rename_i hh; obtain ⟨rfl, hp⟩ := hh; rw [h hp]
  · rfl

theorem pureOp_congr (o : GOp) (h : ∀ t, t ∈ o.reads → get e t = get e' t) : pureOp e o = pureOp e' o := by
  cases o <;> simp only [GOp.reads, List.mem_append, List.mem_cons] at h <;> simp only [pureOp]
  case mv x => rw [rd_congr h]
  case pick c a b => rw [rd_congr (x := c) fun t ht => h t (by simp [ht]), rd_congr (x := a) fun t ht => h t (by simp [ht]), rd_congr (x := b) fun t ht => h t (by simp [ht])]
  case box x => rw [rd_congr h]
  case build z ps => rw [fillParts_congr h]
  case fieldAddr x off => rw [adr_congr h]
  case indexArr x i n sz => rw [adr_congr (x := x) fun t ht => h t (by simp [ht]), rd_congr (x := i) fun t ht => h t (by simp [ht])]
  case indexSl x i sz => rw [rd_congr (x := x) fun t ht => h t (by simp [ht]), rd_congr (x := i) fun t ht => h t (by simp [ht])]
  case nilCheck x => rw [adr_congr h]
  case bin op x y => rw [rd_congr (x := x) fun t ht => h t (by simp [ht]), rd_congr (x := y) fun t ht => h t (by simp [ht])]
  case eqv op ag ks x y => rw [rd_congr (x := x) fun t ht => h t (by simp [ht]), rd_congr (x := y) fun t ht => h t (by simp [ht])]
  case un op x => rw [rd_congr h]
  case toInt k x => rw [rd_congr h]
  case mkIface t x => rw [rd_congr h]
  case mkFunc f fs cs => rw [rds_congr (xs := fs) fun t ht => h t (by simp [ht]), rds_congr (xs := cs) fun t ht => h t (by simp [ht])]
  case extract x i => rw [rd_congr h]
  case field x off n isAgg => rw [rd_congr h]
  case indexAgg x i n sz isAgg => rw [rd_congr (x := x) fun t ht => h t (by simp [ht]), rd_congr (x := i) fun t ht => h t (by simp [ht])]
  case indexStr x i => rw [rd_congr (x := x) fun t ht => h t (by simp [ht]), rd_congr (x := i) fun t ht => h t (by simp [ht])]
  case slice str x lo hi mx sz => rw [rd_congr (x := x) fun t ht => h t (by simp [ht]), optNat_congr (x := lo) fun t ht => h t (by simp [ht]), optNat_congr (x := hi) fun t ht => h t (by simp [ht]), optNat_congr (x := mx) fun t ht => h t (by simp [ht])]
  case assertTo x ts isI z ok => rw [rd_congr h]
  case minmax mx xs => rw [rds_congr h]

theorem readOp_congr {hp : List GObj} (o : GOp) (h : ∀ t, t ∈ o.reads → get e t = get e' t) : readOp e hp o = readOp e' hp o := by
  cases o <;> simp only [GOp.reads, List.mem_append, List.mem_cons] at h <;> simp only [readOp]
  case load n isAgg a root hp =>
    rw [adr_congr (x := a) fun t ht => h t (by simp [ht]), cellsAt_congr fun q => h root (by simp [q])]
  case lookup m k z ok str => rw [rd_congr (x := m) fun t ht => h t (by simp [ht]), rd_congr (x := k) fun t ht => h t (by simp [ht])]
  case len x k m => rw [rd_congr h]
  case mentry x => rw [rd_congr h]

theorem effOp_congr (o : GOp) (h : ∀ t, t ∈ o.reads → get e t = get e' t) : effOp C V e st o = effOp C V e' st o := by
  cases o <;> simp only [GOp.reads, List.mem_append, List.mem_cons] at h <;> simp only [effOp]
  case take t => rw [h t (by simp)]
  case hbox x => rw [rd_congr h]
  case bsl sz n z ps mu => rw [fillElems_congr h]
  case loadTake a root hp =>
    rw [adr_congr (x := a) fun t ht => h t (by simp [ht]), cellsAt_congr fun q => h root (by simp [q])]
    simp only [writeAt_congr (e := e) (e' := e') (root := root) (heap := hp) fun q => h root (by simp [q])]
  case store n a x root hp =>
    rw [rd_congr (x := x) fun t ht => h t (by simp [ht]), adr_congr (x := a) fun t ht => h t (by simp [ht]), writeAt_congr fun q => h root (by simp [q])]
  case storeTake a u root hp =>
    rw [adr_congr (x := a) fun t ht => h t (by simp [ht]), h u (by simp), writeAt_congr fun q => h root (by simp [q])]
  case mkSlice sz bytes z l c pers => rw [rd_congr (x := l) fun t ht => h t (by simp [ht]), rd_congr (x := c) fun t ht => h t (by simp [ht])]
  case mapUpdate m k x str => rw [rd_congr (x := m) fun t ht => h t (by simp [ht]), rd_congr (x := k) fun t ht => h t (by simp [ht]), rd_congr (x := x) fun t ht => h t (by simp [ht])]
  case range x => rw [rd_congr h]
  case next x => rw [rd_congr h]
  case mrange x => rw [rd_congr h]
  case append t y sz bytes mu hp => rw [rd_congr (x := y) fun t ht => h t (by simp [ht]), raw_congr (x := t) fun t ht => h t (by simp [ht]), spent_congr (x := t) fun t ht => h t (by simp [ht])]
  case copy d y sz => rw [rd_congr (x := d) fun t ht => h t (by simp [ht]), rd_congr (x := y) fun t ht => h t (by simp [ht])]
  case call f args pure =>
    rw [rds_congr (xs := args) fun t ht => h t (by simp [ht])]
    have hc : ∀ vs s0, callTo C V e f vs s0 = callTo C V e' f vs s0 := by
      intro vs s0
      cases f with
      | fn f => rfl
      | val x => simp only [callTo, rd_congr (e := e) (e' := e') (x := x) fun t ht => h t (by simp [ht])]
      | inv x tab => simp only [callTo, rd_congr (e := e) (e' := e') (x := x) fun t ht => h t (by simp [ht])]
    simp only [hc]

theorem stepOp_congr (o : GOp) (h : ∀ t, t ∈ o.reads → get e t = get e' t) : stepOp C V e st o = stepOp C V e' st o := by
  simp only [stepOp, pureOp_congr o h, readOp_congr o h, effOp_congr o h]

theorem stepU_congr (s : GStmt) (h : ∀ t, t ∈ s.rds → get e t = get e' t) : stepU C V e st s = stepU C V e' st s := by
  have h1 : guardOk e s.guard = guardOk e' s.guard := by
    cases hg : s.guard with
    | none => rfl
    | some p => obtain ⟨t, b⟩ := p; simp only [guardOk]; rw [h t (by simp [GStmt.rds, hg])]
  simp only [stepU, h1]
  rw [stepOp_congr s.op fun t ht => h t (by simp [GStmt.rds, ht])]
end
end Go.Proofs.YtibhcmacccfakaaGreatDoor
namespace Go.Proofs.YtibhcmacccfakaaGreatDoor
variable [Tab]

section
variable {C : Call} {V : CallV} {e : Env} {st : St}

theorem writeAt_keys {root : Nat} {heap : Bool} {vs : List GV} {a : GV} {u : Env} {st' : St} (h : writeAt e st root heap vs a = some (u, st')) :
    ∀ p, p ∈ u → p.1 = root ∧ heap = false := by
  cases a <;> simp only [writeAt, reduceCtorEq] at h
  case ptr g ver o =>
    split at h
    · split at h
      · split at h
        · simp only [Option.map_eq_some_iff, Prod.mk.injEq] at h
          obtain ⟨_, _, rfl, _⟩ := h; simp
        · simp at h
      · simp at h
    · simp at h
  case lptr s o =>
    split at h
    · rename_i hh
      split at h
      · split at h
        · simp only [Option.some.injEq, Prod.mk.injEq] at h
          obtain ⟨rfl, _⟩ := h
          intro p hp; simp at hp; subst hp; exact ⟨hh.1, hh.2⟩
        · simp at h
      · simp at h
    · simp at h

/-- Written at a variable's address: the heap stays; its state is not asked. -/
theorem writeAt_local {root : Nat} {vs : List GV} {a : GV} (st2 : St) :
    writeAt e st2 root false vs a = (writeAt e st root false vs a).map fun p => (p.1, st2) := by
  cases a <;> simp only [writeAt] <;> (repeat' split) <;> simp_all
theorem writeAt_local_st {root : Nat} {vs : List GV} {a : GV} {u : Env} {st' : St} (h : writeAt e st root false vs a = some (u, st')) : st' = st := by
  have := writeAt_local (e := e) (st := st) (root := root) (vs := vs) (a := a) st
  rw [h] at this
  simpa using this

theorem spent_keys {x : GX} : ∀ p, p ∈ spent e x → p.1 ∈ x.slots := by
  cases x <;> simp [spent, GX.slots]

theorem effOp_keys (o : GOp) {v : GV} {u : Env} {st' : St} (h : effOp C V e st o = some (v, u, st')) : ∀ p, p ∈ u → p.1 ∈ o.writes := by
  cases o <;> simp only [effOp, reduceCtorEq] at h <;> simp only [GOp.writes]
  case take t => simp at h; obtain ⟨_, rfl, _⟩ := h; simp
  case loadTake a root heap =>
    simp only [Option.bind_eq_bind, Option.bind_eq_some_iff] at h
    obtain ⟨cs, _, h⟩ := h
    split at h
    · split at h
      · simp at h; obtain ⟨_, rfl, _⟩ := h; simp
      · split at h
        · split at h <;> (simp at h; obtain ⟨_, rfl, _⟩ := h; simp)
        · simp at h; obtain ⟨_, rfl, _⟩ := h; simp
      · simp only [Option.bind_eq_some_iff, Option.some.injEq, Prod.mk.injEq] at h
        obtain ⟨⟨u', s'⟩, hw, _, rfl, _⟩ := h
        intro p hp
        obtain ⟨h1, rfl⟩ := writeAt_keys hw p hp
        simp [h1]
    · simp at h
  case store n a x root heap =>
    split at h
    · simp only [Option.bind_eq_bind, Option.bind_eq_some_iff, Option.some.injEq, Prod.mk.injEq] at h
      obtain ⟨⟨u', s'⟩, hw, _, rfl, _⟩ := h
      intro p hp
      obtain ⟨h1, rfl⟩ := writeAt_keys hw p hp
      simp [h1]
    · simp at h
  case storeTake a t root heap =>
    simp only [Option.bind_eq_bind, Option.bind_eq_some_iff, Option.some.injEq, Prod.mk.injEq] at h
    obtain ⟨⟨u', s'⟩, hw, _, rfl, _⟩ := h
    intro p hp
    simp only [List.mem_cons] at hp
    rcases hp with rfl | hp
    · simp
    · obtain ⟨h1, rfl⟩ := writeAt_keys hw p hp
      simp [h1]
  case append t y sz bytes mu hp =>
    simp only [Option.bind_eq_bind, Option.bind_eq_some_iff, Option.some.injEq, Prod.mk.injEq] at h
    obtain ⟨ys, _, ⟨v', s'⟩, _, _, rfl, _⟩ := h
    exact spent_keys
  case hbox x => simp at h; obtain ⟨_, _, rfl, _⟩ := h; simp
  case halloc x => simp at h; obtain ⟨_, rfl, _⟩ := h; simp
  case mkMap => simp at h; obtain ⟨_, rfl, _⟩ := h; simp
  case bsl sz n z ps mu =>
    simp only [Option.bind_eq_bind, Option.bind_eq_some_iff] at h
    obtain ⟨xs, _, h⟩ := h
    split at h <;> (simp at h; obtain ⟨_, rfl, _⟩ := h; simp)
  case mkSlice sz bytes z l c pers =>
    simp only [Option.bind_eq_bind, Option.bind_eq_some_iff] at h
    obtain ⟨l', _, c', _, h⟩ := h
    split at h
    · split at h
      · simp at h; obtain ⟨_, rfl, _⟩ := h; simp
      · split at h
        · simp at h; obtain ⟨_, rfl, _⟩ := h; simp
        · simp at h
    · simp at h
  case mapUpdate m k x str =>
    split at h
    · split at h
      · split at h
        · split at h
          · simp only [Option.bind_eq_bind, Option.bind_eq_some_iff, Option.some.injEq, Prod.mk.injEq] at h
            obtain ⟨_, _, _, _, _, rfl, _⟩ := h; simp
          · simp at h
        · simp at h
      · simp at h
    · simp at h
  case range x =>
    split at h
    · simp at h; obtain ⟨_, rfl, _⟩ := h; simp
    · simp at h
  case mrange x =>
    split at h
    · simp at h; obtain ⟨_, rfl, _⟩ := h; simp
    · split at h
      · simp at h; obtain ⟨_, rfl, _⟩ := h; simp
      · simp at h
    · simp at h
  case next x =>
    split at h
    · split at h
      · split at h
        · simp only [Option.bind_eq_bind, Option.bind_eq_some_iff, Option.some.injEq, Prod.mk.injEq] at h
          obtain ⟨_, _, _, rfl, _⟩ := h; simp
        · simp at h; obtain ⟨_, rfl, _⟩ := h; simp
      · simp at h
    · simp at h
  case copy d y sz =>
    simp only [Option.bind_eq_bind, Option.bind_eq_some_iff, Option.some.injEq, Prod.mk.injEq] at h
    obtain ⟨_, _, _, _, _, rfl, _⟩ := h; simp
  case call f args pure =>
    split at h
    · split at h
      · split at h
        · simp at h; obtain ⟨_, rfl, _⟩ := h; simp
        · simp only [Option.map_eq_some_iff, Prod.mk.injEq] at h
          obtain ⟨_, _, _, rfl, _⟩ := h; simp
      · simp at h; obtain ⟨_, rfl, _⟩ := h; simp
    · simp at h

theorem stepOp_keys (o : GOp) {v : GV} {u : Env} {st' : St} (h : stepOp C V e st o = some (v, u, st')) : ∀ p, p ∈ u → p.1 ∈ o.writes := by
  unfold stepOp at h
  split at h
  · split at h
    · simp at h; obtain ⟨_, rfl, _⟩ := h; simp
    · simp at h
  · split at h
    · simp at h; obtain ⟨_, rfl, _⟩ := h; simp
    · simp at h
  · exact effOp_keys o h

theorem stepU_keys (s : GStmt) {u : Env} {st' : St} (h : stepU C V e st s = some (u, st')) : ∀ p, p ∈ u → p.1 ∈ s.wrs := by
  unfold stepU at h
  split at h
  · split at h
    · rename_i v u' st1 ho
      simp only [Option.some.injEq, Prod.mk.injEq] at h
      obtain ⟨rfl, rfl⟩ := h
      have hk := stepOp_keys s.op ho
      intro p hp
      simp only [GStmt.wrs, List.mem_append]
      cases hd : s.dst with
      | none => rw [hd] at hp; exact .inr (hk p hp)
      | some d =>
        rw [hd] at hp
        simp only [List.mem_cons] at hp
        rcases hp with rfl | hp
        · exact .inl (by simp)
        · exact .inr (hk p hp)
    · simp at h
  · simp only [Option.some.injEq, Prod.mk.injEq] at h
    obtain ⟨rfl, rfl⟩ := h
    intro p hp
    simp only [GStmt.wrs, List.mem_append]
    cases hd : s.dst with
    | none => rw [hd] at hp; simp at hp
    | some d => rw [hd] at hp; simp at hp; subst hp; exact .inl (by simp)
  · simp at h
end
end Go.Proofs.YtibhcmacccfakaaGreatDoor
namespace Go.Proofs.YtibhcmacccfakaaGreatDoor
variable [Tab]

section
variable {C : Call} {V : CallV} {e : Env}

/-- What does not look at the ghost heap does the same over any, and leaves it. -/
theorem effOp_any (o : GOp) (h : o.hr = false) (st st2 : St) : effOp C V e st2 o = (effOp C V e st o).map fun p => (p.1, p.2.1, st2) := by
  cases o <;> simp only [GOp.hr, Bool.not_eq_false', reduceCtorEq] at h <;> simp only [effOp, Option.map_none]
  case take t => rfl
  case bsl sz n z ps mu =>
    subst h
    cases fillElems e sz (List.replicate n z) ps <;> simp
  case loadTake a root heap =>
    subst h
    simp only [Option.bind_eq_bind]
    have hc : cellsAt e st2.heap root false 1 (adr e a) = cellsAt e st.heap root false 1 (adr e a) := by
      cases adr e a <;> simp [cellsAt]
    rw [hc]
    cases hq : cellsAt e st.heap root false 1 (adr e a) with
    | none => simp
    | some cs =>
      simp only [Option.bind_some]
      cases cs with
      | nil => simp
      | cons c r =>
        cases r with
        | cons _ _ => simp
        | nil =>
          simp only []
          cases ha : adr e a with
          | eptr _ => simp
          | ptr g w o => rw [ha] at hq; simp [cellsAt] at hq
          | _ => rw [writeAt_local (st := st) st2]; cases writeAt e st root false [cp c] _ <;> simp
  case store n a x root heap =>
    subst h
    simp only [Option.bind_eq_bind]
    split
    · rw [writeAt_local (st := st) st2]; cases writeAt e st root false _ _ <;> simp
    · rfl
  case storeTake a t root heap =>
    subst h
    simp only [Option.bind_eq_bind]
    rw [writeAt_local (st := st) st2]
    cases hw : writeAt e st root false [tk (get e t)] (adr e a) with
    | none => simp
    | some q =>
      obtain ⟨u, s⟩ := q
      simp only [Option.map_some, Option.bind_some]
      cases ha : adr e a <;> first | rfl | (rw [ha] at hw; simp [writeAt] at hw; done)
  case mkSlice sz bytes z l c pers =>
    subst h
    cases asNat (rd e l) <;> cases asNat (rd e c) <;> simp

theorem stepU_any (s : GStmt) (h : s.op.hr = false) (st st2 : St) : stepU C V e st2 s = (stepU C V e st s).map fun p => (p.1, st2) := by
  unfold stepU
  split
  · have : stepOp C V e st2 s.op = (stepOp C V e st s.op).map fun p => (p.1, p.2.1, st2) := by
      unfold stepOp
      split
      · cases pureOp e s.op <;> rfl
      · rename_i hk
        have : readOp e st2.heap s.op = readOp e st.heap s.op := by
          cases ho : s.op <;> rw [ho] at hk h <;> simp only [GOp.kind] at hk <;> simp only [GOp.hr] at h <;> first | omega | (simp at hk; done) | skip
          case load n isAgg a root heap =>
            subst h
            simp only [readOp]
            have hc : cellsAt e st2.heap root false n (adr e a) = cellsAt e st.heap root false n (adr e a) := by
              cases adr e a <;> simp [cellsAt]
            rw [hc]
          case lookup => simp at h
          case mentry => simp at h
          case len x k m =>
            subst h
            simp only [readOp]
            have hc : glen st2.heap false (rd e x) = glen st.heap false (rd e x) := by
              cases rd e x <;> simp [glen]
            rw [hc]
        rw [this]
        cases readOp e st.heap s.op <;> rfl
      · rw [effOp_any s.op h st st2]
    rw [this]
    cases stepOp C V e st s.op <;> rfl
  · rfl
  · rfl

/-- What does not change the ghost heap leaves it, but for permissions. -/
theorem effOp_keeps (o : GOp) (h : o.hw = false) {st : St} {v : GV} {u : Env} {st' : St} (he : effOp C V e st o = some (v, u, st')) :
    st'.heap = st.heap ∧ st'.ro = st.ro ∧ st'.base = st.base := by
  by_cases hr : o.hr = true
  case neg =>
    have hr : o.hr = false := by simpa using hr
    have := effOp_any (C := C) (V := V) (e := e) o hr st st
    rw [he] at this
    simp only [Option.map_some, Option.some.injEq, Prod.mk.injEq, true_and] at this
    rw [this]; exact ⟨rfl, rfl, rfl⟩
  cases o <;> simp only [GOp.hw, GOp.hr, reduceCtorEq, Bool.not_eq_false'] at h hr <;> simp only [effOp, reduceCtorEq] at he
  case loadTake a root heap =>
    simp only [Option.bind_eq_bind, Option.bind_eq_some_iff] at he
    obtain ⟨cs, _, he⟩ := he
    split at he
    · split at he
      · simp at he; obtain ⟨_, _, rfl⟩ := he; exact ⟨rfl, rfl, rfl⟩
      · split at he
        · split at he <;> (simp at he; obtain ⟨_, _, rfl⟩ := he; exact ⟨rfl, rfl, rfl⟩)
        · simp at he; obtain ⟨_, _, rfl⟩ := he; exact ⟨rfl, rfl, rfl⟩
      · rename_i h1 h2
        simp only [Option.bind_eq_some_iff, Option.some.injEq, Prod.mk.injEq] at he
        obtain ⟨⟨u', s'⟩, hw, _, _, rfl⟩ := he
        subst hr
        cases ha : adr e a <;> rw [ha] at hw <;> simp only [writeAt, reduceCtorEq] at hw
        · exact absurd ha (h2 _ _ _)
        · simp at hw
    · simp at he
  case append t y sz bytes mu hp =>
    subst h
    simp only [Option.bind_eq_bind, Option.bind_eq_some_iff, Option.some.injEq, Prod.mk.injEq] at he
    obtain ⟨ys, _, ⟨v', s'⟩, hd, _, _, rfl⟩ := he
    unfold doAppend at hd
    split at hd
    · split at hd
      · simp at hd; obtain ⟨_, rfl⟩ := hd; exact ⟨rfl, rfl, rfl⟩
      · split at hd
        · simp at hd
        · split at hd
          · simp at hd
          · simp at hd; obtain ⟨_, rfl⟩ := hd; exact ⟨rfl, rfl, rfl⟩
    · split at hd
      · simp at hd; obtain ⟨_, rfl⟩ := hd; exact ⟨rfl, rfl, rfl⟩
      · simp at hd
    · simp at hd
  case call f args pure =>
    subst h
    split at he
    · simp only [if_true] at he
      split at he
      · simp at he; obtain ⟨_, _, rfl⟩ := he; exact ⟨rfl, rfl, rfl⟩
      · simp only [Option.map_eq_some_iff, Prod.mk.injEq] at he
        obtain ⟨_, _, _, _, rfl⟩ := he; exact ⟨rfl, rfl, rfl⟩
    · simp at he
  all_goals (first | (simp at h; done) | (simp at hr; done) | (rw [h] at hr; simp at hr; done) | (simp_all; done))

/-- What neither changes the ghost heap nor asks for permissions leaves all, and does the same whatever the permissions are. -/
theorem effOp_noPerms (o : GOp) (h : o.hw = false) (hp : o.pw = false) (st : St) (q : List (Nat × Nat)) :
    effOp C V e { st with perms := q } o = (effOp C V e st o).map fun p => (p.1, p.2.1, { st with perms := q }) := by
  by_cases hr : o.hr = true
  case neg =>
    have hr : o.hr = false := by simpa using hr
    exact effOp_any o hr st _
  cases o <;> simp only [GOp.hw, GOp.hr, GOp.pw, reduceCtorEq, Bool.not_eq_false'] at h hr hp <;> simp only [effOp, Option.map_none]
  case append t y sz bytes mu hh =>
    subst h
    simp only [Option.bind_eq_bind]
    cases elems st.heap sz (rd e y) with
    | none => rfl
    | some ys =>
      simp only [Option.bind_some]
      unfold doAppend
      cases raw e t <;> simp only [Option.bind_none, Option.map_none]
      · split
        · simp
        · split
          · simp
          · split <;> simp
      · split <;> simp
  case call f args pure =>
    subst h
    simp only [if_true]
    cases callTo C V e f (List.map (rd e) args) { heap := st.heap, ro := st.heap.length, base := st.base, perms := [] } with
    | none => rfl
    | some r =>
      simp only []
      split
      · rfl
      · cases sealV st.heap.length r.2 12 r.1 <;> rfl
  all_goals (first | (simp at h; done) | (simp at hr; done) | (simp at hp; done) | (simp_all; done))

theorem stepU_keeps (s : GStmt) (h : s.op.hw = false) {st : St} {u : Env} {st' : St} (he : stepU C V e st s = some (u, st')) : st' = { st with perms := st'.perms } := by
  have key : ∀ {v : GV} {u : Env} {st' : St}, stepOp C V e st s.op = some (v, u, st') → st' = { st with perms := st'.perms } := by
    intro v u st' ho
    unfold stepOp at ho
    split at ho
    · split at ho
      · simp at ho; obtain ⟨_, _, rfl⟩ := ho; rfl
      · simp at ho
    · split at ho
      · simp at ho; obtain ⟨_, _, rfl⟩ := ho; rfl
      · simp at ho
    · obtain ⟨h1, h2, h3⟩ := effOp_keeps s.op h ho
      cases st'; simp_all
  unfold stepU at he
  split at he
  · split at he
    · rename_i ho
      simp only [Option.some.injEq, Prod.mk.injEq] at he
      obtain ⟨_, rfl⟩ := he
      exact key ho
    · simp at he
  · simp only [Option.some.injEq, Prod.mk.injEq] at he
    obtain ⟨_, rfl⟩ := he; rfl
  · simp at he

theorem stepU_noPerms (s : GStmt) (h : s.op.hw = false) (hp : s.op.pw = false) (st : St) (q : List (Nat × Nat)) :
    stepU C V e { st with perms := q } s = (stepU C V e st s).map fun p => (p.1, { st with perms := q }) := by
  have key : stepOp C V e { st with perms := q } s.op = (stepOp C V e st s.op).map fun p => (p.1, p.2.1, { st with perms := q }) := by
    unfold stepOp
    split
    · cases pureOp e s.op <;> rfl
    · cases readOp e st.heap s.op <;> rfl
    · exact effOp_noPerms s.op h hp st q
  unfold stepU
  rw [key]
  split
  · cases stepOp C V e st s.op <;> rfl
  · rfl
  · rfl

theorem apart_spec {a b : List Nat} (h : apart a b = true) : ∀ t, t ∈ a → t ∉ b := by
  intro t ht hb
  simp only [apart, List.all_eq_true, Bool.not_eq_true', List.contains_eq_mem] at h
  have := h t ht
  simp [hb] at this

/-- **The exchange.** -/
theorem stepU_swap (a b : GStmt) (hi : indep a b = true) {st : St} {ua ub : Env} {s1 s2 : St} (ha : stepU C V e st a = some (ua, s1))
    (hb : stepU C V (ua ++ e) s1 b = some (ub, s2)) : ∃ s1', stepU C V e st b = some (ub, s1') ∧ stepU C V (ub ++ e) s1' a = some (ua, s2) := by
  simp only [indep, Bool.and_eq_true, Bool.not_eq_true'] at hi
  obtain ⟨⟨⟨⟨h1, h2⟩, h3⟩, h4⟩, h5⟩ := hi
  have ka := stepU_keys a ha
  have eb : stepU C V (ua ++ e) s1 b = stepU C V e s1 b := stepU_congr b fun t ht => get_append_not fun p hp hpt => by
    subst hpt
    exact apart_spec h1 _ (ka p hp) (List.mem_append_left _ ht)
  rw [eb] at hb
  have kb := stepU_keys b hb
  have ea : ∀ s, stepU C V (ub ++ e) s a = stepU C V e s a := fun s => stepU_congr a fun t ht => get_append_not fun p hp hpt => by
    subst hpt
    exact apart_spec h2 _ (kb p hp) (List.mem_append_left _ ht)
  simp only [ea]
  by_cases hrb : b.op.hr = true
  case neg =>
    have hrb : b.op.hr = false := by simpa using hrb
    have q1 := stepU_any (C := C) (V := V) (e := e) b hrb s1 st
    have q2 := stepU_any (C := C) (V := V) (e := e) b hrb s1 s1
    rw [hb] at q1 q2
    simp only [Option.map_some, Option.some.injEq, Prod.mk.injEq, true_and] at q1 q2
    exact ⟨st, q1, by rw [q2]; exact ha⟩
  by_cases hra : a.op.hr = true
  case neg =>
    have hra : a.op.hr = false := by simpa using hra
    have q1 := stepU_any (C := C) (V := V) (e := e) a hra st st
    have q2 := stepU_any (C := C) (V := V) (e := e) a hra st s2
    rw [ha] at q1 q2
    simp only [Option.map_some, Option.some.injEq, Prod.mk.injEq, true_and] at q1 q2
    subst q1
    exact ⟨s2, hb, q2⟩
  have hwa : a.op.hw = false := by cases hq : a.op.hw <;> simp_all
  have hwb : b.op.hw = false := by cases hq : b.op.hw <;> simp_all
  by_cases hpb : b.op.pw = false
  · have k1 := stepU_keeps a hwa ha
    have q := stepU_noPerms (C := C) (V := V) (e := e) b hwb hpb st s1.perms
    rw [← k1, hb] at q
    have q0 := stepU_noPerms (C := C) (V := V) (e := e) b hwb hpb st st.perms
    cases hx : stepU C V e st b with
    | none => rw [hx] at q; simp at q
    | some r =>
      rw [hx] at q
      simp only [Option.map_some, Option.some.injEq, Prod.mk.injEq] at q
      have e0 : ({ st with perms := st.perms } : St) = st := rfl
      rw [e0, hx] at q0
      simp only [Option.map_some, Option.some.injEq] at q0
      refine ⟨st, by rw [q0, q.1], ?_⟩
      rw [ha, q.2]
  · have hpa : a.op.pw = false := by cases hq : a.op.pw <;> simp_all
    have q0 := stepU_noPerms (C := C) (V := V) (e := e) a hwa hpa st st.perms
    have e0 : ({ st with perms := st.perms } : St) = st := rfl
    rw [e0, ha] at q0
    simp only [Option.map_some, Option.some.injEq, Prod.mk.injEq, true_and] at q0
    have q1 : s1 = st := q0
    rw [q1] at hb ha
    have k2 := stepU_keeps b hwb hb
    have q := stepU_noPerms (C := C) (V := V) (e := e) a hwa hpa st s2.perms
    rw [← k2, ha] at q
    exact ⟨s2, hb, by simpa using q⟩
end
end Go.Proofs.YtibhcmacccfakaaGreatDoor
namespace Go.Proofs.YtibhcmacccfakaaGreatDoor
variable [Tab]

def EnvEq (e e' : Env) : Prop := ∀ t, get e t = get e' t
theorem EnvEq.refl (e : Env) : EnvEq e e := fun _ => rfl
theorem EnvEq.symm {e e' : Env} (h : EnvEq e e') : EnvEq e' e := fun t => (h t).symm
theorem EnvEq.trans {e e' e'' : Env} (h : EnvEq e e') (h' : EnvEq e' e'') : EnvEq e e'' := fun t => (h t).trans (h' t)

theorem get_append_mem {t : Nat} : ∀ {u : Env} (e e' : Env), (∃ p, p ∈ u ∧ p.1 = t) → get (u ++ e) t = get (u ++ e') t
  | [], _, _, h => by simp at h
  | (k, v) :: r, e, e', h => by
    simp only [List.cons_append, get]
    by_cases hk : k = t
    · simp [hk]
    · rw [if_neg hk, if_neg hk]
      refine get_append_mem e e' ?_
      obtain ⟨p, hp, hpt⟩ := h
      simp only [List.mem_cons] at hp
      rcases hp with rfl | hp
      · exact absurd hpt hk
      · exact ⟨p, hp, hpt⟩
theorem EnvEq.append {e e' : Env} (u : Env) (h : EnvEq e e') : EnvEq (u ++ e) (u ++ e') := fun t => by
  by_cases hm : ∃ p, p ∈ u ∧ p.1 = t
  · exact get_append_mem e e' hm
  · have hn : ∀ p, p ∈ u → p.1 ≠ t := fun p hp hpt => hm ⟨p, hp, hpt⟩
    rw [get_append_not hn, get_append_not hn]; exact h t
theorem EnvEq.swap {ua ub : Env} (e : Env) (h : ∀ p q, p ∈ ua → q ∈ ub → p.1 ≠ q.1) : EnvEq (ub ++ (ua ++ e)) (ua ++ (ub ++ e)) := fun t => by
  by_cases ha : ∃ p, p ∈ ua ∧ p.1 = t
  · have hb : ∀ q, q ∈ ub → q.1 ≠ t := fun q hq hqt => by
      obtain ⟨p, hp, hpt⟩ := ha
      exact h p q hp hq (hpt.trans hqt.symm)
    rw [get_append_not hb]
    exact get_append_mem _ _ ha
  · have hn : ∀ p, p ∈ ua → p.1 ≠ t := fun p hp hpt => ha ⟨p, hp, hpt⟩
    rw [get_append_not hn]
    by_cases hb : ∃ q, q ∈ ub ∧ q.1 = t
    · exact get_append_mem _ _ hb
    · have hm : ∀ p, p ∈ ub → p.1 ≠ t := fun p hp hpt => hb ⟨p, hp, hpt⟩
      rw [get_append_not hm, get_append_not hm, get_append_not hn]

section
variable (C : Call) (V : CallV) (gs : List GStmt)

def runIdx : List Nat → Env → St → Option (Env × St)
  | [], e, st => some (e, st)
  | i :: r, e, st => match gs[i]? with
    | none => none
    | some s => match stepU C V e st s with
      | some (u, st) => runIdx r (u ++ e) st
      | none => none

variable {C V gs}
theorem runIdx_congr : ∀ {l : List Nat} {e e' : Env} {st : St} {e1 : Env} {s1 : St}, EnvEq e e' → runIdx C V gs l e st = some (e1, s1) →
    ∃ e1', runIdx C V gs l e' st = some (e1', s1) ∧ EnvEq e1 e1'
  | [], e, e', st, e1, s1, he, h => by
    simp only [runIdx, Option.some.injEq, Prod.mk.injEq] at h
    obtain ⟨rfl, rfl⟩ := h
    exact ⟨e', rfl, he⟩
  | i :: r, e, e', st, e1, s1, he, h => by
    simp only [runIdx] at h ⊢
    cases hg : gs[i]? with
    | none => rw [hg] at h; simp at h
    | some s =>
      rw [hg] at h
      simp only at h ⊢
      rw [← stepU_congr (e := e) (e' := e') s fun t _ => he t]
      cases hs : stepU C V e st s with
      | none => rw [hs] at h; simp at h
      | some q =>
        obtain ⟨u, st1⟩ := q
        rw [hs] at h
        simp only at h ⊢
        exact runIdx_congr (he.append u) h

theorem runIdx_first : ∀ {p : List Nat} {i : Nat} {s : GStmt} {q : List Nat} {e : Env} {st : St} {e1 : Env} {s1 : St}, gs[i]? = some s →
    (∀ y, y ∈ p → ∀ sy, gs[y]? = some sy → indep sy s = true) → runIdx C V gs (p ++ i :: q) e st = some (e1, s1) →
    ∃ u st', stepU C V e st s = some (u, st') ∧ ∃ e1', runIdx C V gs (p ++ q) (u ++ e) st' = some (e1', s1) ∧ EnvEq e1 e1'
  | [], i, s, q, e, st, e1, s1, hi, _, h => by
    simp only [List.nil_append, runIdx, hi] at h
    cases hs : stepU C V e st s with
    | none => rw [hs] at h; simp at h
    | some r =>
      obtain ⟨u, st'⟩ := r
      rw [hs] at h
      exact ⟨u, st', rfl, e1, h, .refl _⟩
  | y :: p, i, s, q, e, st, e1, s1, hi, hp, h => by
    simp only [List.cons_append, runIdx] at h
    cases hg : gs[y]? with
    | none => rw [hg] at h; simp at h
    | some sy =>
      rw [hg] at h
      simp only at h
      cases hs : stepU C V e st sy with
      | none => rw [hs] at h; simp at h
      | some r =>
        obtain ⟨ua, sa⟩ := r
        rw [hs] at h
        simp only at h
        obtain ⟨ub, sb, hb, e1', hr, heq⟩ := runIdx_first hi (fun z hz => hp z (List.mem_cons_of_mem _ hz)) h
        have hin := hp y List.mem_cons_self sy hg
        obtain ⟨s1', hb', ha'⟩ := stepU_swap sy s hin hs hb
        refine ⟨ub, s1', hb', ?_⟩
        simp only [List.cons_append, runIdx, hg, ha']
        have hk : ∀ p q, p ∈ ua → q ∈ ub → p.1 ≠ q.1 := fun p q hp hq hpq => by
          have h1 := stepU_keys sy hs p hp
          have h2 := stepU_keys s hb q hq
          simp only [indep, Bool.and_eq_true] at hin
          exact apart_spec hin.1.1.1.1 _ h1 (List.mem_append_right _ (hpq ▸ h2))
        obtain ⟨e2, hr2, heq2⟩ := runIdx_congr (EnvEq.swap e hk) hr
        exact ⟨e2, hr2, heq.trans heq2⟩

theorem runIdx_range : ∀ (k : Nat) (e : Env) (st : St) (l : List GStmt), gs.drop k = l →
    runIdx C V gs (List.range' k l.length) e st = runOps C V l e st
  | k, e, st, [], _ => rfl
  | k, e, st, s :: l, h => by
    have hk : gs[k]? = some s := by
      have := congrArg (fun x => x[0]?) h
      simpa using this
    have hd : gs.drop (k + 1) = l := by
      have := congrArg List.tail h
      simpa using this
    simp only [List.length_cons, List.range'_succ, runIdx, hk, runOps, step]
    cases stepU C V e st s with
    | none => rfl
    | some r => exact runIdx_range (k + 1) _ _ l hd
end

/-! ### Edges -/
theorem masks_prefix : ∀ (ops : List Oper) (acc : List Nat) (k : Nat), k < acc.length → (masks ops acc).getD k 0 = acc.getD k 0
  | [], _, _, _ => rfl
  | o :: r, acc, k, h => by
    simp only [masks]
    rw [masks_prefix r _ k (by simp; omega)]
    simp [List.getElem?_append_left h]

theorem fold_bit (acc : List Nat) (i : Nat) : ∀ (l : List Edge) (m : Nat),
    (l.foldl (fun m e => if Region.binds .any e then m ||| 2 ^ e.on ||| acc.getD e.on 0 else m) m).testBit i = true →
    m.testBit i = true ∨ ∃ e, e ∈ l ∧ Region.binds .any e = true ∧ (i = e.on ∨ (acc.getD e.on 0).testBit i = true)
  | [], m, h => .inl h
  | e :: r, m, h => by
    simp only [List.foldl_cons] at h
    rcases fold_bit acc i r _ h with h | ⟨e', he, hb, hi⟩
    · by_cases hbe : Region.binds .any e = true
      · rw [if_pos hbe] at h
        simp only [Nat.testBit_or, Bool.or_eq_true] at h
        rcases h with (h | h) | h
        · exact .inl h
        · refine .inr ⟨e, List.mem_cons_self, hbe, .inl ?_⟩
          rw [Nat.testBit_two_pow] at h
          exact (of_decide_eq_true h).symm
        · exact .inr ⟨e, List.mem_cons_self, hbe, .inr h⟩
      · rw [if_neg hbe] at h; exact .inl h
    · exact .inr ⟨e', List.mem_cons_of_mem _ he, hb, hi⟩

theorem getD_bit_lt {acc : List Nat} {k i : Nat} (h : (acc.getD k 0).testBit i = true) : k < acc.length := by
  rcases Nat.lt_or_ge k acc.length with hk | hk
  · exact hk
  · rw [List.getD_eq_getElem?_getD, List.getElem?_eq_none hk] at h; simp at h

theorem masks_spec : ∀ (ops : List Oper) (acc : List Nat) (j i : Nat) (o : Oper), ops[j]? = some o →
    ((masks ops acc).getD (acc.length + j) 0).testBit i = true →
    ∃ e, e ∈ o.after.toList ∧ Region.binds .any e = true ∧ (i = e.on ∨ (e.on < acc.length + j ∧ ((masks ops acc).getD e.on 0).testBit i = true))
  | [], _, _, _, _, h, _ => by simp at h
  | o' :: r, acc, 0, i, o, h, hb => by
    simp only [List.getElem?_cons_zero, Option.some.injEq] at h
    subst h
    simp only [masks] at hb ⊢
    rw [masks_prefix r _ _ (by simp)] at hb
    simp only [Nat.add_zero, List.getD_eq_getElem?_getD, List.getElem?_append_right (Nat.le_refl _), Nat.sub_self, List.getElem?_cons_zero, Option.getD_some] at hb
    rcases fold_bit acc i o'.after.toList 0 (by simpa [List.getD_eq_getElem?_getD] using hb) with hz | ⟨e, he, hbe, hi⟩
    · simp at hz
    · refine ⟨e, he, hbe, ?_⟩
      rcases hi with hi | hi
      · exact .inl hi
      · have hlt := getD_bit_lt hi
        refine .inr ⟨by omega, ?_⟩
        rw [masks_prefix r _ _ (by simp; omega)]
        simpa [List.getD_eq_getElem?_getD, List.getElem?_append_left hlt] using hi
  | o' :: r, acc, j + 1, i, o, h, hb => by
    simp only [List.getElem?_cons_succ] at h
    simp only [masks] at hb ⊢
    have := masks_spec r (acc ++ [o'.after.toList.foldl (fun m e => if Region.binds .any e then m ||| 2 ^ e.on ||| acc.getD e.on 0 else m) 0]) j i o h
      (by simpa [Nat.add_assoc, Nat.add_comm 1 j] using hb)
    obtain ⟨e, he, hbe, hi⟩ := this
    refine ⟨e, he, hbe, hi.imp id fun q => ⟨?_, q.2⟩⟩
    have := q.1
    simp at this
    omega
end Go.Proofs.YtibhcmacccfakaaGreatDoor
namespace Go.Proofs.YtibhcmacccfakaaGreatDoor
variable [Sym]

/-- A place that can hold a slice with the permission to grow: a slot, a variable's cell, a cell of a ghost block. -/
inductive PLoc where
  | slot (s : Nat) | cell (s i : Nat) | hcell (g i : Nat)
  deriving DecidableEq

/-- Whose a real block is. `other`: nobody's who writes (immutable, or of a caller). -/
inductive Tag where
  | other | heap (g : Nat) | box (s : Nat) | perm (l : PLoc) | defer (g : Nat)
  deriving DecidableEq

structure Own where
  M : Mem
  K : KMap
  B : Nat → Tag

/-- The slice x may grow in place: what lies behind it in its block is this place's alone. -/
def Perm (O : Own) (w : World) (l : PLoc) (sz len : Nat) (x : Value) : Prop :=
  ∃ b o cap rc ty, x = .slice (some ⟨b, o, none⟩) len cap ∧ O.B b = .perm l ∧ w.heap[b]? = some (.cells rc ty (0, 0)) ∧ o + cap * sz ≤ rc.size ∧
    ∀ j, o + len * sz ≤ j → O.M b j = none

def CRel (O : Own) (w : World) (l : PLoc) (v : GV) (x : Value) : Prop :=
  VRel O.M O.K (cp v) x ∧ ∀ sz b xs, v = .sl sz b .own xs → Perm O w l sz xs.length x

def BoxRel (O : Own) (w : World) (t : Nat) (cs : List GV) (x : Value) : Prop :=
  ∃ b rc ty, x = .pointer (some ⟨b, 0, none⟩) ∧ O.B b = .box t ∧ w.heap[b]? = some (.cells rc ty (0, 0)) ∧ rc.size = cs.length ∧
    ∀ (i : Nat) (c : GV) (y : Value), cs[i]? = some c → rc[i]? = some y → CRel O w (.cell t i) c y

def SlotRel (O : Own) (w : World) (t : Nat) (v : GV) (x : Value) : Prop := match v with
  | .box cs => BoxRel O w t cs x
  | .lptr s o => ∃ b, x = .pointer (some ⟨b, o, none⟩) ∧ O.B b = .box s
  | v => CRel O w (.slot t) v x

/-- A frame's slots. An address of a variable is one of the variable that the slot holds now. -/
structure EnvRel (O : Own) (w : World) (e : Env) (tmps : Array Value) : Prop where
  slot : ∀ t, SlotRel O w t (get e t) (tmps.getD t undef)
  lptr : ∀ t s o cs, get e t = .lptr s o → get e s = .box cs → ∃ b, tmps.getD t undef = .pointer (some ⟨b, o, none⟩) ∧ tmps.getD s undef = .pointer (some ⟨b, 0, none⟩)

def toCode : GE → Option Code
  | .normal => none
  | .exit i => some (.exit i)
  | .ret => some .ret

/-- Where the map that is ranged over lies. -/
def MapAt (K : KMap) : Option Nat → Option Nat → Prop
  | none, r => r = none
  | some m, r => ∃ k b, K m = some k ∧ r = some b ∧ (k.ver = 0 → k.b = b)
theorem MapAt.mono {K K' : KMap} (hK : KLe K K') : ∀ {m r : Option Nat}, MapAt K m r → MapAt K' m r
  | none, _, h => h
  | some m, _, ⟨k, b, h1, h2, h3⟩ => by
    obtain ⟨k', e1, e2, e3⟩ := hK m k h1
    refine ⟨k', b, e1, h2, fun h => ?_⟩
    have hk := e3 (by omega)
    subst hk
    exact h3 h

def ObjRel (P : Program) (G : Glob) (O : Own) (w : World) (g : Nat) : GObj → Prop
  | .dead => True
  | .cells ver cs => ∃ k rc ty, O.K g = some k ∧ k.ver = ver ∧ O.B k.b = .heap g ∧ w.heap[k.b]? = some (.cells rc ty (0, 0)) ∧ rc.size = k.size ∧
      k.o + cs.length ≤ rc.size ∧ ∀ (i : Nat) (c : GV) (y : Value), cs[i]? = some c → rc[k.o + i]? = some y → VRel O.M O.K c y
  | .map es => ∃ k res clock, O.K g = some k ∧ k.ver = 0 ∧ O.B k.b = .heap g ∧ w.heap[k.b]? = some (.map res clock) ∧ (res.size = es.length ∧ clock = es.length ∧ ∀ (i : Nat) (y : MapEntry), res[i]? = some y → y.born = i) ∧
      ∀ (i : Nat) (c : GV × GV) (y : MapEntry), es[i]? = some c → res[i]? = some y → VRel O.M O.K c.1 y.key ∧ VRel O.M O.K c.2 y.val
  | .iter s pos => ∃ k, O.K g = some k ∧ k.ver = 0 ∧ k.o = 0 ∧ O.B k.b = .heap g ∧ w.heap[k.b]? = some (.stringIter ⟨s.toArray⟩ pos)
  | .miter m since seen last => ∃ k mr, O.K g = some k ∧ k.ver = 0 ∧ k.o = 0 ∧ O.B k.b = .heap g ∧ w.heap[k.b]? = some (.mapIter mr since seen.toArray last) ∧ MapAt O.K m mr
  | .loop e ps a b _ s p => ∃ k tmps A Bc d g' fn', O.K g = some k ∧ k.ver = 0 ∧ O.B k.b = .heap g ∧
      w.heap[k.b]? = some (.loop { state := s, pending := p.bind toCode, fn := fn', tmps, params := ps.toArray, assign := A, body := Bc, defers := d }) ∧
      okCode P G tmps.size A a = true ∧ okCode P G tmps.size Bc b = true ∧ (∀ t, t ∈ ps → t < tmps.size) ∧ ps.Nodup ∧ (∀ t, VRel O.M O.K (get e t) (tmps.getD t undef)) ∧
      g' ≤ g ∧ O.B d = .defer g' ∧ w.heap[d]? = some (.deferred (some []))

/-- The slice that lies in cell i of ghost block g may grow in place. -/
def PermAt (O : Own) (w : World) (hp : List GObj) (g i : Nat) : Prop :=
  ∀ ver cs sz b c xs k y, hp[g]? = some (.cells ver cs) → cs[i]? = some (.sl sz b c xs) → O.K g = some k → w.cell? ⟨k.b, k.o + i, none⟩ = some y →
    Perm O w (.hcell g i) sz xs.length y

structure HInv (P : Program) (G : Glob) (O : Own) (st : St) (w : World) : Prop where
  obj : ∀ g o, st.heap[g]? = some o → ObjRel P G O w g o
  perm : ∀ g i, (g, i) ∈ st.perms → PermAt O w st.heap g i
  mem : ∀ b o v, O.M b o = some v → w.cell? ⟨b, o, none⟩ = some v ∧ (O.B b = .other ∨ ∃ l, O.B b = .perm l)
  fresh : ∀ b, w.heap.size ≤ b → O.B b = .other ∧ ∀ o, O.M b o = none
  glob : ∀ g vs, G g = some vs → ∀ (i : Nat) (v : Value), vs[i]? = some v → O.M g i = some v
  kdom : ∀ g, st.heap.length ≤ g → O.K g = none
  pdom : ∀ g i, (g, i) ∈ st.perms → g < st.heap.length

/-- What has become of the world: blocks whose tag is not touched are as they were; the immutable memory has grown; ghost blocks are where they were or have turned. -/
structure Stp (τ : Tag → Prop) (O : Own) (w : World) (O' : Own) (w' : World) : Prop where
  mem : MLe O.M O'.M
  kmap : KLe O.K O'.K
  size : w.heap.size ≤ w'.heap.size
  os : w'.os = w.os
  tape : w'.tape = w.tape
  output : w'.output = w.output
  same : ∀ b, b < w.heap.size → ¬ τ (O.B b) → w'.heap[b]? = w.heap[b]? ∧ O'.B b = O.B b ∧ ∀ o, O'.M b o = O.M b o
  ksame : ∀ g k, O.K g = some k → k.b < w.heap.size → O.B k.b = .heap g → ¬ τ (.heap g) → O'.K g = some k

abbrev notOther (t : Tag) : Prop := t ≠ .other
/-- What a call promises of blocks that are nobody's. -/
abbrev Ext (O : Own) (w : World) (O' : Own) (w' : World) : Prop := Stp notOther O w O' w'

theorem Stp.refl (τ : Tag → Prop) (O : Own) (w : World) : Stp τ O w O w := ⟨.refl _, .refl _, Nat.le_refl _, rfl, rfl, rfl, fun _ _ _ => ⟨rfl, rfl, fun _ => rfl⟩, fun _ _ h _ _ _ => h⟩
theorem Stp.weak {τ τ' : Tag → Prop} {O O' : Own} {w w' : World} (h : Stp τ O w O' w') (ht : ∀ t, τ t → τ' t) : Stp τ' O w O' w' :=
  ⟨h.mem, h.kmap, h.size, h.os, h.tape, h.output, fun b hb hn => h.same b hb fun q => hn (ht _ q), fun g k e hb hB hn => h.ksame g k e hb hB fun q => hn (ht _ q)⟩
theorem Stp.trans {τ : Tag → Prop} {O O' O'' : Own} {w w' w'' : World} (h : Stp τ O w O' w') (h' : Stp τ O' w' O'' w'') : Stp τ O w O'' w'' :=
  ⟨h.mem.trans h'.mem, h.kmap.trans h'.kmap, Nat.le_trans h.size h'.size, h'.os.trans h.os, h'.tape.trans h.tape, h'.output.trans h.output, fun b hb ht => by
    obtain ⟨a1, a2, a3⟩ := h.same b hb ht
    obtain ⟨b1, b2, b3⟩ := h'.same b (Nat.lt_of_lt_of_le hb h.size) (by rw [a2]; exact ht)
    exact ⟨b1.trans a1, b2.trans a2, fun o => (b3 o).trans (a3 o)⟩, fun g k e hb hB hn => by
    obtain ⟨_, a2, _⟩ := h.same k.b hb (by rw [hB]; exact hn)
    exact h'.ksame g k (h.ksame g k e hb hB hn) (Nat.lt_of_lt_of_le hb h.size) (a2.trans hB) hn⟩

section
variable {τ : Tag → Prop} {O O' : Own} {w w' : World}
theorem Stp.vrel (s : Stp τ O w O' w') {v : GV} {x : Value} (h : VRel O.M O.K v x) : VRel O'.M O'.K v x := h.mono s.mem s.kmap
theorem lt_of_heap {b : Nat} {o : Obj} (h : w.heap[b]? = some o) : b < w.heap.size := (Array.getElem?_eq_some_iff.1 h).1
theorem Stp.perm (s : Stp τ O w O' w') {l : PLoc} {sz len : Nat} {x : Value} (h : Perm O w l sz len x) (hτ : ¬ τ (.perm l)) : Perm O' w' l sz len x := by
  obtain ⟨b, o, cap, rc, ty, rfl, hB, hh, hc, hM⟩ := h
  obtain ⟨e1, e2, e3⟩ := s.same b (lt_of_heap hh) (by rw [hB]; exact hτ)
  exact ⟨b, o, cap, rc, ty, rfl, e2.trans hB, e1.trans hh, hc, fun j hj => (e3 j).trans (hM j hj)⟩
theorem Stp.crel (s : Stp τ O w O' w') {l : PLoc} {v : GV} {x : Value} (h : CRel O w l v x) (hτ : ¬ τ (.perm l)) : CRel O' w' l v x :=
  ⟨s.vrel h.1, fun sz b xs e => s.perm (h.2 sz b xs e) hτ⟩
theorem Stp.boxRel (s : Stp τ O w O' w') {t : Nat} {cs : List GV} {x : Value} (h : BoxRel O w t cs x) (hτ : ¬ τ (.box t)) (hp : ∀ i, ¬ τ (.perm (.cell t i))) :
    BoxRel O' w' t cs x := by
  obtain ⟨b, rc, ty, rfl, hB, hh, hs, hc⟩ := h
  obtain ⟨e1, e2, _⟩ := s.same b (lt_of_heap hh) (by rw [hB]; exact hτ)
  exact ⟨b, rc, ty, rfl, e2.trans hB, e1.trans hh, hs, fun i c y e e' => s.crel (hc i c y e e') (hp i)⟩
theorem Stp.slotRel (s : Stp τ O w O' w') (hbox : ∀ b s, O.B b = .box s → O'.B b = .box s) {t : Nat} {v : GV} {x : Value} (h : SlotRel O w t v x) (hτ : ¬ τ (.box t))
    (h1 : ¬ τ (.perm (.slot t))) (hp : ∀ i, ¬ τ (.perm (.cell t i))) : SlotRel O' w' t v x := by
  cases v with
  | box cs => exact s.boxRel h hτ hp
  | lptr r o => obtain ⟨b, e, hB⟩ := h; exact ⟨b, e, hbox b r hB⟩
  | _ => exact s.crel h h1
theorem Stp.envRel (s : Stp τ O w O' w') (hbox : ∀ b s, O.B b = .box s → O'.B b = .box s) {e : Env} {tmps : Array Value} (h : EnvRel O w e tmps) (hτ : ∀ t, ¬ τ (.box t))
    (h1 : ∀ t, ¬ τ (.perm (.slot t))) (hp : ∀ t i, ¬ τ (.perm (.cell t i))) : EnvRel O' w' e tmps :=
  ⟨fun t => s.slotRel hbox (h.slot t) (hτ t) (h1 t) (hp t), h.lptr⟩

theorem Stp.objRel (s : Stp τ O w O' w') {P : Program} {G : Glob} {g : Nat} {o : GObj} (h : ObjRel P G O w g o) (hτ : ¬ τ (.heap g)) (hd : ∀ g', g' ≤ g → ¬ τ (.defer g')) :
    ObjRel P G O' w' g o := by
  have kk : ∀ {k : KI} {ob : Obj}, O.K g = some k → O.B k.b = .heap g → w.heap[k.b]? = some ob → O'.K g = some k ∧ O'.B k.b = .heap g ∧ w'.heap[k.b]? = some ob := fun {k ob} hK hB hh => by
    obtain ⟨e1, e2, _⟩ := s.same k.b (lt_of_heap hh) (by rw [hB]; exact hτ)
    exact ⟨s.ksame g k hK (lt_of_heap hh) hB hτ, e2.trans hB, e1.trans hh⟩
  cases o with
  | dead => trivial
  | cells ver cs =>
    obtain ⟨k, rc, ty, hK, hv, hB, hh, h1, h2, h3⟩ := h
    obtain ⟨a1, a2, a3⟩ := kk hK hB hh
    exact ⟨k, rc, ty, a1, hv, a2, a3, h1, h2, fun i c y e e' => s.vrel (h3 i c y e e')⟩
  | map es =>
    obtain ⟨k, res, clock, hK, hv, hB, hh, h1, h2⟩ := h
    obtain ⟨a1, a2, a3⟩ := kk hK hB hh
    exact ⟨k, res, clock, a1, hv, a2, a3, h1, fun i c y e e' => ⟨s.vrel (h2 i c y e e').1, s.vrel (h2 i c y e e').2⟩⟩
  | iter str pos =>
    obtain ⟨k, hK, hv, ho, hB, hh⟩ := h
    obtain ⟨a1, a2, a3⟩ := kk hK hB hh
    exact ⟨k, a1, hv, ho, a2, a3⟩
  | miter m since seen last =>
    obtain ⟨k, mr, hK, hv, ho, hB, hh, hm⟩ := h
    obtain ⟨a1, a2, a3⟩ := kk hK hB hh
    exact ⟨k, mr, a1, hv, ho, a2, a3, hm.mono s.kmap⟩
  | loop e ps a b fn st p =>
    obtain ⟨k, tmps, A, Bc, d, g', fn', hK, hv, hB, hh, h1, h2, h3, hn, h4, h5, h6, h7⟩ := h
    obtain ⟨a1, a2, a3⟩ := kk hK hB hh
    obtain ⟨e1, e2, _⟩ := s.same d (lt_of_heap h7) (by rw [h6]; exact hd g' h5)
    exact ⟨k, tmps, A, Bc, d, g', fn', a1, hv, a2, a3, h1, h2, h3, hn, fun t => s.vrel (h4 t), h5, e2.trans h6, e1.trans h7⟩
end

/-- **What a call is: over every world of which the arguments and the ghost heap speak, it comes to a result and a heap of which these speak.** -/
def Triple (P : Program) (G : Glob) (f : FuncId) (args : List GV) (st : St) (v : GV) (st' : St) : Prop :=
  ∀ (O : Own) (w : World) (xs : Array Value), xs.size = args.length → (∀ (i : Nat) (c : GV) (x : Value), args[i]? = some c → xs[i]? = some x → VRel O.M O.K c x) →
    HInv P G O st w → Calls P f xs w fun e w' => ∃ x O', e = .returned x ∧ VRel O'.M O'.K v x ∧ HInv P G O' st' w' ∧ Ext O w O' w'
end Go.Proofs.YtibhcmacccfakaaGreatDoor
namespace Go.Proofs.YtibhcmacccfakaaGreatDoor
variable [Sym]

theorem okCL_length : ∀ {vs : List Value} {cs : List GV}, okCL vs cs = true → vs.length = cs.length
  | [], [], _ => rfl
  | [], _ :: _, h => by simp [okCL] at h
  | _ :: _, [], h => by simp [okCL] at h
  | v :: r, c :: q, h => by
    simp only [okCL, Bool.and_eq_true] at h
    simp [okCL_length h.2]
theorem okCL_get : ∀ {vs : List Value} {cs : List GV} {i : Nat} {v : Value} {c : GV}, okCL vs cs = true → vs[i]? = some v → cs[i]? = some c → okC v c = true
  | [], _, _, _, _, _, h, _ => by simp at h
  | _ :: _, [], _, _, _, _, _, h => by simp at h
  | v :: r, c :: q, 0, v', c', h, h1, h2 => by
    simp only [okCL, Bool.and_eq_true] at h
    simp at h1 h2; subst h1 h2; exact h.1
  | v :: r, c :: q, i + 1, v', c', h, h1, h2 => by
    simp only [okCL, Bool.and_eq_true] at h
    exact okCL_get h.2 (by simpa using h1) (by simpa using h2)

section
variable {M : Mem} {K : KMap}
mutual
theorem okC_rel : ∀ (g : GV) (v : Value), okC v g = true → VRel M K g v
  | .undef, v, _ => .undef v
  | .bool b, v, h => by
    unfold okC at h
    split at h
    · simp at h; subst h; exact .bool _
    · simp at h
  | .int k n, v, h => by
    unfold okC at h
    split at h
    · simp at h; obtain ⟨rfl, rfl⟩ := h; exact .int _ _
    · simp at h
  | .str s, v, h => by
    unfold okC at h
    split at h
    · simp at h; subst h; exact .str _
    · simp at h
  | .nilptr, v, h => by
    unfold okC at h
    split at h
    · exact .nilptr
    · simp at h
  | .ptr .., v, h => by simp [okC] at h
  | .eptr _, v, h => by simp [okC] at h
  | .lptr .., v, h => by simp [okC] at h
  | .sl sz b c xs, v, h => by
    unfold okC at h
    split at h
    · simp only [Bool.and_eq_true, beq_iff_eq, List.isEmpty_iff] at h
      obtain ⟨⟨rfl, rfl⟩, rfl⟩ := h
      exact .slnil _ _ (by decide)
    · simp at h
  | .msl .., v, h => by simp [okC] at h
  | .nilmap, v, h => by
    unfold okC at h
    split at h
    · exact .nilmap
    · simp at h
  | .map _, v, h => by simp [okC] at h
  | .func .., v, h => by simp [okC] at h
  | .nilfunc, v, h => by
    unfold okC at h
    split at h
    · exact .nilfunc
    · simp at h
  | .iface .., v, h => by simp [okC] at h
  | .niliface, v, h => by
    unfold okC at h
    split at h
    · exact .niliface
    · simp at h
  | .agg cs, v, h => by
    unfold okC at h
    split at h
    · exact .agg (by simpa using okCL_length h) fun i c v e e' => okCL_rel cs i c e v (okCL_get h (by simpa using e') e)
    · simp at h
  | .tuple cs, v, h => by
    unfold okC at h
    split at h
    · exact .tuple (by simpa using okCL_length h) fun i c v e e' => okCL_rel cs i c e v (okCL_get h (by simpa using e') e)
    · simp at h
  | .box _, v, h => by simp [okC] at h
  | .sym _, v, h => by simp [okC] at h
theorem okCL_rel : ∀ (cs : List GV) (i : Nat) (c : GV), cs[i]? = some c → ∀ v, okC v c = true → VRel M K c v
  | [], _, _, e, _, _ => by simp at e
  | x :: _, 0, c, e, v, h => by simp at e; subst e; exact okC_rel x v h
  | _ :: r, i + 1, c, e, v, h => okCL_rel r i c (by simpa using e) v h
end
end

/-- What an address in a frame says. -/
def ARel (O : Own) (e : Env) (tmps : Array Value) (v : GV) (x : Value) : Prop := match v with
  | .lptr s o => ∃ b, x = .pointer (some ⟨b, o, none⟩) ∧ O.B b = .box s ∧ ∀ cs, get e s = .box cs → tmps.getD s undef = .pointer (some ⟨b, 0, none⟩)
  | v => VRel O.M O.K v x

section
variable {P : Program} {G : Glob} {O : Own} {w : World} {e : Env} {a : Act} {st : St}

theorem okX_global {g : Nat} {v : GV} (h : okX G (.global g) (.c v) = true) : ∃ cs vs, v = .eptr cs ∧ G g = some vs ∧ okCL vs cs = true := by
  unfold okX at h
  split at h
  · rename_i h1 _; cases h1
  · rename_i h1 _; cases h1
  · rename_i h1 _; cases h1
  · rename_i g' cs h1 h2
    cases h1; cases h2
    cases hg : G g with
    | none => rw [hg] at h; simp at h
    | some vs => rw [hg] at h; exact ⟨cs, vs, rfl, rfl, h⟩
  · simp at h
theorem okX_func {f : Nat} {v : GV} (h : okX G (.func f) (.c v) = true) : v = .func (.func f) [] [] := by
  unfold okX at h
  split at h
  · rename_i h1 _; cases h1
  · rename_i h1 _; cases h1
  · rename_i f1 f2 h1 h2
    cases h1; cases h2
    simp at h; rw [h]
  · rename_i h1 _; cases h1
  · simp at h

theorem rd_rel (he : EnvRel O w e a.tmps) (hh : HInv P G O st w) {X : Operand} {gx : GX} (h : okX G X gx = true) : VRel O.M O.K (rd e gx) (a.eval X) := by
  cases gx with
  | s t' =>
    cases X <;> first | (simp [okX] at h; done) | skip
    rename_i t
    have h : t = t' := by simpa [okX] using h
    subst h
    have hs := he.slot t
    simp only [rd, Act.eval]
    cases hv : get e t <;> rw [hv] at hs <;> simp only [SlotRel] at hs <;> first | exact hs.1 | exact .undef _
  | c v =>
    cases X with
    | tmp t => simp [okX] at h
    | const u =>
      have hr : VRel O.M O.K v u := okC_rel v u h
      show VRel O.M O.K (cp v) u
      rw [hr.cp_eq]; exact hr
    | global g =>
      obtain ⟨cs, vs, rfl, hg, h⟩ := okX_global h
      have hl := okCL_length h
      have key : ∀ (i : Nat) (c : GV), cs[i]? = some c → ∃ v, vs[i]? = some v ∧ okC v c = true := fun i c hc => by
        have hi := (List.getElem?_eq_some_iff.1 hc).1
        have e1 : vs[i]? = some (vs[i]'(by omega)) := List.getElem?_eq_getElem _
        exact ⟨_, e1, okCL_get h e1 hc⟩
      simp only [rd, Act.eval]
      refine .eptr (f := fun i => vs.getD i undef) (fun i hi => ?_) fun i c hc => ?_
      · obtain ⟨v, e1, _⟩ := key i _ (List.getElem?_eq_getElem hi)
        simp only [Nat.zero_add, List.getD_eq_getElem?_getD, e1, Option.getD_some]
        exact hh.glob g vs hg i v e1
      · obtain ⟨v, e1, e2⟩ := key i c hc
        simp only [List.getD_eq_getElem?_getD, e1, Option.getD_some]
        exact okC_rel c v e2
    | func f =>
      obtain rfl := okX_func h
      exact .fnc rfl rfl (fun i c v e => by simp at e) fun i c v e => by simp at e

theorem ARel.of_vrel {tmps : Array Value} {v : GV} {x : Value} (h : VRel O.M O.K v x) : ARel O e tmps v x := by
  cases h <;> simp only [ARel]
  all_goals (constructor <;> assumption)

theorem adr_rel (he : EnvRel O w e a.tmps) (hh : HInv P G O st w) {X : Operand} {gx : GX} (h : okX G X gx = true) : ARel O e a.tmps (adr e gx) (a.eval X) := by
  have hr := rd_rel he hh h
  cases gx with
  | c v => exact ARel.of_vrel hr
  | s t =>
    cases X <;> first | (simp [okX] at h; done) | skip
    rename_i t'
    have h : t' = t := by simpa [okX] using h
    subst h
    have hs := he.slot t'
    simp only [adr]
    cases hv : get e t' with
    | box cs =>
      rw [hv] at hs
      obtain ⟨b, rc, ty, e1, e2, _⟩ := hs
      exact ⟨b, e1, e2, fun _ _ => e1⟩
    | lptr s o =>
      rw [hv] at hs
      obtain ⟨b, e1, e2⟩ := hs
      refine ⟨b, e1, e2, fun cs hc => ?_⟩
      obtain ⟨b', q1, q2⟩ := he.lptr t' s o cs hv hc
      rw [q1] at e1
      simp only [Value.pointer.injEq, Option.some.injEq, Addr.mk.injEq, and_true] at e1
      rw [q2, e1]
    | _ => simp only [rd, hv] at hr; exact ARel.of_vrel hr
end
end Go.Proofs.YtibhcmacccfakaaGreatDoor
