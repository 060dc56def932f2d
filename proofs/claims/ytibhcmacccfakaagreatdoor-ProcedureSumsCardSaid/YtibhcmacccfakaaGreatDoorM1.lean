/- The evaluator of the program's code over ghost values. -/
import Derived.CallsIn
import Derived.RangeFuncIn
set_option linter.unusedSectionVars false
set_option linter.unusedVariables false
set_option linter.unusedSimpArgs false
namespace Go.Proofs.YtibhcmacccfakaaGreatDoor

/-- What is known of a slice's capacity: nothing; that it is the length; that what lies behind the length is this place's alone. -/
inductive Cap where
  | no | exact | own
  deriving DecidableEq, Inhabited

/-- A ghost value. `sl`: a slice whose contents stand in the value and never change. `msl`: a slice of a ghost block (its version). `box`: a variable of the frame. -/
inductive GV where
  | undef
  | bool (b : Bool)
  | int (k : IntKind) (n : Int)
  | str (s : List UInt8)
  | nilptr
  | ptr (g ver off : Nat)
  | eptr (cs : List GV)
  | lptr (s off : Nat)
  | sl (sz : Nat) (isnil : Bool) (cap : Cap) (xs : List (List GV))
  | msl (g ver off len sz : Nat)
  | nilmap
  | map (g : Nat)
  | func (fn : Fn) (first captured : List GV)
  | nilfunc
  | iface (t : TypeId) (v : GV)
  | niliface
  | agg (cs : List GV)
  | tuple (vs : List GV)
  | box (cs : List GV)
  | sym (i : Nat)
  deriving Inhabited

/-- An operand. -/
inductive GX where
  | s (t : Nat)
  | c (v : GV)
  deriving Inhabited

/-- The kinds of cells that '==' tells. -/
inductive EqK where
  | b | i | s | p | f | l | m | n
  deriving DecidableEq, Inhabited

/-- What is called. -/
inductive GCal where
  | fn (f : Nat)
  | val (x : GX)
  | inv (x : GX) (tab : List (TypeId × Nat))
  deriving Inhabited

/-- Operations with all static facts resolved. `n`: sizes in cells. -/
inductive GOp where
  | mv (x : GX)
  | take (t : Nat)
  | pick (c a b : GX)
  | box (x : GX)
  | hbox (x : GX)
  | alloc (zero : List GV)
  | halloc (zero : List GV)
  | build (zero : List GV) (parts : List (Nat × Nat × GX))
  | bsl (sz len : Nat) (zero : List GV) (parts : List (Nat × GX)) (mu : Bool)
  | load (n : Nat) (isAgg : Bool) (addr : GX) (root : Nat) (heap : Bool)
  | loadTake (addr : GX) (root : Nat) (heap : Bool)
  | store (n : Nat) (addr : GX) (x : GX) (root : Nat) (heap : Bool)
  | storeTake (addr : GX) (t : Nat) (root : Nat) (heap : Bool)
  | fieldAddr (x : GX) (off : Nat)
  | indexArr (x i : GX) (n sz : Nat)
  | indexSl (x i : GX) (sz : Nat)
  | nilCheck (x : GX)
  | bin (op : BinOp) (x y : GX)
  | eqv (neg agg : Bool) (ks : List EqK) (x y : GX)
  | un (op : UnOp) (x : GX)
  | toInt (k : IntKind) (x : GX)
  | mkIface (t : TypeId) (x : GX)
  | mkFunc (fn : Fn) (first captured : List GX)
  | extract (x : GX) (i : Nat)
  | field (x : GX) (off n : Nat) (isAgg : Bool)
  | indexAgg (x i : GX) (n sz : Nat) (isAgg : Bool)
  | indexStr (x i : GX)
  | mkSlice (sz bytes : Nat) (zero : List GV) (len cap : GX) (pers : Bool)
  | mkMap
  | lookup (x i : GX) (zero : GV) (ok str : Bool)
  | mapUpdate (m k x : GX) (str : Bool)
  | slice (str : Bool) (x : GX) (lo hi mx : Option GX) (sz : Nat)
  | range (x : GX)
  | next (x : GX)
  | mrange (x : GX)
  | mentry (x : GX)
  | mnext (x : GX)
  | assertTo (x : GX) (ts : List (TypeId × Bool)) (iface : Bool) (zero : GV) (ok : Bool)
  | len (x : GX) (k : EqK) (m : Bool)
  | minmax (max : Bool) (xs : List GX)
  | append (t : GX) (y : GX) (sz bytes : Nat) (mu h : Bool)
  | copy (d y : GX) (sz : Nat)
  | call (f : GCal) (args : List GX) (pure : Bool)
  | pan (x : GX)
  | bad
  deriving Inhabited

structure GStmt where
  dst : Option Nat
  op : GOp
  guard : Option (Nat × Bool)
  deriving Inhabited

inductive GC where
  | skip
  | region (ops : List GStmt) (keep : List Nat)
  | pregion (last : Bool) (ops : List GStmt) (keep : List Nat)
  | seq (a b : GC)
  | cond (x : GX) (a b : GC)
  | block (id : Nat) (b : GC)
  | loop (keep : List Nat) (b : GC)
  | exit (id : Nat)
  | ret
  | rangeFunc (f : GX) (params : List Nat) (assign body : GC)
  deriving Inhabited

/-- How the code was left. -/
inductive GE where
  | normal | exit (id : Nat) | ret
  deriving DecidableEq, Inhabited

abbrev Env := List (Nat × GV)

/-- A ghost block. -/
inductive GObj where
  | dead
  | cells (ver : Nat) (cs : List GV)
  | map (es : List (GV × GV))
  | iter (s : List UInt8) (pos : Nat)
  | miter (m : Option Nat) (since : Nat) (seen : List Nat) (last : Nat)
  | loop (env : Env) (params : List Nat) (assign body : GC) (fn : Nat) (state : LoopState) (pending : Option GE)
  deriving Inhabited

/-- The ghost heap; blocks below `ro` are not to be written; into blocks below `base` (which outlive the call) no reference is written. `perms`: the cells of blocks whose slice is the only one that may grow in place. -/
structure St where
  heap : List GObj
  ro : Nat
  base : Nat
  perms : List (Nat × Nat)
  deriving Inhabited

structure GFun where
  nparams : Nat
  body : GC
  results : List (Nat ⊕ (Nat × Nat × Bool))   -- a slot, or a variable in a box (slot, cells, is it an aggregate)
  keepHeap : Bool
  deriving Inhabited

/-! ### Small words -/
def get : Env → Nat → GV
  | [], _ => .undef
  | (k, v) :: r, t => if k = t then v else get r t

/-- A copy of a value: the permission stays where it was; variables and their addresses are no values. -/
def cp : GV → GV
  | .sl sz b .own xs => .sl sz b .no xs
  | .box _ => .undef
  | .lptr _ _ => .undef
  | v => v

/-- A slice with its permission; all else is copied. -/
def tk : GV → GV
  | .sl sz b c xs => .sl sz b c xs
  | v => cp v
/-- Known, and a value of one cell. -/
def one : GV → Bool
  | .agg _ | .tuple _ | .undef | .box _ | .lptr _ _ => false
  | _ => true
def ndef : GV → Bool
  | .undef => false
  | _ => true

def rd (e : Env) : GX → GV
  | .s t => cp (get e t)
  | .c v => cp v

/-- An operand as an address. -/
def adr (e : Env) : GX → GV
  | .s t => match get e t with
    | .box _ => .lptr t 0
    | .lptr s o => .lptr s o
    | v => cp v
  | .c v => cp v

def cellsOf : GV → List GV
  | .agg cs => cs
  | v => [v]

def mkv (isAgg : Bool) (cs : List GV) : Option GV :=
  if isAgg then some (.agg (cs.map cp)) else match cs with | [c] => some (cp c) | _ => none

/-- The cells that lie at an address. -/
def cellsAt (e : Env) (hp : List GObj) (root : Nat) (heap : Bool) (n : Nat) : GV → Option (List GV)
  | .lptr s o => if s = root ∧ heap = false then match get e s with
      | .box cs => if o + n ≤ cs.length then some ((cs.drop o).take n) else none
      | _ => none
    else none
  | .eptr cs => if n ≤ cs.length then some (cs.take n) else none
  | .ptr g ver o => if heap then match hp[g]? with
      | some (.cells v cs) => if v = ver ∧ o + n ≤ cs.length then some ((cs.drop o).take n) else none
      | _ => none
    else none
  | _ => none

/-- Cells written into a list of cells. -/
def splice (cs : List GV) (o : Nat) (vs : List GV) : List GV := cs.take o ++ vs ++ cs.drop (o + vs.length)

-- No variable, no address of one, references to blocks below g alone.
mutual
def refsLt (g : Nat) : GV → Bool
  | .ptr h _ _ => h < g
  | .msl h _ _ _ _ => h < g
  | .map h => h < g
  | .func fn first captured => (match fn with | .yield l => decide (l < g) | _ => true) && refsLtL g first && refsLtL g captured
  | .iface _ v => refsLt g v
  | .agg cs => refsLtL g cs
  | .tuple cs => refsLtL g cs
  | .eptr cs => refsLtL g cs
  | .sl _ _ _ xs => refsLtLL g xs
  | .box _ => false
  | .lptr _ _ => false
  | _ => true
def refsLtL (g : Nat) : List GV → Bool
  | [] => true
  | x :: r => refsLt g x && refsLtL g r
def refsLtLL (g : Nat) : List (List GV) → Bool
  | [] => true
  | x :: r => refsLtL g x && refsLtLL g r
end

/-- What is known of whole numbers that have no value here (`sym`): their kinds, and what operations on them come to. -/
class Tab where
  kind : Nat → IntKind
  tab : BinOp → GV → GV → Option GV
variable [Tab]

def tabB : Option GV → Option Bool
  | some (.bool b) => some b
  | _ => none
def tabV : Option GV → Option GV
  | some (.bool b) => some (.bool b)
  | some (.int k n) => some (.int k n)
  | some (.sym i) => some (.sym i)
  | _ => none

-- '==' of two values.
mutual
def geq : GV → GV → Option Bool
  | .bool a, .bool b => some (a == b)
  | .int k a, .int j b => if k = j then some (a == b) else none
  | .str a, .str b => some (a == b)
  | .nilptr, .nilptr => some true
  | .nilptr, .ptr .. | .ptr .., .nilptr | .nilptr, .eptr _ | .eptr _, .nilptr => some false
  | .niliface, .iface .. | .iface .., .niliface => some false
  | .niliface, .niliface => some true
  | .nilfunc, .nilfunc => some true
  | .nilfunc, .func .. | .func .., .nilfunc => some false
  | .sl _ b _ _, .sl _ true .exact [] => some b
  | .msl .., .sl _ true .exact [] => some false
  | .nilmap, .nilmap => some true
  | .map _, .nilmap => some false
  | .agg a, .agg b => geqL a b
  | .sym i, .sym j => tabB (Tab.tab .eql (.sym i) (.sym j))
  | .sym i, .int k n => tabB (Tab.tab .eql (.sym i) (.int k n))
  | .int k n, .sym i => tabB (Tab.tab .eql (.int k n) (.sym i))
  | _, _ => none
def geqL : List GV → List GV → Option Bool
  | [], [] => some true
  | x :: r, y :: q => match geq x y with
    | some true => geqL r q
    | some false => (geqL r q).map fun _ => false
    | none => none
  | _, _ => none
end

def gbin (op : BinOp) : GV → GV → Option GV
  | .int k a, .int j b =>
    match op with
    | .shl => if b < 0 then none else some (.int k (k.wrap (a * 2 ^ min b.toNat k.bits)))
    | .shr => if b < 0 then none else some (.int k (a.fdiv (2 ^ min b.toNat k.bits)))
    | _ => if k ≠ j then none else match op with
      | .add => some (.int k (k.wrap (a + b)))
      | .sub => some (.int k (k.wrap (a - b)))
      | .mul => some (.int k (k.wrap (a * b)))
      | .quo => if b = 0 then none else some (.int k (k.wrap (a.tdiv b)))
      | .rem => if b = 0 then none else some (.int k (a.tmod b))
      | .eql => some (.bool (a == b))
      | .neq => some (.bool (a != b))
      | .lss => some (.bool (a < b))
      | .leq => some (.bool (a ≤ b))
      | .gtr => some (.bool (a > b))
      | .geq => some (.bool (a ≥ b))
      | _ => none
  | .str a, .str b =>
    let eq := a == b
    let lt := Op.bytesLess a b
    match op with
    | .eql => some (.bool eq)
    | .neq => some (.bool !eq)
    | .lss => some (.bool lt)
    | .leq => some (.bool (lt || eq))
    | .gtr => some (.bool !(lt || eq))
    | .geq => some (.bool !lt)
    | .add => if a.length + b.length ≤ 2 ^ 40 then some (.str (a ++ b)) else none
    | _ => none
  | .sym i, .sym j => tabV (Tab.tab op (.sym i) (.sym j))
  | .sym i, .int k n => tabV (Tab.tab op (.sym i) (.int k n))
  | .int k n, .sym i => tabV (Tab.tab op (.int k n) (.sym i))
  | _, _ => none

def gun (op : UnOp) : GV → Option GV
  | .bool b => match op with | .not => some (.bool !b) | _ => none
  | .int k n => match op with | .neg => some (.int k (k.wrap (0 - n))) | _ => none
  | _ => none

/-- A value of this kind. -/
def kindOf : EqK → GV → Bool
  | .b, .bool _ => true
  | .i, .int .. => true
  | .i, .sym _ => true
  | .s, .str _ => true
  | .p, .nilptr => true
  | .p, .ptr .. => true
  | .p, .eptr _ => true
  | .f, .nilfunc => true
  | .f, .func .. => true
  | .l, .sl .. => true
  | .l, .msl .. => true
  | .m, .nilmap => true
  | .m, .map _ => true
  | .n, .niliface => true
  | .n, .iface .. => true
  | _, _ => false
def kindsL : List EqK → List GV → Bool
  | [], [] => true
  | k :: r, c :: q => kindOf k c && kindsL r q
  | _, _ => false
def kindsOk (agg : Bool) (ks : List EqK) (v : GV) : Bool :=
  if agg then (match v with
    | .agg cs => kindsL ks cs
    | _ => false)
  else (match ks with
    | [k] => kindOf k v
    | _ => false)

def plus (off : Nat) : GV → Option GV
  | .lptr s o => some (.lptr s (o + off))
  | .eptr cs => if off ≤ cs.length then some (.eptr (cs.drop off)) else none
  | .ptr g v o => some (.ptr g v (o + off))
  | _ => none

/-- A list cut into pieces of sz cells. -/
def chunks (sz : Nat) : Nat → List GV → List (List GV)
  | 0, _ => []
  | n + 1, cs => (cs.take sz).map cp :: chunks sz n (cs.drop sz)

/-- A slice's elements. -/
def elems (hp : List GObj) (sz : Nat) : GV → Option (List (List GV))
  | .sl z _ _ xs => if z = sz ∨ xs = [] then some xs else none
  | .msl g ver o n z => match hp[g]? with
    | some (.cells v cs) => if z = sz ∧ v = ver ∧ o + n * sz ≤ cs.length then some (chunks sz n (cs.drop o)) else none
    | _ => none
  | .str s => if sz = 1 then some (s.map fun b => [.int .u8 b.toNat]) else none
  | _ => none

def glen (hp : List GObj) (m : Bool) : GV → Option Nat
  | .sl _ _ _ xs => some xs.length
  | .msl _ _ _ n _ => some n
  | .str s => some s.length
  | .nilmap => some 0
  | .map g => if m then match hp[g]? with
    | some (.map es) => some es.length
    | _ => none
    else none
  | _ => none

/-- A block written; none below `ro`. -/
def St.put (st : St) (g : Nat) (o : GObj) : Option St := if st.ro ≤ g then some { st with heap := st.heap.set g o } else none
/-- The cells n from o on of block g have no permission any more. -/
def St.drop (st : St) (g o n : Nat) : St := { st with perms := st.perms.filter fun p => !(p.1 == g && decide (o ≤ p.2) && decide (p.2 < o + n)) }
def St.new (st : St) (o : GObj) : St := { st with heap := st.heap ++ [o] }

/-- Cells written at an address: the frame's new entries and the heap. -/
def writeAt (e : Env) (st : St) (root : Nat) (heap : Bool) (vs : List GV) : GV → Option (Env × St)
  | .lptr s o => if s = root ∧ heap = false then match get e s with
      | .box cs => if o + vs.length ≤ cs.length ∧ vs.all one = true then some ([(s, .box (splice cs o vs))], st) else none
      | _ => none
    else none
  | .ptr g ver o => if heap ∧ (refsLtL 0 vs ∨ st.base ≤ g) then match st.heap[g]? with
      | some (.cells v cs) => if v = ver ∧ o + vs.length ≤ cs.length ∧ vs.all one = true then (st.put g (.cells v (splice cs o (vs.map cp)))).map fun st => ([], st.drop g o vs.length) else none
      | _ => none
    else none
  | _ => none

def setKey (k x : GV) : List (GV × GV) → Option (List (GV × GV))
  | [] => some [(k, x)]
  | (j, y) :: r => match geq k j with
    | some true => some ((k, x) :: r)
    | some false => (setKey k x r).map ((j, y) :: ·)
    | none => none
def findKey (k : GV) : List (GV × GV) → Option (Option GV)
  | [] => some none
  | (j, y) :: r => match geq k j with
    | some true => some (some y)
    | some false => findKey k r
    | none => none
/-- What a map holds under a key. -/
def findIn (hp : List GObj) (k : GV) : GV → Option (Option GV)
  | .nilmap => some none
  | .map g => match hp[g]? with
    | some (.map es) => findKey k es
    | _ => none
  | _ => none
/-- A map's key: an int or a string. -/
def isKey (str : Bool) : GV → Bool
  | .int .. => !str
  | .str _ => str
  | _ => false

def asNat : GV → Option Nat
  | .int _ n => if 0 ≤ n then some n.toNat else none
  | _ => none

/-- Parts laid into a zero value. -/
def fillParts (e : Env) : List GV → List (Nat × Nat × GX) → Option (List GV)
  | cs, [] => some cs
  | cs, (off, n, x) :: r =>
    let vs := cellsOf (rd e x)
    if ndef (rd e x) = true ∧ vs.length = n ∧ off + n ≤ cs.length then fillParts e (splice cs off vs) r else none
def fillElems (e : Env) (sz : Nat) : List (List GV) → List (Nat × GX) → Option (List (List GV))
  | xs, [] => some xs
  | xs, (i, x) :: r =>
    let vs := cellsOf (rd e x)
    if ndef (rd e x) = true ∧ vs.length = sz ∧ i < xs.length then fillElems e sz (xs.set i vs) r else none

abbrev Call := Nat → List GV → St → Option (GV × St)
abbrev CallV := GV → List GV → St → Option (GV × St)

def raw (e : Env) : GX → GV
  | .s t => get e t
  | .c v => v
/-- What is left in a slot whose value has been taken. -/
def spent (e : Env) : GX → Env
  | .s t => [(t, cp (get e t))]
  | .c _ => []

def bound : Nat := 2 ^ 40

def doAppend (st : St) (sz bytes : Nat) (mu h : Bool) (v : GV) (ys : List (List GV)) : Option (GV × St) :=
  match v with
  | .sl z _ cap xs =>
    if ys = [] then some (v, st)
    else if cap = .no ∨ (mu ∧ cap = .own) ∨ bound < (xs.length + ys.length) * bytes ∨ bound < xs.length + ys.length ∨ ys.all (·.all one) = false ∨ ¬ (z = sz ∨ xs = [] ∧ cap = .exact) then none
    else if mu then
      if h then some (.msl st.heap.length 0 0 (xs.length + ys.length) sz, st.new (.cells 0 (xs ++ ys).flatten)) else none
    else some (.sl sz false .own (xs ++ ys), st)
  | .msl g ver o n z =>
    if ys = [] then some (v, st)
    else if h = false ∨ o ≠ 0 ∨ z ≠ sz ∨ bound < (n + ys.length) * bytes ∨ bound < n + ys.length ∨ ys.all (·.all one) = false then none
    else match st.heap[g]? with
      | some (.cells w cs) =>
        if w = ver ∧ n * sz ≤ cs.length then
          if mu then
            if refsLtLL 0 ys ∨ st.base ≤ g then (st.put g (.cells (ver + 1) (cs.take (n * sz) ++ ys.flatten))).map fun st => (.msl g (ver + 1) 0 (n + ys.length) sz, st.drop g 0 ((n + ys.length) * sz)) else none
          else (st.put g .dead).map fun st => (.sl sz false .own (chunks sz n cs ++ ys), st.drop g 0 cs.length)
        else none
      | _ => none
  | _ => none

def doCopy (st : St) (sz : Nat) (d : GV) (ys : List (List GV)) : Option (GV × St) := do
  let n ← glen st.heap false d
  let k := min ys.length n
  if k = 0 then (if kindOf .l d then some (.int .i64 0, st) else none) else
  match d with
  | .msl g ver o _ z => if z = sz then (writeAt [] st 0 true (ys.take k).flatten (.ptr g ver o)).map fun p => (.int .i64 k, p.2) else none
  | _ => none

def doSlice (str : Bool) (lo hi mx : Option Nat) (sz : Nat) : GV → Option GV
  | .str s =>
    let l := lo.getD 0
    let h := hi.getD s.length
    if str = true ∧ l ≤ h ∧ h ≤ s.length ∧ mx = none then some (.str ((s.take h).drop l)) else none
  | .sl z b cap xs =>
    let l := lo.getD 0
    let h := hi.getD xs.length
    if str = false ∧ l ≤ h ∧ h ≤ xs.length ∧ (mx = none ∨ mx = hi) ∧ (z = sz ∨ xs = []) then
      some (.sl z b (if mx.isSome ∨ (cap = .exact ∧ h = xs.length) then .exact else .no) ((xs.take h).drop l))
    else none
  | .msl g ver o n z =>
    let l := lo.getD 0
    let h := hi.getD n
    if str = false ∧ l ≤ h ∧ h ≤ n ∧ (mx = none ∨ mx = hi) ∧ z = sz then some (if h = l ∧ 0 < l then .sl z false .no [] else .msl g ver (o + l * sz) (h - l) z) else none
  | _ => none

def optNat (e : Env) : Option GX → Option (Option Nat)
  | none => some none
  | some x => (asNat (rd e x)).map some

def gmm (mx : Bool) : GV → GV → Option GV
  | .int k a, .int j b => if k = j then some (.int k (if mx then (if b > a then b else a) else (if b < a then b else a))) else none
  | .sym i, .sym j => (tabB (Tab.tab (if mx then .lss else .gtr) (.sym i) (.sym j))).map fun t => if t then .sym j else .sym i
  | .sym i, .int k n => (tabB (Tab.tab (if mx then .lss else .gtr) (.sym i) (.int k n))).map fun t => if t then .int k n else .sym i
  | .int k n, .sym i => (tabB (Tab.tab (if mx then .lss else .gtr) (.int k n) (.sym i))).map fun t => if t then .sym i else .int k n
  | _, _ => none

/-- A result made free of the blocks from base on: slices of these are frozen. -/
def sealV (base : Nat) (st : St) : Nat → GV → Option GV
  | 0, _ => none
  | d + 1, v => match v with
    | .sl sz b cap xs =>
      let cap := if cap = .exact then .exact else .no
      if refsLtLL base xs then some (.sl sz b cap xs)
      else (xs.mapM fun (l : List GV) => l.mapM (sealV base st d)).map fun xs => .sl sz b cap xs
    | .msl g ver o n sz => if g < base then some v else do
      let xs ← elems st.heap sz (.msl g ver o n sz)
      let xs ← xs.mapM fun (l : List GV) => l.mapM (sealV base st d)
      some (.sl sz false .no xs)
    | .agg cs => (cs.mapM (sealV base st d)).map .agg
    | .tuple cs => (cs.mapM (sealV base st d)).map .tuple
    | .iface t v => (sealV base st d v).map (.iface t)
    | v => if refsLt base v then some v else none

/-- Operations that look at slots alone. -/
def pureOp (e : Env) : GOp → Option GV
  | .mv x => some (rd e x)
  | .pick c a b => match rd e c with
    | .bool t => some (if t then rd e a else rd e b)
    | _ => none
  | .box x => if ndef (rd e x) then some (.box ((cellsOf (rd e x)).map cp)) else none
  | .alloc z => some (.box z)
  | .build z ps => (fillParts e z ps).map .agg
  | .fieldAddr x off => (plus off (adr e x))
  | .indexArr x i n sz => do
    let i ← asNat (rd e i)
    if i < n then (plus (i * sz) (adr e x)) else none
  | .indexSl x i sz => do
    let i ← asNat (rd e i)
    match rd e x with
    | .sl z _ _ xs => match xs[i]? with
      | some cs => if z = sz then some (.eptr cs) else none
      | none => none
    | .msl g ver o n z => if i < n ∧ z = sz then some (.ptr g ver (o + i * sz)) else none
    | _ => none
  | .nilCheck x => match adr e x with
    | .lptr s o => some (.lptr s o)
    | .ptr g v o => some (.ptr g v o)
    | .eptr cs => some (.eptr cs)
    | .func (.func f) a b => some (.func (.func f) a b)
    | .func (.yield l) a b => some (.func (.yield l) a b)
    | .iface t v => some (.iface t v)
    | _ => none
  | .bin op x y => (gbin op (rd e x) (rd e y))
  | .eqv neg agg ks x y => if kindsOk agg ks (rd e x) = true ∧ kindsOk agg ks (rd e y) = true then (geq (rd e x) (rd e y)).map fun b => .bool (b != neg) else none
  | .un op x => (gun op (rd e x))
  | .toInt k x => match rd e x with
    | .int _ n => some (.int k (k.wrap n))
    | .sym i => if Tab.kind i = k then some (.sym i) else none
    | _ => none
  | .mkIface t x => some (.iface t (rd e x))
  | .mkFunc fn first captured => some (.func fn (first.map (rd e)) (captured.map (rd e)))
  | .extract x i => match rd e x with
    | .tuple vs => (vs[i]?).map cp
    | _ => none
  | .field x off n isAgg => match rd e x with
    | .agg cs => if off + n ≤ cs.length then (mkv isAgg ((cs.drop off).take n)) else none
    | _ => none
  | .indexAgg x i n sz isAgg => do
    let i ← asNat (rd e i)
    match rd e x with
    | .agg cs => if i < n ∧ i * sz + sz ≤ cs.length then (mkv isAgg ((cs.drop (i * sz)).take sz)) else none
    | _ => none
  | .indexStr x i => do
    let i ← asNat (rd e i)
    match rd e x with
    | .str s => (s[i]?).map fun b => .int .u8 b.toNat
    | _ => none
  | .slice str x lo hi mx sz => do
    let lo ← optNat e lo
    let hi ← optNat e hi
    let mx ← optNat e mx
    let v ← doSlice str lo hi mx sz (rd e x)
    some v
  | .assertTo x ts isI z ok =>
    match rd e x with
    | .niliface => if ok then some (.tuple [z, .bool false]) else none
    | .iface t v =>
      let holds : Option Bool := if isI then (ts.find? (·.1 == t)).map (·.2) else some ((ts.head?.map (·.1)) == some t)
      match holds with
      | some true => let r := if isI then .iface t v else cp v
                     some (if ok then .tuple [r, .bool true] else r)
      | some false => if ok then some (.tuple [z, .bool false]) else none
      | none => none
    | _ => none
  | .minmax mx xs => match xs.map (rd e) with
    | [a, b] => (gmm mx a b)
    | _ => none
  | _ => none

/-- Operations that look at slots and the ghost heap. -/
def readOp (e : Env) (hp : List GObj) : GOp → Option GV
  | .load n isAgg a root heap => do
    let cs ← cellsAt e hp root heap n (adr e a)
    let v ← mkv isAgg cs
    some v
  | .lookup m k z ok str =>
    if isKey str (rd e k) = true then (findIn hp (rd e k) (rd e m)).map fun r => if ok then .tuple [cp (r.getD z), .bool r.isSome] else cp (r.getD z) else none
  | .len x k m => if kindOf k (rd e x) = true then (glen hp m (rd e x)).map fun (n : Nat) => GV.int .i64 n else none
  | .mentry x => match rd e x with
    | .ptr g 0 0 => match hp[g]? with
      | some (.miter (some m) _ seen last) => match hp[m]?, seen.getLast? with
        | some (.map es), some i => match es[i]? with
          | some (k, v) => if es.length = last then some (.tuple [cp k, cp v]) else none
          | none => none
        | _, _ => none
      | _ => none
    | _ => none
  | _ => none

def GOp.kind : GOp → Nat
  | .load .. | .lookup .. | .len .. | .mentry .. => 1
  | .take .. | .hbox .. | .halloc .. | .bsl .. | .loadTake .. | .store .. | .storeTake .. | .mkSlice .. | .mkMap | .mapUpdate .. | .range .. | .next .. | .mrange .. | .append .. | .copy .. | .call .. => 2
  | _ => 0

/-- The call itself. -/
def callTo (C : Call) (V : CallV) (e : Env) (f : GCal) (vs : List GV) (st : St) : Option (GV × St) := match f with
  | .fn f => C f vs st
  | .val x => V (rd e x) vs st
  | .inv x tab => match rd e x with
    | .iface t v => match tab.find? (·.1 == t) with
      | some (_, f) => C f (v :: vs) st
      | none => none
    | _ => none

/-- Operations that write other slots or the ghost heap. -/
def effOp (C : Call) (V : CallV) (e : Env) (st : St) : GOp → Option (GV × Env × St)
  | .take t => some (tk (get e t), [(t, cp (get e t))], st)
  | .hbox x =>
    if ndef (rd e x) then some (.ptr st.heap.length 0 0, [], st.new (.cells 0 ((cellsOf (rd e x)).map cp))) else none
  | .halloc z => some (.ptr st.heap.length 0 0, [], st.new (.cells 0 z))
  | .bsl sz n z ps mu => do
    let xs ← fillElems e sz (List.replicate n z) ps
    if mu then
      some (.msl st.heap.length 0 0 n sz, [], st.new (.cells 0 xs.flatten))
    else some (.sl sz false .exact xs, [], st)
  | .loadTake a root heap => do
    let p := adr e a
    match ← cellsAt e st.heap root heap 1 p with
    | [c] => match p with
      | .eptr _ => some (cp c, [], st)
      | .ptr g _ o => match c with
        | .sl sz b _ xs => if st.perms.contains (g, o) ∧ st.ro ≤ g then some (.sl sz b .own xs, [], st.drop g o 1) else some (cp c, [], st)
        | c => some (cp c, [], st)
      | _ => do
        let (u, st) ← writeAt e st root heap [cp c] p
        some (tk c, u, st)
    | _ => none
  | .store n a x root heap => do
    let vs := (cellsOf (rd e x)).map cp
    if ndef (rd e x) = true ∧ vs.length = n then do
      let (u, st) ← writeAt e st root heap vs (adr e a)
      some (.undef, u, st)
    else none
  | .storeTake a t root heap => do
    let v := tk (get e t)
    let (u, st) ← writeAt e st root heap [v] (adr e a)
    some (.undef, (t, cp v) :: u, match adr e a, v with
      | .ptr g _ o, .sl _ _ .own _ => { st with perms := (g, o) :: st.perms }
      | _, _ => st)
  | .mkSlice sz bytes z l c pers => do
    let l ← asNat (rd e l)
    let c ← asNat (rd e c)
    if l ≤ c ∧ c * bytes ≤ bound ∧ c ≤ bound then
      if pers then some (.sl sz false .own (List.replicate l z), [], st)
      else if l = c then some (.msl st.heap.length 0 0 l sz, [], st.new (.cells 0 (List.replicate l z).flatten)) else none
    else none
  | .mkMap => some (.map st.heap.length, [], st.new (.map []))
  | .mapUpdate m k x str =>
    let key := rd e k
    if isKey str key then match rd e m with
      | .map g => match st.heap[g]? with
        | some (.map es) => if refsLt 0 (rd e x) ∨ st.base ≤ g then do
            let es ← setKey key (rd e x) es
            let st ← st.put g (.map es)
            some (.undef, [], st)
          else none
        | _ => none
      | _ => none
    else none
  | .range x => match rd e x with
    | .str s => some (.ptr st.heap.length 0 0, [], st.new (.iter s 0))
    | _ => none
  | .next x => match rd e x with
    | .ptr g 0 0 => match st.heap[g]? with
      | some (.iter s pos) =>
        if pos < s.length then do
          let (c, w) := Utf8.decode ⟨s.toArray⟩ pos
          let st ← st.put g (.iter s (pos + w))
          some (.tuple [.bool true, .int .i64 pos, .int .i32 c], [], st)
        else some (.tuple [.bool false], [], st)
      | _ => none
    | _ => none
  | .mrange x => match rd e x with
    | .nilmap => some (.ptr st.heap.length 0 0, [], st.new (.miter none 0 [] 0))
    | .map g => match st.heap[g]? with
      | some (.map es) => some (.ptr st.heap.length 0 0, [], st.new (.miter (some g) es.length [] es.length))
      | _ => none
    | _ => none
  | .append t y sz bytes mu h => do
    let ys ← elems st.heap sz (rd e y)
    let (v, st) ← doAppend st sz bytes mu h (raw e t) ys
    some (v, spent e t, st)
  | .copy d y sz => do
    let ys ← elems st.heap sz (rd e y)
    let (v, st) ← doCopy st sz (rd e d) ys
    some (v, [], st)
  | .call f args pure =>
    match callTo C V e f (args.map (rd e)) (if pure then { st with ro := st.heap.length, perms := [] } else st) with
    | some (v, s1) =>
      if pure then (if s1.heap.length = st.heap.length then some (cp v, [], st) else (sealV st.heap.length s1 12 v).map fun v => (cp v, [], st))
      else some (cp v, [], { s1 with ro := st.ro })
    | none => none
  | _ => none

/-- What an operation does: the value for its slot, other slots' new contents, the heap. -/
def stepOp (C : Call) (V : CallV) (e : Env) (st : St) (o : GOp) : Option (GV × Env × St) :=
  match o.kind with
  | 0 => match pureOp e o with
    | some v => some (v, [], st)
    | none => none
  | 1 => match readOp e st.heap o with
    | some v => some (v, [], st)
    | none => none
  | _ => effOp C V e st o

def guardOk (e : Env) : Option (Nat × Bool) → Option Bool
  | none => some true
  | some (t, b) => match get e t with
    | .bool c => some (c == b)
    | .tuple [] => some false
    | _ => none

/-- What a statement writes, newest first, and the heap behind it. -/
def stepU (C : Call) (V : CallV) (e : Env) (st : St) (s : GStmt) : Option (Env × St) := match guardOk e s.guard with
  | some true => match stepOp C V e st s.op with
    | some (v, u, st) => some (match s.dst with | some d => (d, v) :: u | none => u, st)
    | none => none
  | some false => some (match s.dst with | some d => [(d, .tuple [])] | none => [], st)
  | none => none
def step (C : Call) (V : CallV) (e : Env) (st : St) (s : GStmt) : Option (Env × St) := match stepU C V e st s with
  | some (u, st) => some (u ++ e, st)
  | none => none

def runOps (C : Call) (V : CallV) : List GStmt → Env → St → Option (Env × St)
  | [], e, st => some (e, st)
  | s :: r, e, st => match step C V e st s with
    | some (e, st) => runOps C V r e st
    | none => none

/-- A slot between two regions: no address of a variable lives on. -/
def nrm : GV → GV
  | .lptr _ _ => .undef
  | v => v
def keepOnly (keep : List Nat) (e : Env) : Env := keep.map fun t => (t, nrm (get e t))

def loopN (body : Env → St → Option (GE × Env × St)) (keep : List Nat) : Nat → Env → St → Option (GE × Env × St)
  | 0, _, _ => none
  | n + 1, e, st => match body (keepOnly keep e) st with
    | some (.normal, e, st) => loopN body keep n e st
    | r => r

/-- A function of the program, as a value, called. -/
def callFn (C : Call) (f : GV) (args : List GV) (st : St) : Option (GV × St) := match f with
  | .func (.func k) fs cs => C k (fs ++ args ++ cs) st
  | _ => none

/-- Is it (still) a loop? -/
def loopAt (st : St) : Option Nat → Bool
  | none => true
  | some l => match st.heap[l]? with
    | some (.loop ..) => true
    | _ => false

def run (C : Call) (V : CallV) (n : Nat) (fn : Nat) (ro : Option Nat) : GC → Env → St → Option (GE × Env × St)
  | .skip, e, st => some (.normal, e, st)
  | .region ops keep, e, st => match runOps C V ops e st with
    | some (e, st) => some (.normal, keepOnly keep e, st)
    | none => none
  | .pregion _ ops keep, e, st => match runOps C V ops e st with
    | some (e, st) => some (.normal, keepOnly keep e, st)
    | none => none
  | .seq a b, e, st => match run C V n fn ro a e st with
    | some (.normal, e, st) => run C V n fn ro b e st
    | r => r
  | .cond x a b, e, st => match rd e x with
    | .bool t => if t then run C V n fn ro a e st else run C V n fn ro b e st
    | _ => none
  | .block id b, e, st => match run C V n fn ro b e st with
    | some (.exit j, e, st) => if j = id then some (.normal, e, st) else some (.exit j, e, st)
    | r => r
  | .loop keep b, e, st => loopN (run C V n fn ro b) keep n e st
  | .exit id, e, st => some (.exit id, e, st)
  | .ret, e, st => some (.ret, e, st)
  | .rangeFunc f ps assign body, e, st =>
    let l := st.heap.length
    if loopAt st ro = false then none else
    match callFn C (rd e f) [.func (.yield l) [] []] (st.new (.loop (e.map fun p => (p.1, cp p.2)) ps assign body fn .ready none)) with
    | some (_, st) => match st.heap[l]? with
      | some (.loop _ _ _ _ _ s p) => if s = .busy then none else
        match st.put l .dead with
        | some st => some (p.getD .normal, e, st)
        | none => none
      | _ => none
    | none => none

def result (e : Env) (st : St) : Nat ⊕ (Nat × Nat × Bool) → Option GV
  | .inl t => some (rd e (.s t))
  | .inr (t, n, isAgg) => do
    let cs ← cellsAt e st.heap t (match get e t with | .box _ => false | _ => true) n (adr e (.s t))
    mkv isAgg cs

def argEnv : Nat → List GV → Env
  | _, [] => []
  | i, v :: r => (i, v) :: argEnv (i + 1) r

/-- Has it no loop of a range over a function that still goes on? -/
def noLoops : List GObj → Bool
  | [] => true
  | .loop .. :: _ => false
  | _ :: r => noLoops r

def finish (g : GFun) (base b0 : Nat) (e : Env) (st : St) : Option (GV × St) := do
  let vs ← g.results.mapM (result e st)
  let v := match vs with | [v] => v | vs => .tuple vs
  if noLoops (st.heap.drop base) = false then none else
  if g.keepHeap then some (v, st)
  else do
    let v ← sealV base st 12 v
    some (v, { st with heap := st.heap.take base, base := b0, perms := st.perms.filter fun p => decide (p.1 < base) })

/-- A function's body run over what calls answer. -/
def runFun (funs : Nat → Option GFun) (C : Call) (V : CallV) (n : Nat) : Call := fun f args st => match funs f with
  | none => none
  | some g =>
    if args.length = g.nparams ∧ st.ro ≤ st.heap.length then
      match run C V n f none g.body (argEnv 0 args) (if g.keepHeap then st else { st with base := st.heap.length }) with
      | some (.normal, e, s) | some (.ret, e, s) => finish g st.heap.length st.base e s
      | _ => none
    else none

/-- A function value called; a round of a range over a function. -/
def runVal (C : Call) (R : Nat → Nat → GC → Env → St → Option (GE × Env × St)) : CallV := fun v args st => match v with
  | .func (.func f) first captured => C f (first ++ args ++ captured) st
  | .func (.yield l) _ _ => match st.heap[l]? with
    | some (.loop e ps assign body fn .ready p) =>
      if args.length = ps.length ∧ st.ro ≤ st.heap.length then
        match R fn l assign (ps.zip args ++ e) st with
        | some (.normal, e1, st) => match st.heap[l]? with
          | some (.loop e ps a b fn .ready p) => match st.put l (.loop e ps a b fn .busy p) with
            | some st => match R fn l body e1 st with
              | some (ge, _, st) => match st.heap[l]? with
                | some (.loop e ps a b fn .busy _) => match st.put l (.loop e ps a b fn (if ge = .normal then .ready else .done) (if ge = .normal then none else some ge)) with
                  | some st => some (.bool (ge = .normal), st)
                  | none => none
                | _ => none
              | none => none
            | none => none
          | _ => none
        | _ => none
      else none
    | _ => none
  | _ => none

/-- Calls and function values to a depth: what `orc` answers is taken; the rest is run. -/
def evF (funs : Nat → Option GFun) (orc : Call) : Nat → Call × CallV
  | 0 => (orc, fun _ _ _ => none)
  | n + 1 =>
    let p := evF funs orc n
    (fun f args st => match orc f args st with
      | some r => some r
      | none => runFun funs p.1 p.2 n f args st,
     fun v args st => runVal p.1 (fun fn l c e st => run p.1 p.2 n fn (some l) c e st) v args st)
end Go.Proofs.YtibhcmacccfakaaGreatDoor
