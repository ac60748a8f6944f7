/- A part of the proof: an abstract machine for the program's code and what each of its functions comes to there. No conditions. -/
import Derived.Calls
import Derived.Orders
import Derived.Laws.AppendOwn
import Derived.Laws.CopyRow
import Derived.MapKept
import Derived.Below
import Derived.Laws.Cover3

set_option linter.unusedSimpArgs false
set_option linter.unusedVariables false

/- The abstract machine: values in which a slice is the list of its elements, a heap of few objects, and what a piece of compact code does there. Nothing of any one program. -/
namespace Go.LS
inductive Tag where
 | nil | ro | exact
 | own (t : Nat)
 deriving DecidableEq
inductive V where
 | undef
 | bool (b : Bool)
 | int (k : IntKind) (n : Int)
 | flt (k : FloatKind) (bits : Nat)
 | cplx (k : FloatKind) (re im : Nat)
 | str (s : ByteArray)
 | nilp
 | loc (s ver off : Nat)
 | obj (id off : Nat)
 | elt (id i off : Nat)
 | imm (cells : List V) (off : Nat)
 | lst (t : Tag) (l : List (List V))
 | row (id off len cap : Nat)
 | map (id : Option Nat)
 | fn (f : FuncId) (first caps : List V)
 | nilFn
 | agg (l : List V)
 | tup (l : List V)
 deriving Inhabited
def V.leaf : V → Bool
 | .undef => false
 | .loc _ _ _ => false
 | .agg _ => false
 | .tup _ => false
 | .bool _ => true
 | .int _ _ => true
 | .flt _ _ => true
 | .cplx _ _ _ => true
 | .str _ => true
 | .nilp => true
 | .obj _ _ => true
 | .elt _ _ _ => true
 | .imm _ _ => true
 | .lst _ _ => true
 | .row _ _ _ _ => true
 | .map _ => true
 | .fn _ _ _ => true
 | .nilFn => true
def V.cells : V → Option (List V)
 | .undef => none
 | .loc _ _ _ => none
 | .tup _ => none
 | .agg l => some l
 | .bool b => some [.bool b]
 | .int k n => some [.int k n]
 | .flt k n => some [.flt k n]
 | .cplx k x y => some [.cplx k x y]
 | .str s => some [.str s]
 | .nilp => some [.nilp]
 | .obj i o => some [.obj i o]
 | .elt i j o => some [.elt i j o]
 | .imm c o => some [.imm c o]
 | .lst t l => some [.lst t l]
 | .row i o n c => some [.row i o n c]
 | .map i => some [.map i]
 | .fn f a c => some [.fn f a c]
 | .nilFn => some [.nilFn]
def V.free : V → Bool
 | .undef => true
 | .loc _ _ _ => false
 | _ => true
mutual
def V.retag : V → V
 | .lst _ l => .lst .ro (V.retagLL l)
 | .agg l => .agg (V.retagL l)
 | .tup l => .tup (V.retagL l)
 | .undef => .undef
 | .bool b => .bool b
 | .int k n => .int k n
 | .flt k n => .flt k n
 | .cplx k x y => .cplx k x y
 | .str s => .str s
 | .nilp => .nilp
 | .loc a b c => .loc a b c
 | .obj a b => .obj a b
 | .elt a b c => .elt a b c
 | .imm a b => .imm a b
 | .row a b c d => .row a b c d
 | .map a => .map a
 | .fn a b c => .fn a b c
 | .nilFn => .nilFn
def V.retagL : List V → List V
 | [] => []
 | v :: l => v.retag :: V.retagL l
def V.retagLL : List (List V) → List (List V)
 | [] => []
 | e :: l => V.retagL e :: V.retagLL l
end
theorem V.retagL_map : ∀ l : List V, V.retagL l = l.map V.retag
 | [] => rfl
 | v :: l => by rw [V.retagL, V.retagL_map l]; rfl
theorem V.retagLL_map : ∀ l : List (List V), V.retagLL l = l.map (fun e => e.map V.retag)
 | [] => rfl
 | e :: l => by rw [V.retagLL, V.retagLL_map l, V.retagL_map e]; rfl
def Tag.under (n : Nat) : Tag → Bool
 | .own t => decide (t < n)
 | _ => true
mutual
def V.under (n : Nat) : V → Bool
 | .obj id _ => decide (id < n)
 | .elt id _ _ => decide (id < n)
 | .row id _ _ _ => decide (id < n)
 | .map (some id) => decide (id < n)
 | .map none => true
 | .imm cells _ => V.underL n cells
 | .lst t l => t.under n && V.underLL n l
 | .fn _ a c => V.underL n a && V.underL n c
 | .agg l => V.underL n l
 | .tup l => V.underL n l
 | .undef => true
 | .bool _ => true
 | .int _ _ => true
 | .flt _ _ => true
 | .cplx _ _ _ => true
 | .str _ => true
 | .nilp => true
 | .loc _ _ _ => true
 | .nilFn => true
def V.underL (n : Nat) : List V → Bool
 | [] => true
 | v :: l => v.under n && V.underL n l
def V.underLL (n : Nat) : List (List V) → Bool
 | [] => true
 | e :: l => V.underL n e && V.underLL n l
end
theorem V.underL_iff {n : Nat} : ∀ {l : List V}, V.underL n l = true ↔ ∀ (j : Nat) (x : V), l[j]? = some x → x.under n = true
 | [] => by simp [V.underL]
 | v :: l => by
  rw [V.underL, Bool.and_eq_true, V.underL_iff (l := l)]
  constructor
  ·rintro ⟨h1, h2⟩ j x hj
   cases j with
   | zero => simp at hj; subst hj; exact h1
   | succ j => exact h2 j x (by simpa using hj)
  ·intro h
   exact ⟨h 0 v rfl, fun j x hj => h (j + 1) x (by simpa using hj)⟩
theorem V.underLL_iff {n : Nat} : ∀ {l : List (List V)}, V.underLL n l = true ↔ ∀ (i : Nat) (e : List V) (j : Nat) (x : V), l[i]? = some e → e[j]? = some x → x.under n = true
 | [] => by simp [V.underLL]
 | e :: l => by
  rw [V.underLL, Bool.and_eq_true, V.underLL_iff (l := l), V.underL_iff]
  constructor
  ·rintro ⟨h1, h2⟩ i e' j x hi hj
   cases i with
   | zero => simp at hi; subst hi; exact h1 j x hj
   | succ i => exact h2 i e' j x (by simpa using hi) hj
  ·intro h
   exact ⟨fun j x hj => h 0 e j x rfl hj, fun i e' j x hi hj => h (i + 1) e' j x (by simpa using hi) hj⟩
inductive AObj where
 | var (cells : List V)
 | row (l : List (List V))
 | map (k : IntKind) (f : Int → Option V)
 | tok (n size : Nat)
structure Heap where
 objs : Nat → Option AObj
 next : Nat
def upd {α : Type} (f : Nat → α) (i : Nat) (v : α) : Nat → α := fun j => if j = i then v else f j
def Heap.new (h : Heap) (o : AObj) : Heap := ⟨upd h.objs h.next (some o), h.next + 1⟩
def Heap.set (h : Heap) (id : Nat) (o : AObj) : Heap := ⟨upd h.objs id (some o), h.next⟩
def Heap.kill (h : Heap) (id : Nat) : Heap := ⟨upd h.objs id none, h.next⟩
abbrev Loc := Nat → Option (Nat × List V)
structure St where
 t : Nat → V
 loc : Loc
 h : Heap
inductive Opd where
 | t (n : Nat)
 | c (v : V)
def St.ev (s : St) : Opd → V
 | .t n => s.t n
 | .c v => v
def St.put (s : St) (d : Option Nat) (v : V) : St :=
 match d with
 | some d => { s with t := upd s.t d v }
 | none => s

def getP (loc : Loc) (h : Heap) : V → Option (List V × Nat)
 | .loc s ver off => match loc s with
  | some (ver', cs) => if ver' = ver then some (cs, off) else none
  | none => none
 | .obj id off => match h.objs id with
  | some (.var cs) => some (cs, off)
  | _ => none
 | .elt id i off => match h.objs id with
  | some (.row l) => match l[i]? with
   | some e => some (e, off)
   | none => none
  | _ => none
 | .imm cs off => some (cs, off)
 | _ => none
def sub (cs : List V) (off n : Nat) : Option (List V) := if off + n ≤ cs.length then some ((cs.drop off).take n) else none
def patch {α : Type} (cs : List α) (off : Nat) (vs : List α) : List α := cs.take off ++ (vs ++ cs.drop (off + vs.length))
def putP (loc : Loc) (h : Heap) (p : V) (vs : List V) : Option (Loc × Heap) :=
 match p with
 | .loc s ver off => match loc s with
  | some (ver', cs) => if ver' = ver then (if off + vs.length ≤ cs.length then some (upd loc s (some (ver, patch cs off vs)), h) else none) else none
  | none => none
 | .obj id off => match h.objs id with
  | some (.var cs) => if off + vs.length ≤ cs.length then some (loc, h.set id (.var (patch cs off vs))) else none
  | _ => none
 | .elt id i off => match h.objs id with
  | some (.row l) => match l[i]? with
   | some e => if off + vs.length ≤ e.length then some (loc, h.set id (.row (l.set i (patch e off vs)))) else none
   | none => none
  | _ => none
 | _ => none
def V.addOff (n : Nat) : V → Option V
 | .loc s ver off => some (.loc s ver (off + n))
 | .obj id off => some (.obj id (off + n))
 | .elt id i off => some (.elt id i (off + n))
 | .imm cs off => some (.imm cs (off + n))
 | _ => none
def fresh (loc : Loc) : V → Bool
 | .loc sl ver _ => match loc sl with
  | some (v, _) => v == ver
  | none => false
 | _ => true
def nextVer (loc : Loc) (d : Nat) : Nat := match loc d with
 | some (v, _) => v + 1
 | none => 0

def intBin (op : BinOp) (k : IntKind) (x y : Int) : Option V :=
 match op with
 | .add => some (.int k (k.wrap (x + y)))
 | .sub => some (.int k (k.wrap (x - y)))
 | .mul => some (.int k (k.wrap (x * y)))
 | .quo => if y = 0 then none else some (.int k (k.wrap (x.tdiv y)))
 | .rem => if y = 0 then none else some (.int k (x.tmod y))
 | .and => some (.int k (k.wrap ((BitVec.ofInt k.bits x &&& BitVec.ofInt k.bits y).toNat : Int)))
 | .or => some (.int k (k.wrap ((BitVec.ofInt k.bits x ||| BitVec.ofInt k.bits y).toNat : Int)))
 | .xor => some (.int k (k.wrap ((BitVec.ofInt k.bits x ^^^ BitVec.ofInt k.bits y).toNat : Int)))
 | .eql => some (.bool (decide (x = y)))
 | .neq => some (.bool (!decide (x = y)))
 | .lss => some (.bool (decide (x < y)))
 | .leq => some (.bool (decide (x ≤ y)))
 | .gtr => some (.bool (decide (y < x)))
 | .geq => some (.bool (decide (y ≤ x)))
 | _ => none
def shiftV (op : BinOp) (k : IntKind) (x y : Int) : Option V :=
 if y < 0 then none else
 match op with
 | .shl => some (.int k (k.wrap (x * 2 ^ min y.toNat k.bits)))
 | .shr => some (.int k (x.fdiv (2 ^ min y.toNat k.bits)))
 | _ => none
def binV (op : BinOp) (x y : V) : Option V :=
 match x, y with
 | .int k a, .int k' b =>
  match op with
  | .shl => shiftV .shl k a b
  | .shr => shiftV .shr k a b
  | _ => if k = k' then intBin op k a b else none
 | _, _ => none
inductive EqK where
 | bool | ptr | slice | agg (n : Nat)
 deriving DecidableEq
def eqCells : List V → List V → Option Bool
 | [], [] => some true
 | .int k a :: l, .int k' b :: m => if k = k' then (match eqCells l m with | some r => some (decide (a = b) && r) | none => none) else none
 | _, _ => none
def V.isPtr : V → Bool
 | .obj _ _ => true
 | .elt _ _ _ => true
 | .imm _ _ => true
 | _ => false
def V.isNil : V → Bool
 | .nilp => true
 | _ => false
def eqPtr (x y : V) : Option Bool :=
 if y.isNil = true then (if x.isNil = true then some true else if x.isPtr = true then some false else none)
 else if x.isNil = true then (if y.isPtr = true then some false else none) else none
def eqBool (x y : V) : Option Bool :=
 match x, y with
 | .bool a, .bool b => some (a == b)
 | _, _ => none
def eqSlice (x y : V) : Option Bool :=
 match y with
 | .lst .nil [] => match x with
  | .lst .nil _ => some true
  | .lst (.own _) _ => some false
  | .lst _ (_ :: _) => some false
  | .row _ _ _ _ => some false
  | _ => none
 | _ => none
def eqAgg (n : Nat) (x y : V) : Option Bool :=
 match x, y with
 | .agg a, .agg b => if a.length = n then eqCells a b else none
 | _, _ => none
def eqV (k : EqK) (x y : V) : Option Bool :=
 match k with
 | .bool => eqBool x y
 | .ptr => eqPtr x y
 | .slice => eqSlice x y
 | .agg n => eqAgg n x y
def unV (op : UnOp) (x : V) : Option V :=
 match op, x with
 | .not, .bool b => some (.bool !b)
 | .neg, .int k n => some (.int k (k.wrap (0 - n)))
 | _, _ => none
def fillV : List V → List (Nat × Nat × V) → Option (List V)
 | cs, [] => some cs
 | cs, (off, size, v) :: rest => match v.cells with
  | some vs => if vs.length = size then (if off + size ≤ cs.length then fillV (patch cs off vs) rest else none) else none
  | none => none
def fillL (size : Nat) : List (List V) → List (Nat × V) → Option (List (List V))
 | l, [] => some l
 | l, (i, v) :: rest => match v.cells with
  | some vs => if vs.length = size then (if i < l.length then fillL size (l.set i vs) rest else none) else none
  | none => none
def asNat : Option V → Option (Option Nat)
 | none => some none
 | some (.int _ n) => if 0 ≤ n then some (some n.toNat) else none
 | _ => none
def okSize (size : Nat) : List (List V) → Bool
 | [] => true
 | e :: _ => e.length == size
def hasSize (size : Nat) : List (List V) → Bool
 | [] => false
 | e :: _ => e.length == size
def sliceV (size : Nat) (h : Heap) (x : V) (lo hi mx : Option V) : Option V :=
 match asNat lo, asNat hi, asNat mx with
 | some lo, some hi, some mx =>
  match x with
  | .lst t l =>
   if hi.getD l.length ≤ l.length ∧ lo.getD 0 ≤ hi.getD l.length ∧ okSize size l = true then
    (match mx with
    | none => some (.lst (if t = .nil then .nil else .ro) ((l.take (hi.getD l.length)).drop (lo.getD 0)))
    | some m => if m = hi.getD l.length then some (.lst (if t = .nil then .nil else .exact) ((l.take (hi.getD l.length)).drop (lo.getD 0))) else none) else none
  | .row id off len cap => match h.objs id with
   | some (.row l) => if hi.getD len ≤ cap ∧ lo.getD 0 ≤ hi.getD len ∧ hasSize size l = true then
    (match mx with
    | none => some (.row id (off + lo.getD 0) (hi.getD len - lo.getD 0) (cap - lo.getD 0))
    | some _ => none) else none
   | _ => none
  | _ => none
 | _, _, _ => none
def elemsOf (h : Heap) : V → Option (List (List V))
 | .lst _ l => some l
 | .row id off len _ => match h.objs id with
  | some (.row l) => if off + len ≤ l.length then some ((l.drop off).take len) else none
  | _ => none
 | _ => none

def appendV (size bytes : Nat) (h : Heap) (x y : V) : Option (V × Heap) :=
 match x, elemsOf h y with
 | .lst t l, some m =>
  if m = [] then some (.lst t l, h) else
  if (l.length + m.length) * bytes ≤ 140737488355328 then
  if okSize size m = true ∧ okSize size l = true then
  match t with
  | .nil => some (.lst (.own h.next) (l ++ m), h.new (.tok (l ++ m).length size))
  | .exact => some (.lst (.own h.next) (l ++ m), h.new (.tok (l ++ m).length size))
  | .own t => match h.objs t with
   | some (.tok n sz) => if n = l.length ∧ sz = size then some (.lst (.own h.next) (l ++ m), (h.kill t).new (.tok (l ++ m).length size)) else none
   | _ => none
  | .ro => none
  else none else none
 | _, _ => none
def appendR (size bytes : Nat) (h : Heap) (x y : V) : Option (V × Heap) :=
 match x, elemsOf h y with
 | .lst t l, some m =>
  if (t = .nil ∨ t = .exact) ∧ m ≠ [] ∧ (l.length + m.length) * bytes ≤ 140737488355328 ∧ okSize size l = true ∧ okSize size m = true then
   some (.row h.next 0 (l.length + m.length) (l.length + m.length), h.new (.row (l ++ m)))
  else none
 | .row id off len cap, some m =>
  if m = [] then some (.row id off len cap, h) else
  match h.objs id with
  | some (.row l) =>
   if off + cap ≤ l.length ∧ okSize size m = true ∧ hasSize size l = true then
    (if len + m.length ≤ cap then some (.row id off (len + m.length) cap, h.set id (.row (patch l (off + len) m)))
    else if off = 0 ∧ (len + m.length) * bytes ≤ 140737488355328 then
     some (.row h.next 0 (len + m.length) (len + m.length), (h.kill id).new (.row (l.take len ++ m)))
    else none)
   else none
  | _ => none
 | _, _ => none
def Tag.settle : Tag → Tag
 | .own _ => .ro
 | t => t
def freezeV (h : Heap) : V → Option (V × Heap)
 | .row id off len _ => match h.objs id with
  | some (.row l) => if off + len ≤ l.length then some (.lst .ro ((l.drop off).take len), h.kill id) else none
  | _ => none
 | .lst t l => some (.lst t.settle l, h)
 | _ => none

inductive AK where
 | bad
 | mov (x : Opd)
 | pick (c a b : Opd)
 | alloc (shared : Bool) (zero : List V)
 | box (shared : Bool) (size : Nat) (x : Opd)
 | build (zero : List V) (parts : List (Nat × Nat × Opd))
 | bslice (ref : Bool) (n size : Nat) (zero : List V) (parts : List (Nat × Opd))
 | load (agg : Bool) (size : Nat) (p : Opd)
 | store (size : Nat) (p x : Opd)
 | nilchk (x : Opd)
 | bin (op : BinOp) (x y : Opd)
 | eq (neg : Bool) (k : EqK) (x y : Opd)
 | un (op : UnOp) (x : Opd)
 | conv (k : IntKind) (x : Opd)
 | mkfn (f : FuncId) (first caps : List Opd)
 | mkmap (k : IntKind)
 | mkslice (ref : Bool) (size bytes : Nat) (zero : List V) (len cap : Opd)
 | slice (size : Nat) (x : Opd) (lo hi mx : Option Opd)
 | off (n : Nat) (p : Opd)
 | idxS (size : Nat) (x i : Opd)
 | idxA (n size : Nat) (p i : Opd)
 | fieldV (agg : Bool) (off size : Nat) (x : Opd)
 | idxV (n size : Nat) (agg : Bool) (x i : Opd)
 | lookup (kk : IntKind) (zero : V) (ok : Bool) (m k : Opd)
 | mapset (kk : IntKind) (m k v : Opd)
 | mapdel (kk : IntKind) (m k : Opd)
 | ext (x : Opd) (i : Nat)
 | call (f : FuncId) (args : List Opd)
 | calld (f : Opd) (args : List Opd)
 | len (x : Opd)
 | append (ref : Bool) (size bytes : Nat) (x y : Opd)
 | copy (size : Nat) (x y : Opd)
 | clear (size : Nat) (zero : List V) (x : Opd)
 | minmax (isMax : Bool) (x : Opd) (rest : List Opd)
 | freeze (x : Opd)
 | idxStr (x i : Opd)
inductive Claim where
 | loc (sl : Nat)
 | imm
 | hp
 | lst
 deriving DecidableEq
def Claim.fits : Claim → V → Bool
 | .loc n, .loc sl _ _ => sl == n
 | .imm, .imm _ _ => true
 | .hp, .obj _ _ => true
 | .hp, .elt _ _ _ => true
 | .lst, .lst _ _ => true
 | _, _ => false
structure AOp where
 d : Option Nat
 g : Option (Nat × Bool)
 k : AK
 cl : Option (Opd × Claim) := none
@[simp] def AOp.p (d : Nat) (k : AK) : AOp := ⟨some d, none, k, none⟩
@[simp] def AOp.m (d x : Nat) : AOp := ⟨some d, none, .mov (.t x), none⟩
@[simp] def AOp.q (d j : Nat) (w : Bool) (k : AK) : AOp := ⟨some d, some (j, w), k, none⟩
@[simp] def AOp.n (k : AK) : AOp := ⟨none, none, k, none⟩
@[simp] def AOp.l (d : Nat) (k : AK) (x : Nat) (c : Claim) : AOp := ⟨some d, none, k, some (.t x, c)⟩
@[simp] def Opd.i (n : Int) : Opd := .c (.int .i64 n)
@[simp] def Opd.u (n : Int) : Opd := .c (.int .u64 n)
@[simp] def Opd.b (b : Bool) : Opd := .c (.bool b)
inductive AC where
 | skip
 | ops (l : List AOp)
 | dops (l : List AOp) (pre : List (List Nat))
 | tops (l : List AOp) (pre : List (List Nat))
 | seq (a b : AC)
 | cond (c : Opd) (a b : AC)
 | block (id : Nat) (c : AC)
 | loop (c : AC)
 | exit (id : Nat)
 | scope (body cur : AC)
 | label (l : Nat)
 | goto (l : Nat)
 | ret
 | bad
 | rangeM (pre : List AOp) (m : Opd) (dIt dNx dOk dEn : Nat) (body : List AOp)
inductive ARes where
 | tmp (t : Nat)
 | cell (t size : Nat) (agg : Bool)
structure AFn where
 res : List ARes
 body : AC
 keepA : Bool := false
 keepR : Bool := false
 pure : Bool := false
 ext : Option (List V → Heap → Option (V × Heap)) := none
inductive AExit where
 | normal
 | exit (id : Nat)
 | goto (l : Nat)
 | ret
abbrev CallT := FuncId → List V → Heap → Option (V × Heap)
def madeV (shared : Bool) (d : Option Nat) (loc : Loc) (h : Heap) (cells : List V) : Option (V × Loc × Heap) :=
 if shared then some (.obj h.next 0, loc, h.new (.var cells)) else
 match d with
 | some d => some (.loc d (nextVer loc d) 0, upd loc d (some (nextVer loc d, cells)), h)
 | none => none
def minmaxV (isMax : Bool) : V → List V → Option V
 | v, [] => some v
 | .int k x, .int k' y :: rest => if k = k' then minmaxV isMax (.int k (if isMax then max x y else min x y)) rest else none
 | _, _ => none
def evalK (call : CallT) (d : Option Nat) (s : St) : AK → Option (V × Loc × Heap)
 | .bad => none
 | .mov x => some (s.ev x, s.loc, s.h)
 | .pick c a b => match s.ev c with
  | .bool t => some (if t then s.ev a else s.ev b, s.loc, s.h)
  | _ => none
 | .alloc shared zero => madeV shared d s.loc s.h zero
 | .box shared size x => match (s.ev x).cells with
  | some cs => if cs.length = size then
    madeV shared d s.loc s.h cs else none
  | none => none
 | .build zero parts => match fillV zero (parts.map fun (a, b, o) => (a, b, s.ev o)) with
  | some cs => some (.agg cs, s.loc, s.h)
  | none => none
 | .bslice ref n size zero parts => match fillL size (List.replicate n zero) (parts.map fun (i, o) => (i, s.ev o)) with
  | some l => if ref then some (.row s.h.next 0 n n, s.loc, s.h.new (.row l)) else some (.lst .exact l, s.loc, s.h)
  | none => none
 | .load agg size p => match getP s.loc s.h (s.ev p) with
  | some (cs, off) =>
   if agg then (match sub cs off size with
    | some l => some (.agg l, s.loc, s.h)
    | none => none)
   else (match cs[off]? with
    | some v => some (v, s.loc, s.h)
    | none => none)
  | none => none
 | .store size p x => match (s.ev x).cells with
  | some vs => if vs.length = size then (match putP s.loc s.h (s.ev p) vs with
    | some (loc, h) => some (.tup [], loc, h)
    | none => none) else none
  | none => none
 | .nilchk x => match s.ev x with
  | .loc a b c => match s.loc a with
   | some (b', _) => if b' = b then some (.loc a b c, s.loc, s.h) else none
   | none => none
  | .obj a b => some (.obj a b, s.loc, s.h)
  | .elt a b c => some (.elt a b c, s.loc, s.h)
  | .imm a b => some (.imm a b, s.loc, s.h)
  | .fn f a b => some (.fn f a b, s.loc, s.h)
  | _ => none
 | .bin op x y => match binV op (s.ev x) (s.ev y) with
  | some v => some (v, s.loc, s.h)
  | none => none
 | .eq neg k x y => match eqV k (s.ev x) (s.ev y) with
  | some b => some (.bool (if neg then !b else b), s.loc, s.h)
  | none => none
 | .un op x => match unV op (s.ev x) with
  | some v => some (v, s.loc, s.h)
  | none => none
 | .conv k x => match s.ev x with
  | .int _ n => some (.int k (k.wrap n), s.loc, s.h)
  | _ => none
 | .mkfn f first caps => if (first.all fun o => (s.ev o).leaf) && (caps.all fun o => (s.ev o).leaf) then some (.fn f (first.map s.ev) (caps.map s.ev), s.loc, s.h) else none
 | .mkmap k => some (.map (some s.h.next), s.loc, s.h.new (.map k fun _ => none))
 | .mkslice ref size bytes zero len cap => match s.ev len, s.ev cap with
  | .int .i64 n, .int .i64 c => if 0 ≤ n ∧ n ≤ c ∧ c * bytes ≤ 140737488355328 then
    (if ref then some (.row s.h.next 0 n.toNat c.toNat, s.loc, s.h.new (.row (List.replicate c.toNat zero)))
    else some (.lst (.own s.h.next) (List.replicate n.toNat zero), s.loc, s.h.new (.tok n.toNat size))) else none
  | _, _ => none
 | .slice size x lo hi mx => match sliceV size s.h (s.ev x) (lo.map s.ev) (hi.map s.ev) (mx.map s.ev) with
  | some v => some (v, s.loc, s.h)
  | none => none
 | .off n p => match (s.ev p).addOff n with
  | some v => if fresh s.loc (s.ev p) then some (v, s.loc, s.h) else none
  | none => none
 | .idxS size x i => match s.ev x, s.ev i with
  | .lst _ l, .int _ n => if 0 ≤ n then (match l[n.toNat]? with
    | some e => if e.length = size then some (.imm e 0, s.loc, s.h) else none
    | none => none) else none
  | .row id off len _, .int _ n => if 0 ≤ n ∧ n < len then (match s.h.objs id with
    | some (.row l) => if ((l[off + n.toNat]?).map (·.length)) = some size then some (.elt id (off + n.toNat) 0, s.loc, s.h) else none
    | _ => none) else none
  | _, _ => none
 | .idxA n size p i => match s.ev i with
  | .int _ k => if 0 ≤ k ∧ k < n then (match (s.ev p).addOff (k.toNat * size) with
    | some v => if fresh s.loc (s.ev p) then some (v, s.loc, s.h) else none
    | none => none) else none
  | _ => none
 | .fieldV agg off size x => match s.ev x with
  | .agg cs => if agg then (match sub cs off size with
    | some l => some (.agg l, s.loc, s.h)
    | none => none) else (match cs[off]? with
    | some v => some (v, s.loc, s.h)
    | none => none)
  | _ => none
 | .idxV n size agg x i => match s.ev x, s.ev i with
  | .agg cs, .int _ k => if 0 ≤ k ∧ k < n then
    (if agg then (match sub cs (k.toNat * size) size with
    | some l => some (.agg l, s.loc, s.h)
    | none => none) else (match cs[k.toNat * size]? with
    | some v => some (v, s.loc, s.h)
    | none => none)) else none
  | _, _ => none
 | .lookup kk zero ok m k => match s.ev m, s.ev k with
  | .map none, .int ik _ => if ik = kk then some (if ok then .tup [zero, .bool false] else zero, s.loc, s.h) else none
  | .map (some id), .int ik n => match s.h.objs id with
   | some (.map k' f) => if ik = kk ∧ k' = kk then (match f n with
    | some v => some (if ok then .tup [v, .bool true] else v, s.loc, s.h)
    | none => some (if ok then .tup [zero, .bool false] else zero, s.loc, s.h)) else none
   | _ => none
  | _, _ => none
 | .mapset kk m k v => match s.ev m, s.ev k with
  | .map (some id), .int ik n => match s.h.objs id with
   | some (.map k' f) => if ik = kk ∧ k' = kk ∧ (s.ev v).cells.isSome = true then
     some (.tup [], s.loc, s.h.set id (.map k' fun j => if j = n then some (s.ev v).retag else f j)) else none
   | _ => none
  | _, _ => none
 | .mapdel kk m k => match s.ev m, s.ev k with
  | .map (some id), .int ik n => match s.h.objs id with
   | some (.map k' f) => if ik = kk ∧ k' = kk then some (.tup [], s.loc, s.h.set id (.map k' fun j => if j = n then none else f j)) else none
   | _ => none
  | _, _ => none
 | .ext x i => match s.ev x with
  | .tup l => match l[i]? with
   | some v => some (v, s.loc, s.h)
   | none => none
  | _ => none
 | .call f args => match call f (args.map s.ev) s.h with
  | some (v, h) => some (v, s.loc, h)
  | none => none
 | .calld f args => match s.ev f with
  | .fn f first caps => match call f (first ++ (args.map s.ev ++ caps)) s.h with
   | some (v, h) => some (v, s.loc, h)
   | none => none
  | _ => none
 | .len x => match s.ev x with
  | .lst _ l => some (.int .i64 l.length, s.loc, s.h)
  | .row _ _ n _ => some (.int .i64 n, s.loc, s.h)
  | _ => none
 | .append ref size bytes x y => match (if ref then appendR size bytes s.h (s.ev x) (s.ev y) else appendV size bytes s.h (s.ev x) (s.ev y)) with
  | some (v, h) => some (v, s.loc, h)
  | none => none
 | .copy size x y => match s.ev x, elemsOf s.h (s.ev y) with
  | .row id off len cap, some m => match s.h.objs id with
   | some (.row l) => if off + cap ≤ l.length ∧ len ≤ cap ∧ okSize size m = true ∧ hasSize size l = true then
     some (.int .i64 (min m.length len : Nat), s.loc, s.h.set id (.row (patch l off (m.take len))))
     else none
   | _ => none
  | _, _ => none
 | .clear size zero x => match s.ev x with
  | .row id off len cap => match s.h.objs id with
   | some (.row l) => if off + cap ≤ l.length ∧ len ≤ cap ∧ zero.length = size ∧ hasSize size l = true then
     some (.tup [], s.loc, s.h.set id (.row (patch l off (List.replicate len zero))))
     else none
   | _ => none
  | .lst _ [] => some (.tup [], s.loc, s.h)
  | _ => none
 | .minmax isMax x rest => match minmaxV isMax (s.ev x) (rest.map s.ev) with
  | some v => some (v, s.loc, s.h)
  | none => none
 | .freeze x => match freezeV s.h (s.ev x) with
  | some (v, h) => some (v, s.loc, h)
  | none => none
 | .idxStr x i => match s.ev x, s.ev i with
  | .str b, .int _ n => if 0 ≤ n then (match b[n.toNat]? with
    | some c => some (.int .u8 c.toNat, s.loc, s.h)
    | none => none) else none
  | _, _ => none
def AOp.wanted (o : AOp) (s : St) : Option Bool :=
 match o.g with
 | none => some true
 | some (j, want) => match s.t j with
  | .bool b => some (b == want)
  | .tup [] => some false
  | _ => none
def evalO (call : CallT) (o : AOp) (s : St) : Option (V × Loc × Heap) :=
 match o.cl with
 | none => evalK call o.d s o.k
 | some (x, c) => if c.fits (s.ev x) = true then evalK call o.d s o.k else none
theorem evalO_some {call : CallT} {o : AOp} {s : St} {r : V × Loc × Heap} (h : evalO call o s = some r) : evalK call o.d s o.k = some r := by
 unfold evalO at h
 split at h
 ·exact h
 ·split at h
  ·exact h
  ·cases h
def stepO (call : CallT) (o : AOp) (s : St) : Option St :=
 match o.wanted s with
 | some true => match evalO call o s with
  | some (v, loc, h) => some (St.put ⟨s.t, loc, h⟩ o.d v)
  | none => none
 | some false => some (s.put o.d (.tup []))
 | none => none
def runOps (call : CallT) : List AOp → St → Option St
 | [], s => some s
 | o :: l, s => match stepO call o s with
  | some s' => runOps call l s'
  | none => none
def readyA (pre : List (List Nat)) (listed : Array Bool) : List Nat :=
 (List.range pre.length).filter fun i => !listed.getD i true && (pre.getD i []).all fun j => listed.getD j false
def AllOrd (step : Nat → St → Option St) (pre : List (List Nat)) : Nat → Array Bool → St → St → Prop
 | 0, listed, s, s' => readyA pre listed = [] ∧ s = s'
 | n + 1, listed, s, s' => (readyA pre listed = [] → s = s') ∧
  ∀ i ∈ readyA pre listed, ∃ s1, step i s = some s1 ∧ AllOrd step pre n (listed.setIfInBounds i true) s1 s'
def stepAt (call : CallT) (l : List AOp) (i : Nat) (s : St) : Option St :=
 match l[i]? with
 | some o => stepO call o s
 | none => none
def AllOrdP (step : Nat → St → Option St) (pre : List (List Nat)) (Q : St → Prop) : Nat → Array Bool → St → Prop
 | 0, listed, s => readyA pre listed = [] ∧ Q s
 | n + 1, listed, s => (readyA pre listed = [] → Q s) ∧
  ∀ i ∈ readyA pre listed, ∃ s1, step i s = some s1 ∧ AllOrdP step pre Q n (listed.setIfInBounds i true) s1
def AObj.Under (n : Nat) : AObj → Prop
 | .var cells => V.underL n cells = true
 | .row l => V.underLL n l = true
 | .map _ f => ∀ k v, f k = some v → v.under n = true
 | .tok _ _ => True
def swp (i j id : Nat) : Nat := if id = i then j else if id = j then i else id
structure Twin (s s1 s2 : St) (i j : Nat) : Prop where
 i0 : s.h.next ≤ i
 j0 : s.h.next ≤ j
 i1 : i < s2.h.next
 j1 : j < s2.h.next
 next : s1.h.next = s2.h.next
 objs : ∀ id, s1.h.objs id = s2.h.objs (swp i j id)
 old : ∀ id, id < s.h.next → s2.h.objs id = s.h.objs id
 new : ∀ id ob, s.h.next ≤ id → id < s2.h.next → s2.h.objs id = some ob → ob.Under s.h.next
 loc1 : s1.loc = s.loc
 loc2 : s2.loc = s.loc
 t : ∀ k, (s2.t k = s1.t k ∧ (s.t k = s1.t k ∨ (s1.t k).under s.h.next = true)) ∨ ∃ o n c, (s2.t k = .row i o n c ∧ s1.t k = .row j o n c) ∨ (s2.t k = .row j o n c ∧ s1.t k = .row i o n c)
def EndsAs (s s1 s2 : St) : Prop := s2 = s1 ∨ ∃ i j, Twin s s1 s2 i j

open Classical in
noncomputable def runAny (call : CallT) (l : List AOp) (pre : List (List Nat)) (s : St) : Option St :=
 match runOps call l s with
 | some s1 => if AllOrdP (stepAt call l) pre (EndsAs s s1) l.length (Array.replicate l.length false) s then some s1 else none
 | none => none
def findL : AC → Nat → Option AC
 | .seq a b, l => match findL a l with
  | some rest => some (.seq rest b)
  | none => findL b l
 | .label l', l => if l' == l then some .skip else none
 | _, _ => none
abbrev RunT := AC → St → Option (AExit × St)
def resV1 (s : St) : ARes → Option V
 | .tmp t => some (s.t t)
 | .cell t size agg => match getP s.loc s.h (s.t t) with
  | some (cs, off) => if agg then (match sub cs off size with | some l => some (.agg l) | none => none) else cs[off]?
  | none => none
def resV (s : St) : List ARes → Option (List V)
 | [] => some []
 | r :: l => match resV1 s r, resV s l with
  | some v, some vs => if v.free then some (v :: vs) else none
  | _, _ => none
def initT (args : List V) : Nat → V := fun i => args.getD i .undef

open Classical in
noncomputable def giveH (pure : Bool) (h : Heap) (v : V) (h' : Heap) : Option (V × Heap) :=
 if pure = true then (if (∀ id, id < h.next → h'.objs id = h.objs id) ∧ v.under h.next = true then some (v, h) else none) else some (v, h')
noncomputable def callF (tab : FuncId → Option AFn) (run : RunT) : CallT := fun f args h =>
 match tab f with
 | none => none
 | some fn =>
  if args.all V.free then
  match fn.ext with
  | some e => e args h
  | none =>
  match run fn.body ⟨initT (if fn.keepA then args else args.map V.retag), fun _ => none, h⟩ with
  | some (.normal, s) | some (.ret, s) => match resV s fn.res with
   | some vs =>
    let v := match vs with
     | [v] => v
     | vs => .tup vs
    giveH fn.pure h (if fn.keepR then v else v.retag) s.h
   | none => none
  | _ => none
  else none
def Enum (f : Int → Option V) (ks : List Int) : Prop := ks.Nodup ∧ ∀ n, n ∈ ks ↔ f n ≠ none
def deadR (dNx dOk dEn : Nat) (body : List AOp) (i : Nat) : Bool := i == dNx || i == dOk || i == dEn || body.any (fun o => o.d == some i)

open Classical in
noncomputable def rangeRun (id : Nat) (k : IntKind) (f : Int → Option V) (it dIt dNx dOk dEn : Nat) (body : List AOp) (s0 : St) : List Int → St → Option St
 | [], s => if s.t dIt = .obj it 0 ∧ (∀ i, deadR dNx dOk dEn body i = false → s.t i = s0.t i) ∧ (∀ sl c, s0.loc sl = some c → s.loc sl = some c) then
   some ⟨fun i => if i = dOk then .bool false else if deadR dNx dOk dEn body i then .undef else s0.t i, s0.loc, s.h.set id (.map k f)⟩ else none
 | n :: ks, s => if s.t dIt = .obj it 0 then (match f n with
  | some v => match runOps (fun _ _ _ => none) body { s with t := upd (upd (upd s.t dNx .undef) dOk (.bool true)) dEn (.tup [.int k n, v]) } with
   | some s' => rangeRun id k f it dIt dNx dOk dEn body s0 ks s'
   | none => none
  | none => none) else none
def rangeSt (id dIt : Nat) (s : St) : St := ⟨upd s.t dIt (.obj s.h.next 0), s.loc, ⟨(s.h.kill id).objs, s.h.next + 1⟩⟩

open Classical in
noncomputable def rangeAny (id : Nat) (k : IntKind) (f : Int → Option V) (dIt dNx dOk dEn : Nat) (body : List AOp) (s : St) : Option St :=
 if h : (∃ ks, Enum f ks) ∧ ∃ s', ∀ ks, Enum f ks → rangeRun id k f s.h.next dIt dNx dOk dEn body (rangeSt id dIt s) ks (rangeSt id dIt s) = some s' then some (Classical.choose h.2) else none
noncomputable def codeF (tab : FuncId → Option AFn) (run : RunT) : RunT
 | .skip, s => some (.normal, s)
 | .label _, s => some (.normal, s)
 | .ops l, s => match runOps (callF tab run) l s with
  | some s' => some (.normal, s')
  | none => none
 | .dops l pre, s => match runAny (callF tab run) l pre s with
  | some s' => some (.normal, s')
  | none => none
 | .tops l _, s => match runOps (callF tab run) l s with
  | some s' => some (.normal, s')
  | none => none
 | .seq a b, s => match run a s with
  | some (.normal, s') => run b s'
  | r => r
 | .cond c a b, s => match s.ev c with
  | .bool t => if t then run a s else run b s
  | _ => none
 | .block id c, s => match run c s with
  | some (.exit id', s') => if id' = id then some (.normal, s') else some (.exit id', s')
  | r => r
 | .loop c, s => match run c s with
  | some (.normal, s') => run (.loop c) s'
  | r => r
 | .exit id, s => some (.exit id, s)
 | .scope body cur, s => match run cur s with
  | some (.goto l, s') => match findL body l with
   | some rest => run (.scope body rest) s'
   | none => some (.goto l, s')
  | r => r
 | .goto l, s => some (.goto l, s)
 | .ret, s => some (.ret, s)
 | .bad, _ => none
 | .rangeM pre m dIt dNx dOk dEn body, s => match runOps (callF tab run) pre s with
  | some s' => match s'.ev m with
   | .map (some id) => match s'.h.objs id with
    | some (.map k f) => match rangeAny id k f dIt dNx dOk dEn body s' with
     | some s'' => some (.normal, s'')
     | none => none
    | _ => none
   | _ => none
  | none => none
noncomputable def codeK (tab : FuncId → Option AFn) : Nat → RunT
 | 0 => fun _ _ => none
 | n + 1 => codeF tab (codeK tab n)

end Go.LS

/- The abstract machine without rounds: what compact code comes to at all, and its equations. -/
namespace Go.LS
def RunLe (a b : RunT) : Prop := ∀ c s r, a c s = some r → b c s = some r
def CallLe (a b : CallT) : Prop := ∀ f x h r, a f x h = some r → b f x h = some r
theorem callF_mono {tab : FuncId → Option AFn} {a b : RunT} (hl : RunLe a b) : CallLe (callF tab a) (callF tab b) := by
 intro f x h r hr
 unfold callF at *
 split at hr
 ·cases hr
 ·rename_i fn hfn
  split at hr
  ·rename_i hfree
   simp only [hfree, if_true]
   split at hr
   ·exact hr
   ·split at hr
    ·rename_i s hs; rw [hl _ _ _ hs]; exact hr
    ·rename_i s hs; rw [hl _ _ _ hs]; exact hr
    ·cases hr
  ·cases hr
theorem evalK_mono {a b : CallT} (hl : CallLe a b) (d : Option Nat) (s : St) (k : AK) (r : V × Loc × Heap) (h : evalK a d s k = some r) : evalK b d s k = some r := by
 cases k with
 | call f args =>
  simp only [evalK] at *
  split at h
  ·rename_i v h' hc; rw [hl _ _ _ _ hc]; exact h
  ·cases h
 | calld f args =>
  simp only [evalK] at *
  split at h
  ·rename_i f' first caps hf
   split at h
   ·rename_i v h' hc; rw [hl _ _ _ _ hc]; exact h
   ·cases h
  ·cases h
 | _ => exact h
theorem evalO_mono {a b : CallT} (hl : CallLe a b) (o : AOp) (s : St) (r : V × Loc × Heap) (h : evalO a o s = some r) : evalO b o s = some r := by
 unfold evalO at *
 split at h
 ·exact evalK_mono hl _ _ _ _ h
 ·split at h
  ·rename_i hf; rw [if_pos hf]; exact evalK_mono hl _ _ _ _ h
  ·cases h
theorem stepO_mono {a b : CallT} (hl : CallLe a b) (o : AOp) (s s' : St) (h : stepO a o s = some s') : stepO b o s = some s' := by
 unfold stepO at *
 split at h
 ·split at h
  ·rename_i v loc h' he; rw [evalO_mono hl _ _ _ he]; exact h
  ·cases h
 ·exact h
 ·cases h
theorem runOps_mono {a b : CallT} (hl : CallLe a b) : ∀ (l : List AOp) (s s' : St), runOps a l s = some s' → runOps b l s = some s'
 | [], _, _, h => h
 | o :: l, s, s', h => by
  unfold runOps at *
  split at h
  ·rename_i s1 h1; rw [stepO_mono hl _ _ _ h1]; exact runOps_mono hl l s1 s' h
  ·cases h
theorem AllOrd_mono {f g : Nat → St → Option St} (hl : ∀ i s s', f i s = some s' → g i s = some s') {pre : List (List Nat)} :
  ∀ (n : Nat) (listed : Array Bool) (s s' : St), AllOrd f pre n listed s s' → AllOrd g pre n listed s s'
 | 0, _, _, _, h => h
 | n + 1, _, _, _, h => ⟨h.1, fun i hi => let ⟨s1, h1, h2⟩ := h.2 i hi; ⟨s1, hl _ _ _ h1, AllOrd_mono hl n _ _ _ h2⟩⟩
theorem AllOrd_unique {f : Nat → St → Option St} {pre : List (List Nat)} :
  ∀ (n : Nat) (listed : Array Bool) (s s1 s2 : St), AllOrd f pre n listed s s1 → AllOrd f pre n listed s s2 → s1 = s2
 | 0, _, _, _, _, h, h' => h.2.symm.trans h'.2
 | n + 1, listed, s, s1, s2, h, h' => by
  cases hr : readyA pre listed with
  | nil => exact (h.1 hr).symm.trans (h'.1 hr)
  | cons i l =>
   obtain ⟨u, hu, hu'⟩ := h.2 i (by rw [hr]; simp)
   obtain ⟨u2, hu2, hu2'⟩ := h'.2 i (by rw [hr]; simp)
   rw [hu] at hu2
   injection hu2 with hu2
   subst hu2
   exact AllOrd_unique n _ _ _ _ hu' hu2'
theorem stepAt_mono {a b : CallT} (hl : CallLe a b) (l : List AOp) (i : Nat) (s s' : St) (h : stepAt a l i s = some s') : stepAt b l i s = some s' := by
 unfold stepAt at *
 split at h
 ·exact stepO_mono hl _ _ _ h
 ·cases h
theorem AllOrdP_mono {f g : Nat → St → Option St} (hl : ∀ i s s', f i s = some s' → g i s = some s') {pre : List (List Nat)} {Q : St → Prop} :
  ∀ (n : Nat) (listed : Array Bool) (s : St), AllOrdP f pre Q n listed s → AllOrdP g pre Q n listed s
 | 0, _, _, h => h
 | n + 1, _, _, h => ⟨h.1, fun i hi => let ⟨s1, h1, h2⟩ := h.2 i hi; ⟨s1, hl _ _ _ h1, AllOrdP_mono hl n _ _ h2⟩⟩
theorem AllOrd.toP {f : Nat → St → Option St} {pre : List (List Nat)} {Q : St → Prop} {s' : St} (hQ : Q s') :
  ∀ (n : Nat) (listed : Array Bool) (s : St), AllOrd f pre n listed s s' → AllOrdP f pre Q n listed s
 | 0, _, _, h => ⟨h.1, by rw [h.2]; exact hQ⟩
 | n + 1, _, _, h => ⟨fun hr => by rw [h.1 hr]; exact hQ, fun i hi => let ⟨s1, h1, h2⟩ := h.2 i hi; ⟨s1, h1, AllOrd.toP hQ n _ _ h2⟩⟩
theorem runAny_iff {call : CallT} {l : List AOp} {pre : List (List Nat)} {s s' : St} :
  runAny call l pre s = some s' ↔ runOps call l s = some s' ∧ AllOrdP (stepAt call l) pre (EndsAs s s') l.length (Array.replicate l.length false) s := by
 unfold runAny
 constructor
 ·intro h
  split at h
  ·rename_i s1 h1
   split at h
   ·rename_i h2
    injection h with h
    subst h
    exact ⟨h1, h2⟩
   ·cases h
  ·cases h
 ·rintro ⟨h1, h2⟩
  rw [h1]
  simp only
  rw [if_pos h2]
theorem runAny_mono {a b : CallT} (hl : CallLe a b) {l : List AOp} {pre : List (List Nat)} {s s' : St} (h : runAny a l pre s = some s') :
  runAny b l pre s = some s' := by
 rw [runAny_iff] at *
 exact ⟨runOps_mono hl _ _ _ h.1, AllOrdP_mono (fun i s s' => stepAt_mono hl l i s s') _ _ _ h.2⟩
theorem codeF_mono {tab : FuncId → Option AFn} {a b : RunT} (hl : RunLe a b) : RunLe (codeF tab a) (codeF tab b) := by
 intro c s r h
 cases c with
 | ops l =>
  simp only [codeF] at *
  split at h
  ·rename_i s' hs; rw [runOps_mono (callF_mono hl) _ _ _ hs]; exact h
  ·cases h
 | dops l pre =>
  simp only [codeF] at *
  split at h
  ·rename_i s' hs; rw [runAny_mono (callF_mono hl) hs]; exact h
  ·cases h
 | tops l pre =>
  simp only [codeF] at *
  split at h
  ·rename_i s' hs; rw [runOps_mono (callF_mono hl) _ _ _ hs]; exact h
  ·cases h
 | seq x y =>
  simp only [codeF] at *
  split at h
  ·rename_i s' hs; rw [hl _ _ _ hs]; exact hl _ _ _ h
  ·rename_i hn; rw [hl _ _ _ h]; split
   ·rename_i s' he; injection he with he; subst he; exact absurd h (hn _)
   ·rfl
 | cond c x y =>
  simp only [codeF] at *
  split at h
  ·rename_i t ht
   cases t
   ·exact hl _ _ _ h
   ·exact hl _ _ _ h
  ·cases h
 | block id c =>
  simp only [codeF] at *
  split at h
  ·rename_i id' s' hs; rw [hl _ _ _ hs]; exact h
  ·rename_i hn; rw [hl _ _ _ h]; split
   ·rename_i id' s' he; injection he with he; subst he; exact absurd h (hn _ _)
   ·rfl
 | loop c =>
  simp only [codeF] at *
  split at h
  ·rename_i s' hs; rw [hl _ _ _ hs]; exact hl _ _ _ h
  ·rename_i hn; rw [hl _ _ _ h]; split
   ·rename_i s' he; injection he with he; subst he; exact absurd h (hn _)
   ·rfl
 | scope body cur =>
  simp only [codeF] at *
  split at h
  ·rename_i l s' hs
   rw [hl _ _ _ hs]
   dsimp only
   split at h
   ·exact hl _ _ _ h
   ·exact h
  ·rename_i hn; rw [hl _ _ _ h]; split
   ·rename_i l s' he; injection he with he; subst he; exact absurd h (hn _ _)
   ·rfl
 | rangeM pre m dIt dNx dOk dEn body =>
  simp only [codeF] at *
  split at h
  ·rename_i s' hs; rw [runOps_mono (callF_mono hl) _ _ _ hs]; exact h
  ·cases h
 | _ => exact h
theorem codeK_succ {tab : FuncId → Option AFn} : ∀ n, RunLe (codeK tab n) (codeK tab (n + 1))
 | 0 => fun _ _ _ h => by cases h
 | n + 1 => codeF_mono (codeK_succ n)
theorem codeK_le {tab : FuncId → Option AFn} {n m : Nat} (h : n ≤ m) : RunLe (codeK tab n) (codeK tab m) := by
 induction h with
 | refl => exact fun _ _ _ h => h
 | step _ ih => exact fun c s r h => codeK_succ _ _ _ _ (ih c s r h)

open Classical in
noncomputable def codeD (tab : FuncId → Option AFn) : RunT := fun c s =>
 if h : ∃ r n, codeK tab n c s = some r then some (Classical.choose h) else none
theorem codeD_iff {tab : FuncId → Option AFn} {c : AC} {s : St} {r : AExit × St} : codeD tab c s = some r ↔ ∃ n, codeK tab n c s = some r := by
 have key : ∀ {r r' : AExit × St} {n m : Nat}, codeK tab n c s = some r → codeK tab m c s = some r' → r = r' := by
  intro r r' n m h h'
  have h1 := codeK_le (Nat.le_max_left n m) _ _ _ h
  have h2 := codeK_le (Nat.le_max_right n m) _ _ _ h'
  rw [h1] at h2
  injection h2
 unfold codeD
 constructor
 ·intro h
  split at h
  ·rename_i hx
   injection h with h
   subst h
   exact Classical.choose_spec hx
  ·cases h
 ·rintro ⟨n, h⟩
  rw [dif_pos ⟨r, n, h⟩]
  obtain ⟨m, hm⟩ := Classical.choose_spec (p := fun r => ∃ n, codeK tab n c s = some r) ⟨r, n, h⟩
  congr 1
  exact key hm h
theorem codeK_leD {tab : FuncId → Option AFn} (n : Nat) : RunLe (codeK tab n) (codeD tab) := fun _ _ _ h => codeD_iff.2 ⟨n, h⟩
noncomputable def callD (tab : FuncId → Option AFn) : CallT := callF tab (codeD tab)

section cont
variable {tab : FuncId → Option AFn}
theorem callF_cont {f : FuncId} {x : List V} {h : Heap} {r : V × Heap} (hr : callF tab (codeD tab) f x h = some r) : ∃ n, callF tab (codeK tab n) f x h = some r := by
 unfold callF at *
 split at hr
 ·cases hr
 ·rename_i fn hfn
  split at hr
  ·rename_i hfree
   simp only [hfree, if_true]
   split at hr
   ·exact ⟨0, hr⟩
   ·split at hr
    ·rename_i s hs; obtain ⟨n, hn⟩ := codeD_iff.1 hs; exact ⟨n, by rw [hn]; exact hr⟩
    ·rename_i s hs; obtain ⟨n, hn⟩ := codeD_iff.1 hs; exact ⟨n, by rw [hn]; exact hr⟩
    ·cases hr
  ·cases hr
theorem evalK_cont {d : Option Nat} {s : St} {k : AK} {r : V × Loc × Heap} (h : evalK (callF tab (codeD tab)) d s k = some r) :
  ∃ n, evalK (callF tab (codeK tab n)) d s k = some r := by
 cases k with
 | call f args =>
  simp only [evalK] at *
  split at h
  ·rename_i v h' hc; obtain ⟨n, hn⟩ := callF_cont hc; exact ⟨n, by rw [hn]; exact h⟩
  ·cases h
 | calld f args =>
  simp only [evalK] at *
  split at h
  ·rename_i f' first caps hf
   split at h
   ·rename_i v h' hc; obtain ⟨n, hn⟩ := callF_cont hc; exact ⟨n, by rw [hn]; exact h⟩
   ·cases h
  ·cases h
 | _ => exact ⟨0, h⟩
theorem evalO_cont {o : AOp} {s : St} {r : V × Loc × Heap} (h : evalO (callF tab (codeD tab)) o s = some r) :
  ∃ n, evalO (callF tab (codeK tab n)) o s = some r := by
 unfold evalO at *
 split at h
 ·exact evalK_cont h
 ·split at h
  ·rename_i hf; obtain ⟨n, hn⟩ := evalK_cont h; exact ⟨n, by rw [if_pos hf]; exact hn⟩
  ·cases h
theorem stepO_cont {o : AOp} {s s' : St} (h : stepO (callF tab (codeD tab)) o s = some s') : ∃ n, stepO (callF tab (codeK tab n)) o s = some s' := by
 unfold stepO at *
 split at h
 ·split at h
  ·rename_i v loc h' he; obtain ⟨n, hn⟩ := evalO_cont he; exact ⟨n, by rw [hn]; exact h⟩
  ·cases h
 ·exact ⟨0, h⟩
 ·cases h
theorem callK_le {n m : Nat} (h : n ≤ m) : CallLe (callF tab (codeK tab n)) (callF tab (codeK tab m)) := callF_mono (codeK_le h)
theorem runOps_cont : ∀ {l : List AOp} {s s' : St}, runOps (callF tab (codeD tab)) l s = some s' → ∃ n, runOps (callF tab (codeK tab n)) l s = some s'
 | [], _, _, h => ⟨0, h⟩
 | o :: l, s, s', h => by
  unfold runOps at h
  split at h
  ·rename_i s1 h1
   obtain ⟨n, hn⟩ := stepO_cont h1
   obtain ⟨m, hm⟩ := runOps_cont h
   refine ⟨max n m, ?_⟩
   unfold runOps
   rw [stepO_mono (callK_le (Nat.le_max_left n m)) _ _ _ hn]
   exact runOps_mono (callK_le (Nat.le_max_right n m)) _ _ _ hm
  ·cases h
theorem exists_all {α : Type} {p : Nat → α → Prop} (hm : ∀ n m a, n ≤ m → p n a → p m a) : ∀ (l : List α), (∀ a ∈ l, ∃ n, p n a) → ∃ n, ∀ a ∈ l, p n a
 | [], _ => ⟨0, by simp⟩
 | a :: l, h => by
  obtain ⟨n, hn⟩ := h a (by simp)
  obtain ⟨m, hm'⟩ := exists_all hm l (fun b hb => h b (by simp [hb]))
  refine ⟨max n m, fun b hb => ?_⟩
  rcases List.mem_cons.1 hb with rfl | hb
  ·exact hm _ _ _ (Nat.le_max_left n m) hn
  ·exact hm _ _ _ (Nat.le_max_right n m) (hm' b hb)
theorem stepAt_cont {l : List AOp} {i : Nat} {s s' : St} (h : stepAt (callF tab (codeD tab)) l i s = some s') : ∃ n, stepAt (callF tab (codeK tab n)) l i s = some s' := by
 unfold stepAt at *
 split at h
 ·exact stepO_cont h
 ·cases h
theorem AllOrdP_cont {l : List AOp} {pre : List (List Nat)} {Q : St → Prop} : ∀ {k : Nat} {listed : Array Bool} {s : St}, AllOrdP (stepAt (callF tab (codeD tab)) l) pre Q k listed s →
  ∃ n, AllOrdP (stepAt (callF tab (codeK tab n)) l) pre Q k listed s
 | 0, _, _, h => ⟨0, h⟩
 | k + 1, listed, s, h => by
  obtain ⟨h0, h1⟩ := h
  have := exists_all (p := fun n i => ∃ s1, stepAt (callF tab (codeK tab n)) l i s = some s1 ∧ AllOrdP (stepAt (callF tab (codeK tab n)) l) pre Q k (listed.setIfInBounds i true) s1)
   (fun n m i hnm ⟨s1, ha, hb⟩ => ⟨s1, stepAt_mono (callK_le hnm) _ _ _ _ ha, AllOrdP_mono (fun i s s' => stepAt_mono (callK_le hnm) l i s s') _ _ _ hb⟩)
   (readyA pre listed) (fun i hi => by
    obtain ⟨s1, ha, hb⟩ := h1 i hi
    obtain ⟨n, hn⟩ := stepAt_cont ha
    obtain ⟨m, hm⟩ := AllOrdP_cont hb
    exact ⟨max n m, s1, stepAt_mono (callK_le (Nat.le_max_left n m)) _ _ _ _ hn,
     AllOrdP_mono (fun i s s' => stepAt_mono (callK_le (Nat.le_max_right n m)) l i s s') _ _ _ hm⟩)
  obtain ⟨n, hn⟩ := this
  exact ⟨n, h0, hn⟩
theorem codeF_cont {c : AC} {s : St} {r : AExit × St} (h : codeF tab (codeD tab) c s = some r) : ∃ n, codeF tab (codeK tab n) c s = some r := by
 cases c with
 | ops l =>
  simp only [codeF] at *
  split at h
  ·rename_i s' hs; obtain ⟨n, hn⟩ := runOps_cont hs; exact ⟨n, by rw [hn]; exact h⟩
  ·cases h
 | dops l pre =>
  simp only [codeF] at *
  split at h
  ·rename_i s' hs
   rw [runAny_iff] at hs
   obtain ⟨n, hn⟩ := AllOrdP_cont hs.2
   obtain ⟨m, hm⟩ := runOps_cont hs.1
   exact ⟨max n m, by rw [runAny_iff.2 ⟨runOps_mono (callK_le (Nat.le_max_right n m)) _ _ _ hm, AllOrdP_mono (fun i s s' => stepAt_mono (callK_le (Nat.le_max_left n m)) l i s s') _ _ _ hn⟩]; exact h⟩
  ·cases h
 | tops l pre =>
  simp only [codeF] at *
  split at h
  ·rename_i s' hs; obtain ⟨n, hn⟩ := runOps_cont hs; exact ⟨n, by rw [hn]; exact h⟩
  ·cases h
 | seq x y =>
  simp only [codeF] at *
  split at h
  ·rename_i s' hs
   obtain ⟨n, hn⟩ := codeD_iff.1 hs
   obtain ⟨m, hm⟩ := codeD_iff.1 h
   exact ⟨max n m, by rw [codeK_le (Nat.le_max_left n m) _ _ _ hn]; exact codeK_le (Nat.le_max_right n m) _ _ _ hm⟩
  ·rename_i hn
   obtain ⟨n, hn'⟩ := codeD_iff.1 h
   refine ⟨n, ?_⟩
   rw [hn']; split
   ·rename_i s' he; injection he with he; subst he; exact absurd h (hn _)
   ·rfl
 | cond c x y =>
  simp only [codeF] at *
  split at h
  ·rename_i t ht
   cases t
   ·obtain ⟨n, hn⟩ := codeD_iff.1 (by simpa using h); exact ⟨n, by simpa using hn⟩
   ·obtain ⟨n, hn⟩ := codeD_iff.1 (by simpa using h); exact ⟨n, by simpa using hn⟩
  ·cases h
 | block id c =>
  simp only [codeF] at *
  split at h
  ·rename_i id' s' hs; obtain ⟨n, hn⟩ := codeD_iff.1 hs; exact ⟨n, by rw [hn]; exact h⟩
  ·rename_i hn
   obtain ⟨n, hn'⟩ := codeD_iff.1 h
   refine ⟨n, ?_⟩
   rw [hn']; split
   ·rename_i id' s' he; injection he with he; subst he; exact absurd h (hn _ _)
   ·rfl
 | loop c =>
  simp only [codeF] at *
  split at h
  ·rename_i s' hs
   obtain ⟨n, hn⟩ := codeD_iff.1 hs
   obtain ⟨m, hm⟩ := codeD_iff.1 h
   exact ⟨max n m, by rw [codeK_le (Nat.le_max_left n m) _ _ _ hn]; exact codeK_le (Nat.le_max_right n m) _ _ _ hm⟩
  ·rename_i hn
   obtain ⟨n, hn'⟩ := codeD_iff.1 h
   refine ⟨n, ?_⟩
   rw [hn']; split
   ·rename_i s' he; injection he with he; subst he; exact absurd h (hn _)
   ·rfl
 | scope body cur =>
  simp only [codeF] at *
  split at h
  ·rename_i l s' hs
   obtain ⟨n, hn⟩ := codeD_iff.1 hs
   split at h
   ·rename_i rest hf
    obtain ⟨m, hm⟩ := codeD_iff.1 h
    refine ⟨max n m, ?_⟩
    rw [codeK_le (Nat.le_max_left n m) _ _ _ hn]
    simp only [hf]
    exact codeK_le (Nat.le_max_right n m) _ _ _ hm
   ·rename_i hf
    refine ⟨n, ?_⟩
    rw [hn]
    simp only [hf]
    exact h
  ·rename_i hn
   obtain ⟨n, hn'⟩ := codeD_iff.1 h
   refine ⟨n, ?_⟩
   rw [hn']; split
   ·rename_i l s' he; injection he with he; subst he; exact absurd h (hn _ _)
   ·rfl
 | rangeM pre m dIt dNx dOk dEn body =>
  simp only [codeF] at *
  split at h
  ·rename_i s' hs; obtain ⟨n, hn⟩ := runOps_cont hs; exact ⟨n, by rw [hn]; exact h⟩
  ·cases h
 | _ => exact ⟨0, h⟩
theorem codeD_eq (c : AC) (s : St) : codeD tab c s = codeF tab (codeD tab) c s := by
 cases h : codeF tab (codeD tab) c s with
 | some r =>
  obtain ⟨n, hn⟩ := codeF_cont h
  exact codeD_iff.2 ⟨n + 1, hn⟩
 | none =>
  cases h' : codeD tab c s with
  | none => rfl
  | some r =>
   obtain ⟨n, hn⟩ := codeD_iff.1 h'
   cases n with
   | zero => cases hn
   | succ n => rw [codeF_mono (codeK_leD n) _ _ _ hn] at h; cases h
theorem codeD_skip (s : St) : codeD tab .skip s = some (.normal, s) := codeD_eq _ _
theorem codeD_label (l : Nat) (s : St) : codeD tab (.label l) s = some (.normal, s) := codeD_eq _ _
theorem codeD_ops (l : List AOp) (s : St) : codeD tab (.ops l) s = match runOps (callD tab) l s with
  | some s' => some (.normal, s')
  | none => none := codeD_eq _ _
theorem codeD_tops (l : List AOp) (pre : List (List Nat)) (s : St) : codeD tab (.tops l pre) s = match runOps (callD tab) l s with
  | some s' => some (.normal, s')
  | none => none := codeD_eq _ _
theorem codeD_dops (l : List AOp) (pre : List (List Nat)) (s : St) : codeD tab (.dops l pre) s = match runAny (callD tab) l pre s with
  | some s' => some (.normal, s')
  | none => none := codeD_eq _ _
theorem codeD_seq (a b : AC) (s : St) : codeD tab (.seq a b) s = match codeD tab a s with
  | some (.normal, s') => codeD tab b s'
  | r => r := codeD_eq _ _
theorem codeD_cond (c : Opd) (a b : AC) (s : St) : codeD tab (.cond c a b) s = match s.ev c with
  | .bool t => if t then codeD tab a s else codeD tab b s
  | _ => none := codeD_eq _ _
theorem codeD_block (id : Nat) (c : AC) (s : St) : codeD tab (.block id c) s = match codeD tab c s with
  | some (.exit id', s') => if id' = id then some (.normal, s') else some (.exit id', s')
  | r => r := codeD_eq _ _
theorem codeD_loop (c : AC) (s : St) : codeD tab (.loop c) s = match codeD tab c s with
  | some (.normal, s') => codeD tab (.loop c) s'
  | r => r := codeD_eq _ _
theorem codeD_exit (id : Nat) (s : St) : codeD tab (.exit id) s = some (.exit id, s) := codeD_eq _ _
theorem codeD_scope (body cur : AC) (s : St) : codeD tab (.scope body cur) s = match codeD tab cur s with
  | some (.goto l, s') => match findL body l with
   | some rest => codeD tab (.scope body rest) s'
   | none => some (.goto l, s')
  | r => r := codeD_eq _ _
theorem codeD_goto (l : Nat) (s : St) : codeD tab (.goto l) s = some (.goto l, s) := codeD_eq _ _
theorem codeD_ret (s : St) : codeD tab .ret s = some (.ret, s) := codeD_eq _ _
theorem codeD_rangeM (pre : List AOp) (m : Opd) (dIt dNx dOk dEn : Nat) (body : List AOp) (s : St) :
  codeD tab (.rangeM pre m dIt dNx dOk dEn body) s = match runOps (callD tab) pre s with
  | some s' => match s'.ev m with
   | .map (some id) => match s'.h.objs id with
    | some (.map k f) => match rangeAny id k f dIt dNx dOk dEn body s' with
     | some s'' => some (.normal, s'')
     | none => none
    | _ => none
   | _ => none
  | none => none := codeD_eq _ _

end cont
end Go.LS

/- A region whose order is open comes to what its text's order comes to: by what its operations look at and what they change. -/
namespace Go.LS

def Opd.tmps : Opd → List Nat
 | .t n => [n]
 | .c _ => []
def optTmps : Option Opd → List Nat
 | some x => x.tmps
 | none => []
def AK.tmps : AK → List Nat
 | .bad => []
 | .mov x => x.tmps
 | .pick c a b => c.tmps ++ (a.tmps ++ b.tmps)
 | .alloc _ _ => []
 | .box _ _ x => x.tmps
 | .build _ parts => parts.flatMap fun p => p.2.2.tmps
 | .bslice _ _ _ _ parts => parts.flatMap fun p => p.2.tmps
 | .load _ _ p => p.tmps
 | .store _ p x => p.tmps ++ x.tmps
 | .nilchk x => x.tmps
 | .bin _ x y => x.tmps ++ y.tmps
 | .eq _ _ x y => x.tmps ++ y.tmps
 | .un _ x => x.tmps
 | .conv _ x => x.tmps
 | .mkfn _ first caps => first.flatMap Opd.tmps ++ caps.flatMap Opd.tmps
 | .mkmap _ => []
 | .mkslice _ _ _ _ n c => n.tmps ++ c.tmps
 | .slice _ x lo hi mx => x.tmps ++ (optTmps lo ++ (optTmps hi ++ optTmps mx))
 | .off _ p => p.tmps
 | .idxS _ x i => x.tmps ++ i.tmps
 | .idxA _ _ p i => p.tmps ++ i.tmps
 | .fieldV _ _ _ x => x.tmps
 | .idxV _ _ _ x i => x.tmps ++ i.tmps
 | .lookup _ _ _ m k => m.tmps ++ k.tmps
 | .mapset _ m k v => m.tmps ++ (k.tmps ++ v.tmps)
 | .mapdel _ m k => m.tmps ++ k.tmps
 | .ext x _ => x.tmps
 | .call _ args => args.flatMap Opd.tmps
 | .calld f args => f.tmps ++ args.flatMap Opd.tmps
 | .len x => x.tmps
 | .append _ _ _ x y => x.tmps ++ y.tmps
 | .copy _ x y => x.tmps ++ y.tmps
 | .clear _ _ x => x.tmps
 | .minmax _ x rest => x.tmps ++ rest.flatMap Opd.tmps
 | .freeze x => x.tmps
 | .idxStr x i => x.tmps ++ i.tmps
inductive LU where
 | none | one (n : Nat) | all
 deriving DecidableEq
def LU.has : LU → Nat → Prop
 | .none, _ => False
 | .one m, n => n = m
 | .all, _ => True
def LU.apart : LU → LU → Bool
 | .none, _ => true
 | _, .none => true
 | .one m, .one n => m != n
 | _, _ => false
theorem LU.apart_spec {a b : LU} (h : a.apart b = true) (n : Nat) (ha : a.has n) (hb : b.has n) : False := by
 cases a <;> cases b <;> simp_all [LU.apart, LU.has]
structure Foot where
 ul : LU   -- locals looked at
 sl : LU   -- locals changed
 uh : Bool -- is the heap looked at
 sh : Bool -- is it changed
def heapOnly (c : Option (Opd × Claim)) (p : Opd) : Bool :=
 match c, p with
 | some (.t m, .hp), .t n => m == n
 | _, _ => false
def ptrUse (c : Option (Opd × Claim)) (p : Opd) : LU × Bool :=
 match c, p with
 | some (.t m, .loc sl), .t n => if m = n then (.one sl, false) else (.all, true)
 | some (.t m, .imm), .t n => if m = n then (.none, false) else (.all, true)
 | some (.t m, .hp), .t n => if m = n then (.none, true) else (.all, true)
 | some (.t m, .lst), .t n => if m = n then (.none, false) else (.all, true)
 | _, _ => (.all, true)
def AOp.foot (o : AOp) : Foot :=
 match o.k with
 | .alloc true _ => ⟨.none, .none, true, true⟩
 | .alloc false _ => match o.d with | some d => ⟨.one d, .one d, false, false⟩ | none => ⟨.none, .none, false, false⟩
 | .box true _ _ => ⟨.none, .none, true, true⟩
 | .box false _ _ => match o.d with | some d => ⟨.one d, .one d, false, false⟩ | none => ⟨.none, .none, false, false⟩
 | .bslice ref _ _ _ _ => ⟨.none, .none, ref, ref⟩
 | .load _ _ p => ⟨(ptrUse o.cl p).1, .none, (ptrUse o.cl p).2, false⟩
 | .store _ p _ => ⟨(ptrUse o.cl p).1, (ptrUse o.cl p).1, (ptrUse o.cl p).2, (ptrUse o.cl p).2⟩
 | .nilchk p => ⟨(ptrUse o.cl p).1, .none, false, false⟩
 | .off _ p => ⟨(ptrUse o.cl p).1, .none, false, false⟩
 | .idxA _ _ p _ => ⟨(ptrUse o.cl p).1, .none, false, false⟩
 | .idxS _ x _ => ⟨.none, .none, (ptrUse o.cl x).2, false⟩
 | .slice _ x _ _ _ => ⟨.none, .none, (ptrUse o.cl x).2, false⟩
 | .lookup _ _ _ _ _ => ⟨.none, .none, true, false⟩
 | .mkmap _ => ⟨.none, .none, true, true⟩
 | .mkslice _ _ _ _ _ _ => ⟨.none, .none, true, true⟩
 | .mapset _ _ _ _ => ⟨.none, .none, true, true⟩
 | .mapdel _ _ _ => ⟨.none, .none, true, true⟩
 | .call _ _ => ⟨.none, .none, true, true⟩
 | .calld _ _ => ⟨.none, .none, true, true⟩
 | .append _ _ _ _ _ => ⟨.none, .none, true, true⟩
 | .copy _ _ _ => ⟨.none, .none, true, true⟩
 | .clear _ _ _ => ⟨.none, .none, true, true⟩
 | .freeze _ => ⟨.none, .none, true, true⟩
 | _ => ⟨.none, .none, false, false⟩
structure Alike (ts : List Nat) (f : Foot) (s s2 : St) : Prop where
 t : ∀ n ∈ ts, s2.t n = s.t n
 l : ∀ n, f.ul.has n → s2.loc n = s.loc n
 h : f.uh = true → s2.h = s.h
def SameDo (f : Foot) (s s2 : St) (loc loc2 : Loc) (h h2 : Heap) : Prop :=
 (∀ n, f.sl.has n → loc2 n = loc n) ∧ (∀ n, ¬f.sl.has n → loc n = s.loc n ∧ loc2 n = s2.loc n) ∧ (if f.sh = true then h2 = h else (h = s.h ∧ h2 = s2.h))
theorem ev_alike {ts : List Nat} {s s2 : St} (h : ∀ n ∈ ts, s2.t n = s.t n) {x : Opd} (hx : ∀ n ∈ x.tmps, n ∈ ts) : s2.ev x = s.ev x := by
 cases x with
 | t n => exact h n (hx n (by simp [Opd.tmps]))
 | c v => rfl
theorem evs_alike {ts : List Nat} {s s2 : St} (h : ∀ n ∈ ts, s2.t n = s.t n) : ∀ {l : List Opd}, (∀ n ∈ l.flatMap Opd.tmps, n ∈ ts) → l.map s2.ev = l.map s.ev
 | [], _ => rfl
 | x :: l, hx => by
  simp only [List.map_cons]
  rw [ev_alike h (fun n hn => hx n (by simp [hn])), evs_alike h (fun n hn => hx n (by simp only [List.flatMap_cons, List.mem_append]; exact .inr hn))]
theorem sameDo_none {s s2 : St} {f : Foot} (h1 : f.sl = .none) (h2 : f.sh = false) : SameDo f s s2 s.loc s2.loc s.h s2.h := by
 refine ⟨fun n hn => ?_, fun n _ => ⟨rfl, rfl⟩, ?_⟩
 ·rw [h1] at hn; exact hn.elim
 ·rw [if_neg (by rw [h2]; simp)]; exact ⟨rfl, rfl⟩
def AOp.tmps (o : AOp) : List Nat :=
 o.k.tmps ++ ((match o.cl with | some (x, _) => x.tmps | none => []) ++ (match o.g with | some (t, _) => [t] | none => []))

section
variable {call : CallT} {s s2 : St}
def isPureK : AK → Bool
 | .mov _ => true
 | .pick _ _ _ => true
 | .build _ _ => true
 | .bslice false _ _ _ _ => true
 | .bin _ _ _ => true
 | .eq _ _ _ _ => true
 | .un _ _ => true
 | .conv _ _ => true
 | .mkfn _ _ _ => true
 | .fieldV _ _ _ _ => true
 | .idxV _ _ _ _ _ => true
 | .ext _ _ => true
 | .len _ => true
 | .minmax _ _ _ => true
 | .idxStr _ _ => true
 | .bad => true
 | _ => false
theorem frame_pure {d : Option Nat} {k : AK} {v : V} {loc : Loc} {h : Heap} (ht : ∀ n ∈ k.tmps, s2.t n = s.t n) (hk : isPureK k = true) (hev : evalK call d s k = some (v, loc, h)) : loc = s.loc ∧ h = s.h ∧ evalK call d s2 k = some (v, s2.loc, s2.h) := by
 cases k with
 | bad => cases hev
 | mov x =>
  have e := ev_alike ht (x := x) (fun n hn => hn)
  simp only [evalK, Option.some.injEq, Prod.mk.injEq] at hev
  obtain ⟨rfl, rfl, rfl⟩ := hev
  exact ⟨rfl, rfl, by simp only [evalK, e]⟩
 | pick c a b =>
  have e1 := ev_alike ht (x := c) (fun n hn => by simp [AK.tmps, hn])
  have e2 := ev_alike ht (x := a) (fun n hn => by simp [AK.tmps, hn])
  have e3 := ev_alike ht (x := b) (fun n hn => by simp [AK.tmps, hn])
  simp only [evalK, e1, e2, e3] at hev ⊢
  split at hev
  ·simp only [Option.some.injEq, Prod.mk.injEq] at hev; obtain ⟨rfl, rfl, rfl⟩ := hev; exact ⟨rfl, rfl, rfl⟩
  ·cases hev
 | build zero parts =>
  have e : parts.map (fun (a, b, o) => (a, b, s2.ev o)) = parts.map (fun (a, b, o) => (a, b, s.ev o)) := List.map_congr_left fun p hp => by
   obtain ⟨a, b, o⟩ := p
   simp only [Prod.mk.injEq, true_and]
   exact ev_alike ht (fun n hn => by simp only [AK.tmps, List.mem_flatMap]; exact ⟨_, hp, hn⟩)
  simp only [evalK] at hev ⊢
  rw [e]
  split at hev
  ·rename_i cs hcs; simp only [Option.some.injEq, Prod.mk.injEq] at hev; obtain ⟨rfl, rfl, rfl⟩ := hev; exact ⟨rfl, rfl, by first | rfl | rw [hcs]⟩
  ·cases hev
 | bslice ref n size zero parts =>
  cases ref with
  | true => cases hk
  | false =>
   have e : parts.map (fun (i, o) => (i, s2.ev o)) = parts.map (fun (i, o) => (i, s.ev o)) := List.map_congr_left fun p hp => by
    obtain ⟨i, o⟩ := p
    simp only [Prod.mk.injEq, true_and]
    exact ev_alike ht (fun n hn => by simp only [AK.tmps, List.mem_flatMap]; exact ⟨_, hp, hn⟩)
   simp only [evalK] at hev ⊢
   rw [e]
   split at hev
   ·rename_i l hl; simp only [Bool.false_eq_true, if_false, Option.some.injEq, Prod.mk.injEq] at hev; obtain ⟨rfl, rfl, rfl⟩ := hev; exact ⟨rfl, rfl, by first | rfl | (rw [hl]; rfl)⟩
   ·cases hev
 | bin op x y =>
  have e1 := ev_alike ht (x := x) (fun n hn => by simp [AK.tmps, hn])
  have e2 := ev_alike ht (x := y) (fun n hn => by simp [AK.tmps, hn])
  simp only [evalK, e1, e2] at hev ⊢
  split at hev
  ·rename_i cs hcs; simp only [Option.some.injEq, Prod.mk.injEq] at hev; obtain ⟨rfl, rfl, rfl⟩ := hev; exact ⟨rfl, rfl, rfl⟩
  ·cases hev
 | eq neg q x y =>
  have e1 := ev_alike ht (x := x) (fun n hn => by simp [AK.tmps, hn])
  have e2 := ev_alike ht (x := y) (fun n hn => by simp [AK.tmps, hn])
  simp only [evalK, e1, e2] at hev ⊢
  split at hev
  ·rename_i cs hcs; simp only [Option.some.injEq, Prod.mk.injEq] at hev; obtain ⟨rfl, rfl, rfl⟩ := hev; exact ⟨rfl, rfl, rfl⟩
  ·cases hev
 | un op x =>
  have e1 := ev_alike ht (x := x) (fun n hn => by simp [AK.tmps, hn])
  simp only [evalK, e1] at hev ⊢
  split at hev
  ·rename_i cs hcs; simp only [Option.some.injEq, Prod.mk.injEq] at hev; obtain ⟨rfl, rfl, rfl⟩ := hev; exact ⟨rfl, rfl, rfl⟩
  ·cases hev
 | conv q x =>
  have e1 := ev_alike ht (x := x) (fun n hn => by simp [AK.tmps, hn])
  simp only [evalK, e1] at hev ⊢
  split at hev
  ·simp only [Option.some.injEq, Prod.mk.injEq] at hev; obtain ⟨rfl, rfl, rfl⟩ := hev; exact ⟨rfl, rfl, rfl⟩
  ·cases hev
 | mkfn f first caps =>
  have e1 := evs_alike ht (l := first) (fun n hn => by simp only [AK.tmps, List.mem_append]; exact .inl hn)
  have e2 := evs_alike ht (l := caps) (fun n hn => by simp only [AK.tmps, List.mem_append]; exact .inr hn)
  have a1 : ∀ l : List Opd, (l.all fun o => (s2.ev o).leaf) = (l.map s2.ev).all V.leaf := fun l => by rw [List.all_map]; rfl
  have a2 : ∀ l : List Opd, (l.all fun o => (s.ev o).leaf) = (l.map s.ev).all V.leaf := fun l => by rw [List.all_map]; rfl
  simp only [evalK, a1, a2, e1, e2] at hev ⊢
  split at hev
  ·rename_i hl; simp only [Option.some.injEq, Prod.mk.injEq] at hev; obtain ⟨rfl, rfl, rfl⟩ := hev; exact ⟨rfl, rfl, by first | rfl | rw [if_pos hl]⟩
  ·cases hev
 | fieldV agg off size x =>
  have e1 := ev_alike ht (x := x) (fun n hn => by simp [AK.tmps, hn])
  simp only [evalK, e1] at hev ⊢
  split at hev
  ·split at hev
   ·rename_i ha
    rw [if_pos ha]
    split at hev
    ·rename_i l hl; simp only [Option.some.injEq, Prod.mk.injEq] at hev; obtain ⟨rfl, rfl, rfl⟩ := hev; exact ⟨rfl, rfl, by first | rfl | rw [hl]⟩
    ·cases hev
   ·rename_i ha
    rw [if_neg ha]
    split at hev
    ·rename_i l hl; simp only [Option.some.injEq, Prod.mk.injEq] at hev; obtain ⟨rfl, rfl, rfl⟩ := hev; exact ⟨rfl, rfl, by first | rfl | rw [hl]⟩
    ·cases hev
  ·cases hev
 | idxV n size agg x i =>
  have e1 := ev_alike ht (x := x) (fun n hn => by simp [AK.tmps, hn])
  have e2 := ev_alike ht (x := i) (fun n hn => by simp [AK.tmps, hn])
  simp only [evalK, e1, e2] at hev ⊢
  split at hev
  ·split at hev
   ·rename_i hb
    rw [if_pos hb]
    split at hev
    ·rename_i ha
     rw [if_pos ha]
     split at hev
     ·rename_i l hl; simp only [Option.some.injEq, Prod.mk.injEq] at hev; obtain ⟨rfl, rfl, rfl⟩ := hev; exact ⟨rfl, rfl, by first | rfl | rw [hl]⟩
     ·cases hev
    ·rename_i ha
     rw [if_neg ha]
     split at hev
     ·rename_i l hl; simp only [Option.some.injEq, Prod.mk.injEq] at hev; obtain ⟨rfl, rfl, rfl⟩ := hev; exact ⟨rfl, rfl, by first | rfl | rw [hl]⟩
     ·cases hev
   ·cases hev
  ·cases hev
 | ext x i =>
  have e1 := ev_alike ht (x := x) (fun n hn => by simp [AK.tmps, hn])
  simp only [evalK, e1] at hev ⊢
  split at hev
  ·split at hev
   ·rename_i l hl; simp only [Option.some.injEq, Prod.mk.injEq] at hev; obtain ⟨rfl, rfl, rfl⟩ := hev; exact ⟨rfl, rfl, by first | rfl | rw [hl]⟩
   ·cases hev
  ·cases hev
 | len x =>
  have e1 := ev_alike ht (x := x) (fun n hn => by simp [AK.tmps, hn])
  simp only [evalK, e1] at hev ⊢
  split at hev
  ·simp only [Option.some.injEq, Prod.mk.injEq] at hev; obtain ⟨rfl, rfl, rfl⟩ := hev; exact ⟨rfl, rfl, rfl⟩
  ·simp only [Option.some.injEq, Prod.mk.injEq] at hev; obtain ⟨rfl, rfl, rfl⟩ := hev; exact ⟨rfl, rfl, rfl⟩
  ·cases hev
 | minmax q x rest =>
  have e1 := ev_alike ht (x := x) (fun n hn => by simp [AK.tmps, hn])
  have e2 := evs_alike ht (l := rest) (fun n hn => by simp only [AK.tmps, List.mem_append]; exact .inr hn)
  simp only [evalK, e1, e2] at hev ⊢
  split at hev
  ·rename_i l hl; simp only [Option.some.injEq, Prod.mk.injEq] at hev; obtain ⟨rfl, rfl, rfl⟩ := hev; exact ⟨rfl, rfl, rfl⟩
  ·cases hev
 | idxStr x i =>
  have e1 := ev_alike ht (x := x) (fun n hn => by simp [AK.tmps, hn])
  have e2 := ev_alike ht (x := i) (fun n hn => by simp [AK.tmps, hn])
  simp only [evalK, e1, e2] at hev ⊢
  split at hev
  ·split at hev
   ·rename_i hb
    rw [if_pos hb]
    split at hev
    ·rename_i l hl; simp only [Option.some.injEq, Prod.mk.injEq] at hev; obtain ⟨rfl, rfl, rfl⟩ := hev; exact ⟨rfl, rfl, by first | rfl | rw [hl]⟩
    ·cases hev
   ·cases hev
  ·cases hev
 | _ => cases hk

end

end Go.LS

/- What an operation looks at and changes: those of memory. -/
namespace Go.LS
def isHeapK : AK → Bool
 | .alloc true _ => true
 | .box true _ _ => true
 | .bslice true _ _ _ _ => true
 | .lookup _ _ _ _ _ => true
 | .mkmap _ => true
 | .mkslice _ _ _ _ _ _ => true
 | .mapset _ _ _ _ => true
 | .mapdel _ _ _ => true
 | .call _ _ => true
 | .calld _ _ => true
 | .append _ _ _ _ _ => true
 | .copy _ _ _ => true
 | .clear _ _ _ => true
 | .freeze _ => true
 | .idxS _ _ _ => true
 | .slice _ _ _ _ _ => true
 | _ => false

section
variable {call : CallT} {s s2 : St}
theorem oev_alike {ts : List Nat} (h : ∀ n ∈ ts, s2.t n = s.t n) {x : Option Opd} (hx : ∀ n ∈ optTmps x, n ∈ ts) : x.map s2.ev = x.map s.ev := by
 cases x with
 | none => rfl
 | some x => simp only [Option.map_some]; rw [ev_alike h hx]
theorem frame_heap {d : Option Nat} {k : AK} {v : V} {loc : Loc} {h : Heap} (ht : ∀ n ∈ k.tmps, s2.t n = s.t n) (hh : s2.h = s.h) (hk : isHeapK k = true) (hev : evalK call d s k = some (v, loc, h)) :
  loc = s.loc ∧ evalK call d s2 k = some (v, s2.loc, h) := by
 have fin : ∀ {o : Option (V × Heap)}, (match o with | some (v, h) => some (v, s.loc, h) | none => none) = some (v, loc, h) → loc = s.loc ∧ (match o with | some (v, h) => some (v, s2.loc, h) | none => none) = some (v, s2.loc, h) := by
  intro o ho
  split at ho
  ·simp only [Option.some.injEq, Prod.mk.injEq] at ho; obtain ⟨rfl, rfl, rfl⟩ := ho; exact ⟨rfl, rfl⟩
  ·cases ho
 cases k with
 | alloc sh zero =>
  cases sh with
  | false => cases hk
  | true =>
   simp only [evalK, madeV, if_true, Option.some.injEq, Prod.mk.injEq] at hev ⊢
   obtain ⟨rfl, rfl, rfl⟩ := hev
   simp [hh]
 | box sh size x =>
  cases sh with
  | false => cases hk
  | true =>
   have e1 := ev_alike ht (x := x) (fun n hn => by simp [AK.tmps, hn])
   simp only [evalK, e1, madeV, if_true] at hev ⊢
   split at hev
   ·split at hev
    ·rename_i hl
     simp only [Option.some.injEq, Prod.mk.injEq] at hev; obtain ⟨rfl, rfl, rfl⟩ := hev; exact ⟨rfl, by simp [hh, hl]⟩
    ·cases hev
   ·cases hev
 | bslice ref n size zero parts =>
  cases ref with
  | false => cases hk
  | true =>
   have e : parts.map (fun (i, o) => (i, s2.ev o)) = parts.map (fun (i, o) => (i, s.ev o)) := List.map_congr_left fun p hp => by
    obtain ⟨i, o⟩ := p
    simp only [Prod.mk.injEq, true_and]
    exact ev_alike ht (fun n hn => by simp only [AK.tmps, List.mem_flatMap]; exact ⟨_, hp, hn⟩)
   simp only [evalK] at hev ⊢
   rw [e]
   split at hev
   ·rename_i l hl; simp only [if_true, Option.some.injEq, Prod.mk.injEq] at hev; obtain ⟨rfl, rfl, rfl⟩ := hev; exact ⟨rfl, by simp [hl, hh]⟩
   ·cases hev
 | lookup kk zero ok m k =>
  have e1 := ev_alike ht (x := m) (fun n hn => by simp [AK.tmps, hn])
  have e2 := ev_alike ht (x := k) (fun n hn => by simp [AK.tmps, hn])
  simp only [evalK, e1, e2, hh] at hev ⊢
  split at hev
  ·split at hev
   ·rename_i hb; rw [if_pos hb]; simp only [Option.some.injEq, Prod.mk.injEq] at hev; obtain ⟨rfl, rfl, rfl⟩ := hev; exact ⟨rfl, rfl⟩
   ·cases hev
  ·split at hev
   ·split at hev
    ·rename_i hb; rw [if_pos hb]
     split at hev
     ·simp only [Option.some.injEq, Prod.mk.injEq] at hev; obtain ⟨rfl, rfl, rfl⟩ := hev; exact ⟨rfl, rfl⟩
     ·simp only [Option.some.injEq, Prod.mk.injEq] at hev; obtain ⟨rfl, rfl, rfl⟩ := hev; exact ⟨rfl, rfl⟩
    ·cases hev
   ·cases hev
  ·cases hev
 | mkmap k =>
  simp only [evalK, Option.some.injEq, Prod.mk.injEq] at hev ⊢
  obtain ⟨rfl, rfl, rfl⟩ := hev
  simp [hh]
 | mkslice ref size bytes zero n c =>
  have e1 := ev_alike ht (x := n) (fun n hn => by simp [AK.tmps, hn])
  have e2 := ev_alike ht (x := c) (fun n hn => by simp [AK.tmps, hn])
  simp only [evalK, e1, e2, hh] at hev ⊢
  split at hev
  ·split at hev
   ·rename_i hb; rw [if_pos hb]
    split at hev
    ·rename_i hr; rw [if_pos hr]; simp only [Option.some.injEq, Prod.mk.injEq] at hev; obtain ⟨rfl, rfl, rfl⟩ := hev; exact ⟨rfl, rfl⟩
    ·rename_i hr; rw [if_neg hr]; simp only [Option.some.injEq, Prod.mk.injEq] at hev; obtain ⟨rfl, rfl, rfl⟩ := hev; exact ⟨rfl, rfl⟩
   ·cases hev
  ·cases hev
 | mapset kk m k x =>
  have e1 := ev_alike ht (x := m) (fun n hn => by simp [AK.tmps, hn])
  have e2 := ev_alike ht (x := k) (fun n hn => by simp [AK.tmps, hn])
  have e3 := ev_alike ht (x := x) (fun n hn => by simp [AK.tmps, hn])
  simp only [evalK, e1, e2, e3, hh] at hev ⊢
  split at hev
  ·split at hev
   ·split at hev
    ·rename_i hb; rw [if_pos hb]; simp only [Option.some.injEq, Prod.mk.injEq] at hev; obtain ⟨rfl, rfl, rfl⟩ := hev; exact ⟨rfl, rfl⟩
    ·cases hev
   ·cases hev
  ·cases hev
 | mapdel kk m k =>
  have e1 := ev_alike ht (x := m) (fun n hn => by simp [AK.tmps, hn])
  have e2 := ev_alike ht (x := k) (fun n hn => by simp [AK.tmps, hn])
  simp only [evalK, e1, e2, hh] at hev ⊢
  split at hev
  ·split at hev
   ·split at hev
    ·rename_i hb; rw [if_pos hb]; simp only [Option.some.injEq, Prod.mk.injEq] at hev; obtain ⟨rfl, rfl, rfl⟩ := hev; exact ⟨rfl, rfl⟩
    ·cases hev
   ·cases hev
  ·cases hev
 | call f args =>
  have e1 := evs_alike ht (l := args) (fun n hn => hn)
  simp only [evalK, e1, hh] at hev ⊢
  exact fin hev
 | calld f args =>
  have e1 := ev_alike ht (x := f) (fun n hn => by simp [AK.tmps, hn])
  have e2 := evs_alike ht (l := args) (fun n hn => by simp only [AK.tmps, List.mem_append]; exact .inr hn)
  simp only [evalK, e1, e2, hh] at hev ⊢
  split at hev
  ·exact fin hev
  ·cases hev
 | append ref size bytes x y =>
  have e1 := ev_alike ht (x := x) (fun n hn => by simp [AK.tmps, hn])
  have e2 := ev_alike ht (x := y) (fun n hn => by simp [AK.tmps, hn])
  simp only [evalK, e1, e2, hh] at hev ⊢
  exact fin hev
 | copy size x y =>
  have e1 := ev_alike ht (x := x) (fun n hn => by simp [AK.tmps, hn])
  have e2 := ev_alike ht (x := y) (fun n hn => by simp [AK.tmps, hn])
  simp only [evalK, e1, e2, hh] at hev ⊢
  split at hev
  ·rename_i id off len cap m h1 h2
   split at hev
   ·rename_i l hl
    split at hev
    ·rename_i hb
     simp only [Option.some.injEq, Prod.mk.injEq] at hev; obtain ⟨rfl, rfl, rfl⟩ := hev
     exact ⟨rfl, by simp only [h2, hl, if_pos hb]⟩
    ·cases hev
   ·cases hev
  ·cases hev
 | clear size zero x =>
  have e1 := ev_alike ht (x := x) (fun n hn => by simp [AK.tmps, hn])
  simp only [evalK, e1, hh] at hev ⊢
  split at hev
  ·split at hev
   ·split at hev
    ·rename_i hb; rw [if_pos hb]; simp only [Option.some.injEq, Prod.mk.injEq] at hev; obtain ⟨rfl, rfl, rfl⟩ := hev; exact ⟨rfl, rfl⟩
    ·cases hev
   ·cases hev
  ·simp only [Option.some.injEq, Prod.mk.injEq] at hev; obtain ⟨rfl, rfl, rfl⟩ := hev; exact ⟨rfl, rfl⟩
  ·cases hev
 | freeze x =>
  have e1 := ev_alike ht (x := x) (fun n hn => by simp [AK.tmps, hn])
  simp only [evalK, e1, hh] at hev ⊢
  exact fin hev
 | idxS size x i =>
  have e1 := ev_alike ht (x := x) (fun n hn => by simp [AK.tmps, hn])
  have e2 := ev_alike ht (x := i) (fun n hn => by simp [AK.tmps, hn])
  simp only [evalK, e1, e2, hh] at hev ⊢
  split at hev
  ·split at hev
   ·rename_i hb
    rw [if_pos hb]
    split at hev
    ·split at hev
     ·rename_i hl; rw [if_pos hl]; simp only [Option.some.injEq, Prod.mk.injEq] at hev; obtain ⟨rfl, rfl, rfl⟩ := hev; exact ⟨rfl, rfl⟩
     ·cases hev
    ·cases hev
   ·cases hev
  ·split at hev
   ·rename_i hb
    rw [if_pos hb]
    split at hev
    ·split at hev
     ·rename_i hl; rw [if_pos hl]; simp only [Option.some.injEq, Prod.mk.injEq] at hev; obtain ⟨rfl, rfl, rfl⟩ := hev; exact ⟨rfl, rfl⟩
     ·cases hev
    ·cases hev
   ·cases hev
  ·cases hev
 | slice size x lo hi mx =>
  have e1 := ev_alike ht (x := x) (fun n hn => by simp [AK.tmps, hn])
  have e2 := oev_alike ht (x := lo) (fun n hn => by simp [AK.tmps, hn])
  have e3 := oev_alike ht (x := hi) (fun n hn => by simp [AK.tmps, hn])
  have e4 := oev_alike ht (x := mx) (fun n hn => by simp [AK.tmps, hn])
  simp only [evalK, e1, e2, e3, e4, hh] at hev ⊢
  split at hev
  ·simp only [Option.some.injEq, Prod.mk.injEq] at hev; obtain ⟨rfl, rfl, rfl⟩ := hev; exact ⟨rfl, by first | rfl | (rw [hh] at *; rfl)⟩
  ·cases hev
 | _ => cases hk

end
end Go.LS

/- What an operation looks at and changes: through pointers; two operations that may change places. -/
namespace Go.LS

section
variable {call : CallT} {s s2 : St}
def fitsC (c : Option (Opd × Claim)) (s : St) : Prop :=
 match c with
 | none => True
 | some (x, c) => c.fits (s.ev x) = true
theorem getP_alike {cl : Option (Opd × Claim)} {p : Opd} (hf : fitsC cl s) (hl : ∀ n, (ptrUse cl p).1.has n → s2.loc n = s.loc n) (hh : (ptrUse cl p).2 = true → s2.h = s.h) :
  getP s2.loc s2.h (s.ev p) = getP s.loc s.h (s.ev p) := by
 have all : (∀ n, s2.loc n = s.loc n) → s2.h = s.h → getP s2.loc s2.h (s.ev p) = getP s.loc s.h (s.ev p) := fun h1 h2 => by rw [show s2.loc = s.loc from funext h1, h2]
 have triv : ptrUse cl p = (.all, true) → getP s2.loc s2.h (s.ev p) = getP s.loc s.h (s.ev p) := fun h => by
  rw [h] at hl hh
  exact all (fun n => hl n trivial) (hh rfl)
 cases cl with
 | none => exact triv rfl
 | some xc =>
  obtain ⟨x, c⟩ := xc
  cases x with
  | c v => cases c <;> exact triv rfl
  | t m =>
   cases p with
   | c v => cases c <;> exact triv rfl
   | t n =>
    by_cases hmn : m = n
    ·subst hmn
     simp only [fitsC, St.ev] at hf
     cases c with
     | loc sl =>
      simp only [ptrUse, if_true] at hl hh
      cases hv : s.t m <;> rw [hv] at hf <;> simp only [Claim.fits] at hf <;> try (cases hf; done)
      simp only [beq_iff_eq] at hf
      subst hf
      simp only [St.ev, hv, getP]
      rw [hl _ rfl]
     | imm =>
      cases hv : s.t m <;> rw [hv] at hf <;> simp only [Claim.fits] at hf <;> try (cases hf; done)
      simp only [St.ev, hv, getP]
     | hp =>
      simp only [ptrUse, if_true] at hl hh
      cases hv : s.t m <;> rw [hv] at hf <;> simp only [Claim.fits] at hf <;> try (cases hf; done)
      ·simp only [St.ev, hv, getP]; rw [hh trivial]
      ·simp only [St.ev, hv, getP]; rw [hh trivial]
     | lst =>
      cases hv : s.t m <;> rw [hv] at hf <;> simp only [Claim.fits] at hf <;> try (cases hf; done)
      simp only [St.ev, hv, getP]
    ·cases c <;> exact triv (by simp [ptrUse, hmn])
theorem putP_alike {cl : Option (Opd × Claim)} {p : Opd} {vs : List V} {loc : Loc} {h : Heap} (hf : fitsC cl s) (hl : ∀ n, (ptrUse cl p).1.has n → s2.loc n = s.loc n) (hh : (ptrUse cl p).2 = true → s2.h = s.h)
  (hp : putP s.loc s.h (s.ev p) vs = some (loc, h)) :
  ∃ loc2 h2, putP s2.loc s2.h (s.ev p) vs = some (loc2, h2) ∧ SameDo ⟨(ptrUse cl p).1, (ptrUse cl p).1, (ptrUse cl p).2, (ptrUse cl p).2⟩ s s2 loc loc2 h h2 := by
 have triv : ptrUse cl p = (.all, true) → ∃ loc2 h2, putP s2.loc s2.h (s.ev p) vs = some (loc2, h2) ∧ SameDo ⟨(ptrUse cl p).1, (ptrUse cl p).1, (ptrUse cl p).2, (ptrUse cl p).2⟩ s s2 loc loc2 h h2 := fun he => by
  rw [he] at hl hh
  have h1 : s2.loc = s.loc := funext fun n => hl n trivial
  have h2 := hh rfl
  refine ⟨loc, h, by rw [h1, h2]; exact hp, fun n _ => rfl, fun n hn => ?_, ?_⟩
  ·rw [he] at hn; exact absurd trivial hn
  ·rw [he]; rfl
 cases cl with
 | none => exact triv rfl
 | some xc =>
  obtain ⟨x, c⟩ := xc
  cases x with
  | c v => cases c <;> exact triv rfl
  | t m =>
   cases p with
   | c v => cases c <;> exact triv rfl
   | t n =>
    by_cases hmn : m = n
    ·subst hmn
     simp only [fitsC, St.ev] at hf
     cases c with
     | loc sl =>
      simp only [ptrUse, if_true] at hl hh ⊢
      cases hv : s.t m <;> rw [hv] at hf <;> simp only [Claim.fits] at hf <;> try (cases hf; done)
      simp only [beq_iff_eq] at hf
      subst hf
      rename_i slot ver off
      simp only [St.ev, hv, putP] at hp ⊢
      rw [hl _ rfl]
      split at hp
      ·rename_i ver' cs hcs
       split at hp
       ·rename_i hver
        split at hp
        ·rename_i hle
         simp only [Option.some.injEq, Prod.mk.injEq] at hp
         obtain ⟨rfl, rfl⟩ := hp
         refine ⟨_, _, by rw [if_pos hver, if_pos hle], fun n hn => ?_, fun n hn => ?_, ?_⟩
         ·have hn : n = slot := hn
          subst hn
          simp [upd]
         ·have hn : n ≠ slot := hn
          simp [upd, hn]
         ·exact ⟨rfl, rfl⟩
        ·cases hp
       ·cases hp
      ·cases hp
     | imm =>
      cases hv : s.t m <;> rw [hv] at hf <;> simp only [Claim.fits] at hf <;> try (cases hf; done)
      simp only [St.ev, hv, putP] at hp
      cases hp
     | hp =>
      simp only [ptrUse, if_true] at hl hh ⊢
      have h2 := hh trivial
      have h3 : s2.loc = s2.loc := rfl
      cases hv : s.t m <;> rw [hv] at hf <;> simp only [Claim.fits] at hf <;> try (cases hf; done)
      ·simp only [St.ev, hv, putP] at hp ⊢
       rw [h2]
       split at hp
       ·split at hp
        ·rename_i hle
         simp only [Option.some.injEq, Prod.mk.injEq] at hp
         obtain ⟨rfl, rfl⟩ := hp
         exact ⟨_, _, by rw [if_pos hle], fun n hn => hn.elim, fun n _ => ⟨rfl, rfl⟩, rfl⟩
        ·cases hp
       ·cases hp
      ·simp only [St.ev, hv, putP] at hp ⊢
       rw [h2]
       split at hp
       ·split at hp
        ·rename_i e he
         split at hp
         ·rename_i hle
          simp only [Option.some.injEq, Prod.mk.injEq] at hp
          obtain ⟨rfl, rfl⟩ := hp
          exact ⟨_, _, by first | rw [if_pos hle] | (simp only [he]; rw [if_pos hle]), fun n hn => hn.elim, fun n _ => ⟨rfl, rfl⟩, rfl⟩
         ·cases hp
        ·cases hp
       ·cases hp
     | lst =>
      cases hv : s.t m <;> rw [hv] at hf <;> simp only [Claim.fits] at hf <;> try (cases hf; done)
      simp only [St.ev, hv, putP] at hp
      cases hp
    ·cases c <;> exact triv (by simp [ptrUse, hmn])
theorem fresh_alike {cl : Option (Opd × Claim)} {p : Opd} (hf : fitsC cl s) (hl : ∀ n, (ptrUse cl p).1.has n → s2.loc n = s.loc n) : fresh s2.loc (s.ev p) = fresh s.loc (s.ev p) := by
 have triv : ptrUse cl p = (.all, true) → fresh s2.loc (s.ev p) = fresh s.loc (s.ev p) := fun he => by
  rw [he] at hl
  rw [show s2.loc = s.loc from funext fun n => hl n trivial]
 cases cl with
 | none => exact triv rfl
 | some xc =>
  obtain ⟨x, c⟩ := xc
  cases x with
  | c v => cases c <;> exact triv rfl
  | t m =>
   cases p with
   | c v => cases c <;> exact triv rfl
   | t n =>
    by_cases hmn : m = n
    ·subst hmn
     simp only [fitsC, St.ev] at hf
     cases c <;> cases hv : s.t m <;> rw [hv] at hf <;> simp only [Claim.fits] at hf <;> try (cases hf; done)
     ·simp only [beq_iff_eq] at hf
      subst hf
      simp only [ptrUse, if_true] at hl
      simp only [St.ev, hv, fresh]
      rw [hl _ rfl]
     all_goals first | rfl | (simp only [St.ev, hv, fresh])
    ·cases c <;> exact triv (by simp [ptrUse, hmn])

end
end Go.LS

/- Any order comes to what the text's order comes to. -/
namespace Go.LS

section
variable {call : CallT} {s s2 : St}
theorem heap_same {d : Option Nat} {k : AK} {v : V} {loc : Loc} {h : Heap} (hk : match k with | .lookup _ _ _ _ _ => True | .idxS _ _ _ => True | .slice _ _ _ _ _ => True | _ => False) (hev : evalK call d s k = some (v, loc, h)) : h = s.h := by
 cases k with
 | lookup kk zero ok m k =>
  simp only [evalK] at hev
  split at hev
  ·split at hev
   ·simp only [Option.some.injEq, Prod.mk.injEq] at hev; exact hev.2.2.symm
   ·cases hev
  ·split at hev
   ·split at hev
    ·split at hev <;> (simp only [Option.some.injEq, Prod.mk.injEq] at hev; exact hev.2.2.symm)
    ·cases hev
   ·cases hev
  ·cases hev
 | idxS size x i =>
  simp only [evalK] at hev
  split at hev
  ·split at hev
   ·split at hev
    ·split at hev
     ·simp only [Option.some.injEq, Prod.mk.injEq] at hev; exact hev.2.2.symm
     ·cases hev
    ·cases hev
   ·cases hev
  ·split at hev
   ·split at hev
    ·split at hev
     ·simp only [Option.some.injEq, Prod.mk.injEq] at hev; exact hev.2.2.symm
     ·cases hev
    ·cases hev
   ·cases hev
  ·cases hev
 | slice size x lo hi mx =>
  simp only [evalK] at hev
  split at hev
  ·simp only [Option.some.injEq, Prod.mk.injEq] at hev; exact hev.2.2.symm
  ·cases hev
 | _ => exact hk.elim
theorem ptrUse_nh {cl : Option (Opd × Claim)} {x : Opd} (hf : fitsC cl s) (h : (ptrUse cl x).2 = false) : ∀ id off len cap, s.ev x ≠ .row id off len cap := by
 intro id off len cap he
 unfold ptrUse at h
 split at h
 case h_5 => cases h
 all_goals (
  split at h
  ·rename_i hmn
   subst hmn
   simp only [fitsC] at hf
   rw [he] at hf
   cases hf
  ·cases h)
theorem slice_nh {d : Option Nat} {k : AK} {v : V} {loc : Loc} {h : Heap} {x : Opd} (ht : ∀ n ∈ k.tmps, s2.t n = s.t n) (hk : match k with | .idxS _ y _ => y = x | .slice _ y _ _ _ => y = x | _ => False)
  (hx : ∀ id off len cap, s.ev x ≠ .row id off len cap) (hev : evalK call d s k = some (v, loc, h)) : loc = s.loc ∧ h = s.h ∧ evalK call d s2 k = some (v, s2.loc, s2.h) := by
 cases k with
 | idxS size y i =>
  subst hk
  have e1 := ev_alike ht (x := y) (fun n hn => by simp [AK.tmps, hn])
  have e2 := ev_alike ht (x := i) (fun n hn => by simp [AK.tmps, hn])
  simp only [evalK, e1, e2] at hev ⊢
  split at hev
  ·split at hev
   ·rename_i hb
    rw [if_pos hb]
    split at hev
    ·split at hev
     ·rename_i hl; rw [if_pos hl]; simp only [Option.some.injEq, Prod.mk.injEq] at hev; obtain ⟨rfl, rfl, rfl⟩ := hev; exact ⟨rfl, rfl, rfl⟩
     ·cases hev
    ·cases hev
   ·cases hev
  ·rename_i hr _; exact absurd hr (hx _ _ _ _)
  ·cases hev
 | slice size y lo hi mx =>
  subst hk
  have e1 := ev_alike ht (x := y) (fun n hn => by simp [AK.tmps, hn])
  have e2 := oev_alike ht (x := lo) (fun n hn => by simp [AK.tmps, hn])
  have e3 := oev_alike ht (x := hi) (fun n hn => by simp [AK.tmps, hn])
  have e4 := oev_alike ht (x := mx) (fun n hn => by simp [AK.tmps, hn])
  have e5 : ∀ h1 h2 : Heap, sliceV size h1 (s.ev y) (lo.map s.ev) (hi.map s.ev) (mx.map s.ev) = sliceV size h2 (s.ev y) (lo.map s.ev) (hi.map s.ev) (mx.map s.ev) := fun h1 h2 => by
   unfold sliceV
   split
   ·split
    ·rfl
    ·rename_i hr; exact absurd hr (hx _ _ _ _)
    ·rfl
   ·rfl
  simp only [evalK, e1, e2, e3, e4] at hev ⊢
  rw [e5 s2.h s.h]
  split at hev
  ·rename_i hs; simp only [Option.some.injEq, Prod.mk.injEq] at hev; obtain ⟨rfl, rfl, rfl⟩ := hev; exact ⟨rfl, rfl, by first | rfl | rw [hs]⟩
  ·cases hev
 | _ => exact hk.elim
theorem made_alike {d : Nat} {v : V} {loc : Loc} {h : Heap} {cells : List V} (hl : s2.loc d = s.loc d) (hev : madeV false (some d) s.loc s.h cells = some (v, loc, h)) :
  ∃ loc2, madeV false (some d) s2.loc s2.h cells = some (v, loc2, s2.h) ∧ SameDo ⟨.one d, .one d, false, false⟩ s s2 loc loc2 h s2.h := by
 simp only [madeV, Bool.false_eq_true, if_false, Option.some.injEq, Prod.mk.injEq] at hev
 obtain ⟨rfl, rfl, rfl⟩ := hev
 have hn : nextVer s2.loc d = nextVer s.loc d := by unfold nextVer; rw [hl]
 refine ⟨upd s2.loc d (some (nextVer s.loc d, cells)), by simp only [madeV, Bool.false_eq_true, if_false, hn], fun n hn => ?_, fun n hn => ?_, ?_⟩
 ·have hn : n = d := hn
  subst hn
  simp [upd]
 ·have hn : n ≠ d := hn
  simp [upd, hn]
 ·exact ⟨rfl, rfl⟩
theorem frame_op {o : AOp} {v : V} {loc : Loc} {h : Heap} (ht : ∀ n ∈ o.tmps, s2.t n = s.t n) (hl : ∀ n, o.foot.ul.has n → s2.loc n = s.loc n) (hh : o.foot.uh = true → s2.h = s.h) (hev : evalO call o s = some (v, loc, h)) :
  ∃ loc2 h2, evalO call o s2 = some (v, loc2, h2) ∧ SameDo o.foot s s2 loc loc2 h h2 := by
 obtain ⟨d, g, k, cl⟩ := o
 have htk : ∀ n ∈ k.tmps, s2.t n = s.t n := fun n hn => ht n (by simp [AOp.tmps, hn])
 have hf : fitsC cl s := by
  unfold fitsC
  cases cl with
  | none => trivial
  | some xc =>
   obtain ⟨x, c⟩ := xc
   simp only [evalO] at hev
   split at hev
   ·rename_i hc; exact hc
   ·cases hev
 have hk := evalO_some hev
 have lift : ∀ {r}, evalK call d s2 k = some r → evalO call ⟨d, g, k, cl⟩ s2 = some r := fun {r} hr => by
  unfold evalO
  cases cl with
  | none => exact hr
  | some xc =>
   obtain ⟨x, c⟩ := xc
   have : s2.ev x = s.ev x := ev_alike (ts := AOp.tmps ⟨d, g, k, some (x, c)⟩) ht (fun n hn => by simp [AOp.tmps, hn])
   simp only [fitsC] at hf
   simp only [this]
   rw [if_pos hf]
   exact hr
 simp only at hk
 by_cases hp : isPureK k = true
 ·obtain ⟨rfl, rfl, h3⟩ := frame_pure htk hp hk
  refine ⟨_, _, lift h3, sameDo_none ?_ ?_⟩ <;> (cases k <;> first | rfl | (cases hp; done) | (rename_i r _ _ _ _; cases r <;> first | rfl | cases hp))
 ·cases k with
  | alloc sh zero =>
   cases sh with
   | true =>
    obtain ⟨rfl, h3⟩ := frame_heap htk (hh rfl) rfl hk
    exact ⟨_, _, lift h3, fun n hn => hn.elim, fun n _ => ⟨rfl, rfl⟩, rfl⟩
   | false =>
    cases d with
    | none => simp [evalK, madeV] at hk
    | some d =>
     simp only [evalK] at hk
     obtain ⟨loc2, h3, h4⟩ := made_alike (s2 := s2) (hl d rfl) hk
     exact ⟨_, _, lift h3, h4⟩
  | box sh size x =>
   cases sh with
   | true =>
    obtain ⟨rfl, h3⟩ := frame_heap htk (hh rfl) rfl hk
    exact ⟨_, _, lift h3, fun n hn => hn.elim, fun n _ => ⟨rfl, rfl⟩, rfl⟩
   | false =>
    have e1 := ev_alike htk (x := x) (fun n hn => by simp [AK.tmps, hn])
    cases d with
    | none =>
     simp only [evalK, madeV] at hk
     split at hk
     ·split at hk <;> simp at hk
     ·cases hk
    | some d =>
     simp only [evalK] at hk
     split at hk
     ·rename_i cs hcs
      split at hk
      ·rename_i hle
       obtain ⟨loc2, h3, h4⟩ := made_alike (s2 := s2) (hl d rfl) hk
       exact ⟨_, _, lift (by simp only [evalK, e1, hcs]; rw [if_pos hle]; exact h3), h4⟩
      ·cases hk
     ·cases hk
  | bslice ref n size zero parts =>
   cases ref with
   | true =>
    obtain ⟨rfl, h3⟩ := frame_heap htk (hh rfl) rfl hk
    exact ⟨_, _, lift h3, fun n hn => hn.elim, fun n _ => ⟨rfl, rfl⟩, rfl⟩
   | false => exact absurd rfl hp
  | load agg size p =>
   have e1 := ev_alike htk (x := p) (fun n hn => by simp [AK.tmps, hn])
   have e2 := getP_alike (p := p) (s2 := s2) hf hl hh
   simp only [evalK] at hk
   split at hk
   ·rename_i cs off hg
    split at hk
    ·rename_i ha
     split at hk
     ·rename_i l hl2
      simp only [Option.some.injEq, Prod.mk.injEq] at hk; obtain ⟨rfl, rfl, rfl⟩ := hk
      exact ⟨_, _, lift (by simp only [evalK, e1, e2, hg]; rw [if_pos ha]; simp only [hl2]), sameDo_none rfl rfl⟩
     ·cases hk
    ·rename_i ha
     split at hk
     ·rename_i x hx
      simp only [Option.some.injEq, Prod.mk.injEq] at hk; obtain ⟨rfl, rfl, rfl⟩ := hk
      exact ⟨_, _, lift (by simp only [evalK, e1, e2, hg]; rw [if_neg ha]; simp only [hx]), sameDo_none rfl rfl⟩
     ·cases hk
   ·cases hk
  | store size p x =>
   have e1 := ev_alike htk (x := p) (fun n hn => by simp [AK.tmps, hn])
   have e2 := ev_alike htk (x := x) (fun n hn => by simp [AK.tmps, hn])
   simp only [evalK] at hk
   split at hk
   ·rename_i vs hvs
    split at hk
    ·rename_i hlen
     split at hk
     ·rename_i loc1 h1 hput
      simp only [Option.some.injEq, Prod.mk.injEq] at hk; obtain ⟨rfl, rfl, rfl⟩ := hk
      obtain ⟨loc2, h2, h3, h4⟩ := putP_alike (p := p) (s2 := s2) hf hl hh hput
      exact ⟨_, _, lift (by simp only [evalK, e1, e2, hvs]; rw [if_pos hlen]; simp only [h3]), h4⟩
     ·cases hk
    ·cases hk
   ·cases hk
  | nilchk p =>
   have e1 := ev_alike htk (x := p) (fun n hn => by simp [AK.tmps, hn])
   have e2 := fresh_alike (p := p) (s2 := s2) hf hl
   simp only [evalK] at hk
   split at hk
   ·rename_i a b c hv
    split at hk
    ·rename_i b' cs hcs
     split at hk
     ·rename_i hb
      simp only [Option.some.injEq, Prod.mk.injEq] at hk; obtain ⟨rfl, rfl, rfl⟩ := hk
      rw [hv] at e2
      simp only [fresh, hcs] at e2
      refine ⟨_, _, lift (r := (_, s2.loc, s2.h)) ?_, sameDo_none rfl rfl⟩
      simp only [evalK, e1, hv]
      split at e2
      ·rename_i v' cs' hcs'
       have : v' = b := by
        have h5 : (b' == b) = true := by simpa using hb
        rw [h5] at e2
        simpa using e2
       first | rw [if_pos this] | (rw [hcs']; simp only [this, if_true])
      ·have h5 : (b' == b) = true := by simpa using hb
       rw [h5] at e2
       cases e2
     ·cases hk
    ·cases hk
   all_goals first
    | (rename_i hv
       simp only [Option.some.injEq, Prod.mk.injEq] at hk; obtain ⟨rfl, rfl, rfl⟩ := hk
       exact ⟨_, _, lift (r := (_, s2.loc, s2.h)) (by simp only [evalK, e1, hv]), sameDo_none rfl rfl⟩)
    | cases hk
  | off n p =>
   have e1 := ev_alike htk (x := p) (fun n hn => by simp [AK.tmps, hn])
   have e2 := fresh_alike (p := p) (s2 := s2) hf hl
   simp only [evalK] at hk
   split at hk
   ·rename_i v' hv
    split at hk
    ·rename_i hfr
     simp only [Option.some.injEq, Prod.mk.injEq] at hk; obtain ⟨rfl, rfl, rfl⟩ := hk
     exact ⟨_, _, lift (r := (_, s2.loc, s2.h)) (by simp only [evalK, e1, hv, e2]; rw [if_pos hfr]), sameDo_none rfl rfl⟩
    ·cases hk
   ·cases hk
  | idxA n size p i =>
   have e1 := ev_alike htk (x := p) (fun n hn => by simp [AK.tmps, hn])
   have e3 := ev_alike htk (x := i) (fun n hn => by simp [AK.tmps, hn])
   have e2 := fresh_alike (p := p) (s2 := s2) hf hl
   simp only [evalK] at hk
   split at hk
   ·rename_i ik k' hi
    split at hk
    ·rename_i hb
     split at hk
     ·rename_i v' hv
      split at hk
      ·rename_i hfr
       simp only [Option.some.injEq, Prod.mk.injEq] at hk; obtain ⟨rfl, rfl, rfl⟩ := hk
       exact ⟨_, _, lift (r := (_, s2.loc, s2.h)) (by simp only [evalK, e1, e3, hi]; rw [if_pos hb]; simp only [hv, e2]; rw [if_pos hfr]), sameDo_none rfl rfl⟩
      ·cases hk
     ·cases hk
    ·cases hk
   ·cases hk
  | idxS size x i =>
   cases hu : (ptrUse cl x).2 with
   | false =>
    obtain ⟨rfl, rfl, h3⟩ := slice_nh htk rfl (ptrUse_nh hf hu) hk
    exact ⟨_, _, lift h3, sameDo_none rfl rfl⟩
   | true =>
    obtain ⟨rfl, h3⟩ := frame_heap htk (hh hu) rfl hk
    have hsame := heap_same (by trivial) hk
    subst hsame
    exact ⟨_, _, lift h3, fun n hn => hn.elim, fun n _ => ⟨rfl, rfl⟩, by rw [if_neg (by simp [AOp.foot])]; exact ⟨rfl, (hh hu).symm⟩⟩
  | slice size x lo hi mx =>
   cases hu : (ptrUse cl x).2 with
   | false =>
    obtain ⟨rfl, rfl, h3⟩ := slice_nh htk rfl (ptrUse_nh hf hu) hk
    exact ⟨_, _, lift h3, sameDo_none rfl rfl⟩
   | true =>
    obtain ⟨rfl, h3⟩ := frame_heap htk (hh hu) rfl hk
    have hsame := heap_same (by trivial) hk
    subst hsame
    exact ⟨_, _, lift h3, fun n hn => hn.elim, fun n _ => ⟨rfl, rfl⟩, by rw [if_neg (by simp [AOp.foot])]; exact ⟨rfl, (hh hu).symm⟩⟩
  | lookup kk zero ok m k =>
   obtain ⟨rfl, h3⟩ := frame_heap htk (hh rfl) rfl hk
   have hsame := heap_same (by trivial) hk
   subst hsame
   exact ⟨_, _, lift h3, fun n hn => hn.elim, fun n _ => ⟨rfl, rfl⟩, by rw [if_neg (by simp [AOp.foot])]; exact ⟨rfl, (hh rfl).symm⟩⟩
  | mkmap _ | mkslice _ _ _ _ _ _ | mapset _ _ _ _ | mapdel _ _ _ | call _ _ | calld _ _ | append _ _ _ _ _ | copy _ _ _ | clear _ _ _ | freeze _ =>
   obtain ⟨rfl, h3⟩ := frame_heap htk (hh rfl) rfl hk
   exact ⟨_, _, lift h3, fun n hn => hn.elim, fun n _ => ⟨rfl, rfl⟩, rfl⟩
  | _ => exact absurd rfl hp

end
end Go.LS

/- Two operations that may change places; any order comes to what the text's order comes to. -/
namespace Go.LS
theorem foot_sl {o : AOp} {n : Nat} (h : o.foot.sl.has n) : o.foot.ul.has n := by
 obtain ⟨d, g, k, cl⟩ := o
 cases k with
 | alloc sh zero => cases sh <;> cases d <;> first | exact h | exact h.elim
 | box sh size x => cases sh <;> cases d <;> first | exact h | exact h.elim
 | store size p x => exact h
 | _ => exact h.elim
theorem foot_sh {o : AOp} (h : o.foot.sh = true) : o.foot.uh = true := by
 obtain ⟨d, g, k, cl⟩ := o
 cases k with
 | alloc sh zero => cases sh <;> cases d <;> first | exact h | cases h
 | box sh size x => cases sh <;> cases d <;> first | exact h | cases h
 | store size p x => exact h
 | bslice ref n size zero parts => exact h
 | _ => first | rfl | exact h | cases h
def dstApart (d : Option Nat) (ts : List Nat) : Bool :=
 match d with
 | some d => !ts.contains d
 | none => true
def dstNe : Option Nat → Option Nat → Bool
 | some a, some b => a != b
 | _, _ => true
def commOK (x y : AOp) : Bool :=
 dstApart x.d y.tmps && dstApart y.d x.tmps && dstNe x.d y.d && x.foot.sl.apart y.foot.ul && y.foot.sl.apart x.foot.ul && !(x.foot.sh && y.foot.uh) && !(y.foot.sh && x.foot.uh)

section
variable {call : CallT}
theorem put_t {s : St} {loc : Loc} {h : Heap} {d : Option Nat} {v : V} : (St.put ⟨s.t, loc, h⟩ d v).loc = loc ∧ (St.put ⟨s.t, loc, h⟩ d v).h = h ∧ ∀ n, d ≠ some n → (St.put ⟨s.t, loc, h⟩ d v).t n = s.t n := by
 cases d with
 | none => exact ⟨rfl, rfl, fun _ _ => rfl⟩
 | some d => exact ⟨rfl, rfl, fun n hn => by simp only [St.put, upd]; rw [if_neg (fun e => hn (by rw [e]))]⟩
theorem dstApart_spec {d : Option Nat} {ts : List Nat} (h : dstApart d ts = true) : ∀ n ∈ ts, d ≠ some n := by
 intro n hn he
 subst he
 simp [dstApart] at h
 exact h hn
theorem frame_step {o : AOp} {s s2 s1 : St} (ht : ∀ n ∈ o.tmps, s2.t n = s.t n) (hl : ∀ n, o.foot.ul.has n → s2.loc n = s.loc n) (hh : o.foot.uh = true → s2.h = s.h) (hs : stepO call o s = some s1) :
  ∃ v loc h loc2 h2, s1 = St.put ⟨s.t, loc, h⟩ o.d v ∧ stepO call o s2 = some (St.put ⟨s2.t, loc2, h2⟩ o.d v) ∧ SameDo o.foot s s2 loc loc2 h h2 := by
 have hw : o.wanted s2 = o.wanted s := by
  unfold AOp.wanted
  cases hg : o.g with
  | none => rfl
  | some tw =>
   obtain ⟨t, want⟩ := tw
   have : s2.t t = s.t t := ht t (by simp [AOp.tmps, hg])
   simp only [this]
 unfold stepO at hs ⊢
 rw [hw]
 split at hs
 ·split at hs
  ·rename_i v loc h he
   injection hs with hs
   obtain ⟨loc2, h2, h3, h4⟩ := frame_op ht hl hh he
   exact ⟨v, loc, h, loc2, h2, hs.symm, by rw [h3], h4⟩
  ·cases hs
 ·injection hs with hs
  refine ⟨.tup [], s.loc, s.h, s2.loc, s2.h, hs.symm, rfl, fun n hn => hl n (foot_sl hn), fun n _ => ⟨rfl, rfl⟩, ?_⟩
  split
  ·rename_i hsh; exact hh (foot_sh hsh)
  ·exact ⟨rfl, rfl⟩
 ·cases hs
theorem comm_step {x y : AOp} (hc : commOK x y = true) {s t u : St} (h1 : stepO call x s = some t) (h2 : stepO call y t = some u) : ∃ t', stepO call y s = some t' ∧ stepO call x t' = some u := by
 simp only [commOK, Bool.and_eq_true, Bool.not_eq_true'] at hc
 obtain ⟨⟨⟨⟨⟨⟨c1, c2⟩, c3⟩, c4⟩, c5⟩, c6⟩, c7⟩ := hc
 have a1 := dstApart_spec c1
 have a2 := dstApart_spec c2
 have a3 : ∀ n, x.foot.sl.has n → ¬y.foot.ul.has n := fun n hx hy => LU.apart_spec c4 n hx hy
 have a4 : ∀ n, y.foot.sl.has n → ¬x.foot.ul.has n := fun n hx hy => LU.apart_spec c5 n hx hy
 have a5 : x.foot.sh = true → y.foot.uh = false := fun h => by simpa [h] using c6
 have a6 : y.foot.sh = true → x.foot.uh = false := fun h => by simpa [h] using c7
 -- the first step by itself
 obtain ⟨v1, loc1, h1', _, _, rfl, _, d1a, d1b, d1c⟩ := frame_step (s2 := s) (fun n _ => rfl) (fun n _ => rfl) (fun _ => rfl) h1
 have e1 := put_t (s := s) (loc := loc1) (h := h1') (d := x.d) (v := v1)
 -- the second step ahead of it
 obtain ⟨v2, loc2, h2', loc2', h2'', hu, hy, d2a, d2b, d2c⟩ := frame_step (s2 := s) (fun n hn => (e1.2.2 n (a1 n hn)).symm) (fun n hn => by
   rw [e1.1]
   exact ((d1b n (fun hx => a3 n hx hn)).1).symm) (fun huh => by
   rw [e1.2.1]
   have hsh : x.foot.sh = false := by cases hx : x.foot.sh with
    | false => rfl
    | true => rw [a5 hx] at huh; cases huh
   rw [if_neg (by rw [hsh]; simp)] at d1c
   exact d1c.1.symm) h2
 refine ⟨_, hy, ?_⟩
 have e2 := put_t (s := s) (loc := loc2') (h := h2'') (d := y.d) (v := v2)
 -- the first step behind it
 obtain ⟨v1', loc3, h3, loc1', h1'', ht, hx, d3a, d3b, d3c⟩ := frame_step (s2 := St.put ⟨s.t, loc2', h2''⟩ y.d v2) (fun n hn => e2.2.2 n (a2 n hn)) (fun n hn => by
   rw [e2.1]
   exact (d2b n (fun hy => a4 n hy hn)).2) (fun huh => by
   rw [e2.2.1]
   have hsh : y.foot.sh = false := by cases hx : y.foot.sh with
    | false => rfl
    | true => rw [a6 hx] at huh; cases huh
   rw [if_neg (by rw [hsh]; simp)] at d2c
   exact d2c.2) h1
 rw [hx]
 -- it is the same step: the same value, the same memory
 have hloc : loc1 = loc3 := by have := congrArg St.loc ht; rw [e1.1, put_t.1] at this; exact this
 have hheap : h1' = h3 := by have := congrArg St.h ht; rw [e1.2.1, put_t.2.1] at this; exact this
 subst hloc hheap
 rw [hu]
 congr 1
 have tl : loc1' = loc2 := by
  funext n
  by_cases n1 : x.foot.sl.has n
  ·rw [d3a n n1]
   have n2 : ¬y.foot.sl.has n := fun h => a3 n n1 (foot_sl h)
   rw [(d2b n n2).1, e1.1]
  ·rw [(d3b n n1).2, e2.1]
   by_cases n2 : y.foot.sl.has n
   ·exact d2a n n2
   ·rw [(d2b n n2).2, (d2b n n2).1, e1.1, (d3b n n1).1]
 have th : h1'' = h2' := by
  cases hx1 : x.foot.sh with
  | true =>
   rw [if_pos hx1] at d3c
   have : y.foot.sh = false := by cases hy1 : y.foot.sh with
    | false => rfl
    | true => have := a5 hx1; rw [foot_sh hy1] at this; cases this
   rw [if_neg (by rw [this]; simp)] at d2c
   rw [d3c, d2c.1, e1.2.1]
  | false =>
   rw [if_neg (by rw [hx1]; simp)] at d3c
   rw [d3c.2, e2.2.1]
   cases hy1 : y.foot.sh with
   | true => rw [if_pos hy1] at d2c; exact d2c
   | false => rw [if_neg (by rw [hy1]; simp)] at d2c; rw [d2c.2, d2c.1, e1.2.1, d3c.1]
 subst tl th
 -- the temporaries
 have hv : ∀ d, x.d = some d → v1 = v1' := fun d hd => by
  have := congrArg (fun s => St.t s d) ht
  simp only [St.put, hd, upd, if_true] at this
  exact this
 cases hxd : x.d with
 | none => cases hyd : y.d <;> rfl
 | some dx =>
  rw [← hv dx hxd]
  cases hyd : y.d with
  | none => rfl
  | some dy =>
   have hne : dx ≠ dy := by simpa [dstNe, hxd, hyd] using c3
   simp only [St.put, St.mk.injEq, and_true]
   funext n
   simp only [upd]
   by_cases n1 : n = dx <;> by_cases n2 : n = dy <;> simp_all

end
end Go.LS

/- The order theorem. -/
namespace Go.LS
def reach (pre : List (List Nat)) : Nat → Nat → Nat → Bool
 | 0, _, _ => false
 | k + 1, i, a => (pre.getD i []).any fun p => p == a || reach pre k p a
def runL (step : Nat → St → Option St) : List Nat → St → Option St
 | [], s => some s
 | i :: l, s => match step i s with
  | some s' => runL step l s'
  | none => none
def remOf (N : Nat) (listed : Array Bool) : List Nat := (List.range N).filter fun i => !listed.getD i true
def Down (pre : List (List Nat)) (listed : Array Bool) : Prop := ∀ i p, listed.getD i false = true → p ∈ pre.getD i [] → listed.getD p false = true

section
variable {pre : List (List Nat)} {N : Nat}
theorem reach_listed {listed : Array Bool} (hd : Down pre listed) : ∀ (k i a : Nat), (∀ p ∈ pre.getD i [], listed.getD p false = true) → reach pre k i a = true → listed.getD a false = true
 | 0, _, _, _, h => by cases h
 | k + 1, i, a, hp, h => by
  simp only [reach, List.any_eq_true, Bool.or_eq_true, beq_iff_eq] at h
  obtain ⟨p, hm, h⟩ := h
  rcases h with rfl | h
  ·exact hp _ hm
  ·exact reach_listed hd k p a (fun q hq => hd p q (hp p hm) hq) h
theorem getD_bool {listed : Array Bool} {i : Nat} (h : i < listed.size) (d d' : Bool) : listed.getD i d = listed.getD i d' := by
 simp [h]
theorem runL_append (step : Nat → St → Option St) : ∀ (l m : List Nat) (s : St), runL step (l ++ m) s = match runL step l s with | some t => runL step m t | none => none
 | [], m, s => rfl
 | i :: l, m, s => by
  simp only [List.cons_append, runL]
  split
  ·exact runL_append step l m _
  ·rfl
theorem move_front {step : Nat → St → Option St} {I : St → Prop} (hI : ∀ i s s', I s → step i s = some s' → I s') {i : Nat} {B : List Nat} {s' : St} :
  ∀ (A : List Nat) (s : St), I s → (∀ a ∈ A, ∀ s t u, I s → step a s = some t → step i t = some u → ∃ t', step i s = some t' ∧ step a t' = some u) → runL step (A ++ i :: B) s = some s' →
   ∃ s1, step i s = some s1 ∧ runL step (A ++ B) s1 = some s'
 | [], s, _, _, h => by
  simp only [List.nil_append, runL] at h ⊢
  split at h
  ·rename_i s1 h1; exact ⟨s1, h1, h⟩
  ·cases h
 | a :: A, s, hs, hc, h => by
  simp only [List.cons_append, runL] at h
  split at h
  ·rename_i t ht
   obtain ⟨u, h1, h2⟩ := move_front hI A t (hI _ _ _ hs ht) (fun b hb => hc b (by simp [hb])) h
   obtain ⟨t', h3, h4⟩ := hc a (by simp) s t u hs ht h1
   exact ⟨t', h3, by simp only [List.cons_append, runL, h4]; exact h2⟩
  ·cases h
theorem rem_split {listed : Array Bool} {i : Nat} (hsz : listed.size = N) (hi : i < N) (hun : listed.getD i true = false) :
  ∃ A B, remOf N listed = A ++ i :: B ∧ remOf N (listed.setIfInBounds i true) = A ++ B ∧ ∀ a ∈ A, a < i ∧ listed.getD a true = false := by
 have hN : List.range N = List.range i ++ i :: List.range' (i + 1) (N - (i + 1)) := by
  have e : List.range' 0 N = List.range' 0 (i + (1 + (N - (i + 1)))) := by congr 1; omega
  rw [List.range_eq_range', List.range_eq_range', e, ← List.range'_append_1, ← List.range'_append_1]
  simp [List.range'_succ, List.range'_zero]
 have hset : ∀ j, j ≠ i → (listed.setIfInBounds i true).getD j true = listed.getD j true := fun j hj => by
  simp [Array.getElem?_setIfInBounds_ne (Ne.symm hj)]
 have hseti : (listed.setIfInBounds i true).getD i true = true := by simp
 refine ⟨(List.range i).filter fun j => !listed.getD j true, (List.range' (i + 1) (N - (i + 1))).filter fun j => !listed.getD j true, ?_, ?_, fun a ha => ?_⟩
 ·unfold remOf
  rw [hN, List.filter_append, List.filter_cons, if_pos (by rw [hun]; rfl)]
 ·unfold remOf
  rw [hN, List.filter_append, List.filter_cons, if_neg (by rw [hseti]; simp)]
  congr 1
  ·refine List.filter_congr (fun j hj => ?_)
   rw [hset j (by have := List.mem_range.1 hj; omega)]
  ·refine List.filter_congr (fun j hj => ?_)
   rw [hset j (by have := (List.mem_range'_1.1 hj).1; omega)]
 ·rw [List.mem_filter, List.mem_range] at ha
  exact ⟨ha.1, by simpa using ha.2⟩
theorem mem_readyA {listed : Array Bool} {i : Nat} : i ∈ readyA pre listed ↔ i < pre.length ∧ listed.getD i true = false ∧ ∀ p ∈ pre.getD i [], listed.getD p false = true := by
 unfold readyA
 rw [List.mem_filter, List.mem_range]
 simp only [Bool.and_eq_true, Bool.not_eq_true', List.all_eq_true]
theorem some_ready (hpre : pre.length = N) (hlt : ∀ i p, p ∈ pre.getD i [] → p < i) {listed : Array Bool} (hsz : listed.size = N) {i : Nat} (hi : i < N) (hun : listed.getD i true = false) : readyA pre listed ≠ [] := by
 induction i using Nat.strongRecOn with
 | _ i ih =>
  by_cases h : ∀ p ∈ pre.getD i [], listed.getD p false = true
  ·intro he
   have : i ∈ readyA pre listed := mem_readyA.2 ⟨by omega, hun, h⟩
   rw [he] at this
   cases this
  ·have ⟨p, hp, hpf⟩ : ∃ p ∈ pre.getD i [], listed.getD p false ≠ true := Classical.byContradiction fun hn => h fun p hp => Classical.byContradiction fun hc => hn ⟨p, hp, hc⟩
   have hpi := hlt i p hp
   refine ih p hpi (by omega) ?_
   rw [getD_bool (by omega) true false]
   simpa using hpf
theorem ord_sound {step : Nat → St → Option St} {I : St → Prop} (hpre : pre.length = N) (hlt : ∀ i p, p ∈ pre.getD i [] → p < i) (hI : ∀ i s s', I s → step i s = some s' → I s')
  (hc : ∀ a i, a < i → i < N → reach pre N i a = false → ∀ s t u, I s → step a s = some t → step i t = some u → ∃ t', step i s = some t' ∧ step a t' = some u) :
  ∀ (n : Nat) (listed : Array Bool) (s s' : St), listed.size = N → Down pre listed → (remOf N listed).length = n → I s → runL step (remOf N listed) s = some s' → AllOrd step pre n listed s s'
 | 0, listed, s, s', hsz, _, hn, _, h => by
  have hnil : remOf N listed = [] := List.length_eq_zero_iff.1 hn
  rw [hnil] at h
  injection h with h
  refine ⟨?_, h⟩
  cases hr : readyA pre listed with
  | nil => rfl
  | cons i l =>
   have : i ∈ readyA pre listed := by rw [hr]; simp
   obtain ⟨h1, h2, _⟩ := mem_readyA.1 this
   have : i ∈ remOf N listed := by unfold remOf; rw [List.mem_filter, List.mem_range]; exact ⟨by omega, by rw [h2]; rfl⟩
   rw [hnil] at this
   cases this
 | n + 1, listed, s, s', hsz, hd, hn, hs, h => by
  refine ⟨fun hr => ?_, fun i hi => ?_⟩
  ·exfalso
   cases hrem : remOf N listed with
   | nil => rw [hrem] at hn; cases hn
   | cons i l =>
    have : i ∈ remOf N listed := by rw [hrem]; simp
    unfold remOf at this
    rw [List.mem_filter, List.mem_range] at this
    exact some_ready hpre hlt hsz this.1 (by simpa using this.2) hr
  ·obtain ⟨h1, h2, h3⟩ := mem_readyA.1 hi
   have hiN : i < N := by omega
   obtain ⟨A, B, e1, e2, e3⟩ := rem_split hsz hiN h2
   rw [e1] at h
   have hcA : ∀ a ∈ A, ∀ s t u, I s → step a s = some t → step i t = some u → ∃ t', step i s = some t' ∧ step a t' = some u := fun a ha => by
    obtain ⟨h4, h5⟩ := e3 a ha
    refine hc a i h4 hiN ?_
    cases hr : reach pre N i a with
    | false => rfl
    | true =>
     have := reach_listed hd N i a h3 hr
     rw [getD_bool (by omega) false true, h5] at this
     cases this
   obtain ⟨s1, h4, h5⟩ := move_front hI A s hs hcA h
   refine ⟨s1, h4, ord_sound hpre hlt hI hc n _ s1 s' (by simp [hsz]) (fun j p hj hp => ?_) ?_ (hI _ _ _ hs h4) (by rw [e2]; exact h5)⟩
   ·have keep : ∀ q, listed.getD q false = true → (listed.setIfInBounds i true).getD q false = true := fun q hq => by
     by_cases hqi : q = i
     ·subst hqi; simp [show q < listed.size by omega]
     ·simpa [Array.getElem?_setIfInBounds_ne (Ne.symm hqi)] using hq
    by_cases hji : j = i
    ·subst hji; exact keep p (h3 p hp)
    ·refine keep p (hd j p ?_ hp)
     simpa [Array.getElem?_setIfInBounds_ne (Ne.symm hji)] using hj
   ·rw [e2]
    rw [e1] at hn
    simp at hn ⊢
    omega

end
theorem runOps_runL {call : CallT} : ∀ (m l : List AOp) (s : St), runOps call l s = runL (stepAt call (m ++ l)) (List.range' m.length l.length) s
 | m, [], s => rfl
 | m, o :: l, s => by
  have h1 : stepAt call (m ++ o :: l) m.length s = stepO call o s := by
   unfold stepAt
   rw [List.getElem?_append_right (Nat.le_refl _)]
   simp
  simp only [runOps, List.length_cons, List.range'_succ, runL, h1]
  cases hs : stepO call o s with
  | none => rfl
  | some s' =>
   have := runOps_runL (m ++ [o]) l s' (call := call)
   simpa using this
def ordOK (l : List AOp) (pre : List (List Nat)) : Bool :=
 pre.length == l.length && (List.range l.length).all fun i => ((pre.getD i []).all fun p => decide (p < i)) &&
  (List.range i).all fun a => reach pre l.length i a || (match l[a]?, l[i]? with | some x, some y => commOK x y | _, _ => false)
def ordBut (l : List AOp) (pre : List (List Nat)) (but : List (Nat × Nat)) : Bool :=
 pre.length == l.length && (List.range l.length).all fun i => ((pre.getD i []).all fun p => decide (p < i)) &&
  (List.range i).all fun a => reach pre l.length i a || but.contains (a, i) || (match l[a]?, l[i]? with | some x, some y => commOK x y | _, _ => false)
theorem any_order_but {call : CallT} {l : List AOp} {pre : List (List Nat)} {but : List (Nat × Nat)} (hok : ordBut l pre but = true) {I : St → Prop}
  (hI : ∀ i s s', I s → stepAt call l i s = some s' → I s')
  (hb : ∀ a i x y, (a, i) ∈ but → l[a]? = some x → l[i]? = some y → ∀ s t u, I s → stepO call x s = some t → stepO call y t = some u → ∃ t', stepO call y s = some t' ∧ stepO call x t' = some u)
  {s s' : St} (hs : I s) (h : runOps call l s = some s') : runAny call l pre s = some s' := by
 simp only [ordBut, Bool.and_eq_true, beq_iff_eq, List.all_eq_true, List.mem_range, decide_eq_true_eq, Bool.or_eq_true] at hok
 obtain ⟨hlen, hall⟩ := hok
 have hlt : ∀ i p, p ∈ pre.getD i [] → p < i := fun i p hp => by
  by_cases hi : i < l.length
  ·exact (hall i hi).1 p hp
  ·rw [List.getD_eq_getElem?_getD, List.getElem?_eq_none (by omega)] at hp
   cases hp
 rw [runAny_iff]
 refine ⟨h, AllOrd.toP (.inl rfl) _ _ _ ?_⟩
 have hrem : remOf l.length (Array.replicate l.length false) = List.range l.length := by
  unfold remOf
  rw [List.filter_eq_self]
  intro i hi
  have : i < l.length := List.mem_range.1 hi
  simp [this]
 refine ord_sound (I := I) hlen hlt hI (fun a i hai hi hr s t u hs h1 h2 => ?_) _ _ s s' (by simp) (fun i p hi => ?_) (by rw [hrem]; simp) hs ?_
 ·have ha : a < l.length := by omega
  have hx : l[a]? = some l[a] := by simp [ha]
  have hy : l[i]? = some l[i] := by simp [hi]
  simp only [stepAt, hx, hy] at h1 h2 ⊢
  rcases (hall i hi).2 a hai with (h3 | h3) | h3
  ·rw [hr] at h3; cases h3
  ·exact hb a i _ _ (by simpa using h3) hx hy s t u hs h1 h2
  ·rw [hx, hy] at h3
   exact comm_step h3 h1 h2
 ·have : (Array.replicate l.length false).getD i false = false := by
   by_cases hil : i < l.length
   ·simp [hil]
   ·simp [hil]
  rw [this] at hi
  cases hi
 ·rw [hrem]
  have := runOps_runL (call := call) [] l s
  rw [← h, this, List.range_eq_range']
  rfl
theorem any_order {call : CallT} {l : List AOp} {pre : List (List Nat)} (hok : ordOK l pre = true) {s s' : St} (h : runOps call l s = some s') : runAny call l pre s = some s' := by
 refine any_order_but (but := []) (I := fun _ => True) ?_ (fun _ _ _ _ _ => trivial) (fun a i x y hm => by cases hm) trivial h
 simpa [ordBut, ordOK] using hok
theorem codeD_dops_text {tab : FuncId → Option AFn} {l : List AOp} {pre : List (List Nat)} (hok : ordOK l pre = true) {s s' : St} (h : runOps (callD tab) l s = some s') :
  codeD tab (.dops l pre) s = some (.normal, s') := by
 rw [codeD_eq]
 simp only [codeF]
 have := any_order hok h
 unfold callD at this
 rw [this]

end Go.LS

/- What ties the abstract machine to the model's memory: values, objects, locals, frames. -/
namespace Go.LS
structure Rec where
 b : Nat
 s : Nat
 cap : Nat
structure Ghost where
 M : Nat → Nat → Option Value
 ρ : Nat → Option Rec
structure Ghost.le (G G' : Ghost) : Prop where
 m : ∀ b o c, G.M b o = some c → G'.M b o = some c
 r : ∀ id r, G.ρ id = some r → G'.ρ id = some r
theorem Ghost.le.refl (G : Ghost) : G.le G := ⟨fun _ _ _ h => h, fun _ _ h => h⟩
theorem Ghost.le.trans {A B C : Ghost} (h : A.le B) (k : B.le C) : A.le C := ⟨fun _ _ _ x => k.m _ _ _ (h.m _ _ _ x), fun _ _ x => k.r _ _ (h.r _ _ x)⟩
def TagOK (G : Ghost) (t : Tag) (a : Option Addr) (len cap b o s : Nat) : Prop :=
 match t with
 | .nil => a = none ∧ cap = 0
 | .ro => True
 | .exact => cap = len
 | .own t => a = some ⟨b, o, none⟩ ∧ o = 0 ∧ ∃ r, G.ρ t = some r ∧ r.b = b ∧ r.s = s ∧ cap = r.cap
theorem TagOK.mono {G G' : Ghost} (hl : G.le G') {t : Tag} {a : Option Addr} {len cap b o s : Nat} (h : TagOK G t a len cap b o s) : TagOK G' t a len cap b o s := by
 cases t with
 | own t => exact ⟨h.1, h.2.1, let ⟨r, h1, h2⟩ := h.2.2; ⟨r, hl.r _ _ h1, h2⟩⟩
 | _ => exact h
inductive R (G : Ghost) : V → Value → Prop
 | undef (c : Value) : R G .undef c
 | bool (b : Bool) : R G (.bool b) (.bool b)
 | int (k : IntKind) (n : Int) : R G (.int k n) (.int k n)
 | flt (k : FloatKind) (n : Nat) : R G (.flt k n) (.float k n)
 | cplx (k : FloatKind) (x y : Nat) : R G (.cplx k x y) (.complex k x y)
 | str (s : ByteArray) : R G (.str s) (.string s)
 | nilp : R G .nilp (.pointer none)
 | obj {id off : Nat} {r : Rec} (h : G.ρ id = some r) : R G (.obj id off) (.pointer (some ⟨r.b, off, none⟩))
 | elt {id i off : Nat} {r : Rec} (h : G.ρ id = some r) : R G (.elt id i off) (.pointer (some ⟨r.b, i * r.s + off, none⟩))
 | imm {cells : List V} {off b o : Nat} (c : Nat → Value) (hM : ∀ (j : Nat) (x : V), cells[j]? = some x → G.M b (o + j) = some (c j))
   (hl : ∀ (j : Nat) (x : V), cells[j]? = some x → x.leaf = true) (hR : ∀ (j : Nat) (x : V), cells[j]? = some x → R G x (c j)) :
   R G (.imm cells off) (.pointer (some ⟨b, o + off, none⟩))
 | lst {t : Tag} {l : List (List V)} {a : Option Addr} {len cap b o s : Nat} (c : Nat → Nat → Value) (hlen : len = l.length) (hcap : len ≤ cap)
   (ha : l ≠ [] → a = some ⟨b, o, none⟩) (ht : TagOK G t a len cap b o s) (hs : ∀ (i : Nat) (e : List V), l[i]? = some e → e.length = s)
   (hM : ∀ (i : Nat) (e : List V) (j : Nat) (x : V), l[i]? = some e → e[j]? = some x → G.M b (o + i * s + j) = some (c i j))
   (hl : ∀ (i : Nat) (e : List V) (j : Nat) (x : V), l[i]? = some e → e[j]? = some x → x.leaf = true)
   (hR : ∀ (i : Nat) (e : List V) (j : Nat) (x : V), l[i]? = some e → e[j]? = some x → R G x (c i j)) :
   R G (.lst t l) (.slice a len cap)
 | row {id off len cap cap' : Nat} {a : Addr} {r : Rec} (h : G.ρ id = some r) (h1 : len ≤ cap) (h2 : cap ≤ cap') (h3 : off + cap' ≤ r.cap)
   (ha : cap' ≠ 0 → a = ⟨r.b, off * r.s, none⟩) : R G (.row id off len cap) (.slice (some a) len cap')
 | mapN : R G (.map none) (.map none)
 | map {id : Nat} {r : Rec} (h : G.ρ id = some r) : R G (.map (some id)) (.map (some r.b))
 | fn {f : FuncId} {x y : List V} {cx cy : Array Value} (hx : x.length = cx.size) (hy : y.length = cy.size)
   (lx : ∀ (j : Nat) (v : V), x[j]? = some v → v.leaf = true) (ly : ∀ (j : Nat) (v : V), y[j]? = some v → v.leaf = true)
   (hX : ∀ (j : Nat) (v : V), x[j]? = some v → R G v (cx.getD j undef)) (hY : ∀ (j : Nat) (v : V), y[j]? = some v → R G v (cy.getD j undef)) :
   R G (.fn f x y) (.func (.func f) cx cy)
 | nilFn : R G .nilFn .nilFunc
 | agg {l : List V} {cs : Array Value} (hs : l.length = cs.size) (hl : ∀ (j : Nat) (x : V), l[j]? = some x → x.leaf = true)
   (hR : ∀ (j : Nat) (x : V), l[j]? = some x → R G x (cs.getD j undef)) : R G (.agg l) (.agg cs)
 | tup {l : List V} {cs : Array Value} (hs : l.length = cs.size) (hR : ∀ (j : Nat) (x : V), l[j]? = some x → R G x (cs.getD j undef)) : R G (.tup l) (.tuple cs)
theorem R.mono {G G' : Ghost} (hl : G.le G') {v : V} {c : Value} (h : R G v c) : R G' v c := by
 induction h with
 | undef c => exact .undef c
 | bool b => exact .bool b
 | int k n => exact .int k n
 | flt k n => exact .flt k n
 | cplx k x y => exact .cplx k x y
 | str s => exact .str s
 | nilp => exact .nilp
 | obj h => exact .obj (hl.r _ _ h)
 | elt h => exact .elt (hl.r _ _ h)
 | imm c hM h1 _ ih => exact .imm c (fun j x hx => hl.m _ _ _ (hM j x hx)) h1 ih
 | lst c hlen hcap ha ht hs hM h1 _ ih => exact .lst c hlen hcap ha (ht.mono hl) hs (fun i e j x hi hj => hl.m _ _ _ (hM i e j x hi hj)) h1 ih
 | row h h1 h2 h3 ha => exact .row (hl.r _ _ h) h1 h2 h3 ha
 | mapN => exact .mapN
 | map h => exact .map (hl.r _ _ h)
 | fn hx hy lx ly _ _ ihx ihy => exact .fn hx hy lx ly ihx ihy
 | nilFn => exact .nilFn
 | agg hs h1 _ ih => exact .agg hs h1 ih
 | tup hs _ ih => exact .tup hs ih
structure CR (G : Ghost) (vs : List V) (cs : Array Value) : Prop where
 size : vs.length = cs.size
 leaf : ∀ (j : Nat) (x : V), vs[j]? = some x → x.leaf = true
 rel : ∀ (j : Nat) (x : V), vs[j]? = some x → R G x (cs.getD j undef)
theorem CR.mono {G G' : Ghost} (hl : G.le G') {vs : List V} {cs : Array Value} (h : CR G vs cs) : CR G' vs cs := ⟨h.size, h.leaf, fun j x hx => (h.rel j x hx).mono hl⟩
theorem R.oneCell {G : Ghost} {v : V} {c : Value} (h : R G v c) (hl : v.leaf = true) : c.oneCell' = true := by
 cases h <;> first | rfl | cases hl
theorem R.cells {G : Ghost} {v : V} {c : Value} (h : R G v c) {vs : List V} (hv : v.cells = some vs) : CR G vs c.cells := by
 have one : ∀ {u : V} {d : Value}, R G u d → u.leaf = true → d.cells = #[d] → CR G [u] d.cells := by
  intro u d hu hlf hd
  refine ⟨by rw [hd]; rfl, fun j x hx => ?_, fun j x hx => ?_⟩
  ·cases j with
   | zero => simp at hx; subst hx; exact hlf
   | succ j => simp at hx
  ·cases j with
   | zero => simp at hx; subst hx; rw [hd]; exact hu
   | succ j => simp at hx
 cases h with
 | undef c => cases hv
 | agg hs h1 h2 => injection hv with hv; subst hv; exact ⟨hs, h1, h2⟩
 | tup hs h2 => cases hv
 | bool b => injection hv with hv; subst hv; exact one (.bool b) rfl rfl
 | int k n => injection hv with hv; subst hv; exact one (.int k n) rfl rfl
 | flt k n => injection hv with hv; subst hv; exact one (.flt k n) rfl rfl
 | cplx k x y => injection hv with hv; subst hv; exact one (.cplx k x y) rfl rfl
 | str s => injection hv with hv; subst hv; exact one (.str s) rfl rfl
 | nilp => injection hv with hv; subst hv; exact one .nilp rfl rfl
 | obj h => injection hv with hv; subst hv; exact one (.obj h) rfl rfl
 | elt h => injection hv with hv; subst hv; exact one (.elt h) rfl rfl
 | imm c hM h1 h2 => injection hv with hv; subst hv; exact one (.imm c hM h1 h2) rfl rfl
 | lst c hlen hcap ha ht hs hM h1 h2 => injection hv with hv; subst hv; exact one (.lst c hlen hcap ha ht hs hM h1 h2) rfl rfl
 | row h h1 h2 h3 ha => injection hv with hv; subst hv; exact one (.row h h1 h2 h3 ha) rfl rfl
 | mapN => injection hv with hv; subst hv; exact one .mapN rfl rfl
 | map h => injection hv with hv; subst hv; exact one (.map h) rfl rfl
 | fn hx hy lx ly h1 h2 => injection hv with hv; subst hv; exact one (.fn hx hy lx ly h1 h2) rfl rfl
 | nilFn => injection hv with hv; subst hv; exact one .nilFn rfl rfl
theorem R.lst_inv {G : Ghost} {t : Tag} {l : List (List V)} {c : Value} (h : R G (.lst t l) c) : ∃ (a : Option Addr) (cap b o s : Nat) (f : Nat → Nat → Value),
  c = .slice a l.length cap ∧ l.length ≤ cap ∧ (l ≠ [] → a = some ⟨b, o, none⟩) ∧ TagOK G t a l.length cap b o s ∧
  (∀ (i : Nat) (e : List V), l[i]? = some e → e.length = s) ∧
  (∀ (i : Nat) (e : List V) (j : Nat) (x : V), l[i]? = some e → e[j]? = some x → G.M b (o + i * s + j) = some (f i j) ∧ x.leaf = true ∧ R G x (f i j)) := by
 cases h with
 | lst f hlen hcap ha ht hs hM hl hR =>
  subst hlen
  exact ⟨_, _, _, _, _, f, rfl, hcap, ha, ht, hs, fun i e j x hi hj => ⟨hM i e j x hi hj, hl i e j x hi hj, hR i e j x hi hj⟩⟩
theorem R.lst_mk {G : Ghost} {t : Tag} {l : List (List V)} {a : Option Addr} {len cap b o s : Nat} (f : Nat → Nat → Value) (hlen : len = l.length) (hcap : len ≤ cap) (ha : l ≠ [] → a = some ⟨b, o, none⟩)
  (ht : TagOK G t a len cap b o s) (hs : ∀ (i : Nat) (e : List V), l[i]? = some e → e.length = s)
  (h : ∀ (i : Nat) (e : List V) (j : Nat) (x : V), l[i]? = some e → e[j]? = some x → G.M b (o + i * s + j) = some (f i j) ∧ x.leaf = true ∧ R G x (f i j)) : R G (.lst t l) (.slice a len cap) :=
 .lst f hlen hcap ha ht hs (fun i e j x hi hj => (h i e j x hi hj).1) (fun i e j x hi hj => (h i e j x hi hj).2.1) (fun i e j x hi hj => (h i e j x hi hj).2.2)
theorem R.row_inv {G : Ghost} {id off len cap : Nat} {c : Value} (h : R G (.row id off len cap) c) : ∃ (cap' : Nat) (a : Addr) (r : Rec),
  c = .slice (some a) len cap' ∧ G.ρ id = some r ∧ len ≤ cap ∧ cap ≤ cap' ∧ off + cap' ≤ r.cap ∧ (cap' ≠ 0 → a = ⟨r.b, off * r.s, none⟩) := by
 cases h with
 | row h h1 h2 h3 ha => exact ⟨_, _, _, rfl, h, h1, h2, h3, ha⟩
theorem R.agg_inv {G : Ghost} {l : List V} {c : Value} (h : R G (.agg l) c) : ∃ cs, c = .agg cs ∧ CR G l cs := by
 cases h with
 | agg hs hl hR => exact ⟨_, rfl, hs, hl, hR⟩
theorem R.tup_inv {G : Ghost} {l : List V} {c : Value} (h : R G (.tup l) c) : ∃ cs, c = .tuple cs ∧ l.length = cs.size ∧ ∀ (j : Nat) (x : V), l[j]? = some x → R G x (cs.getD j Go.undef) := by
 cases h with
 | tup hs hR => exact ⟨_, rfl, hs, hR⟩
theorem R.map_inv {G : Ghost} {id : Nat} {c : Value} (h : R G (.map (some id)) c) : ∃ r, c = .map (some r.b) ∧ G.ρ id = some r := by
 cases h with
 | map h => exact ⟨_, rfl, h⟩
theorem R.fn_inv {G : Ghost} {f : FuncId} {x y : List V} {c : Value} (h : R G (.fn f x y) c) : ∃ cx cy, c = .func (.func f) cx cy ∧ CR G x cx ∧ CR G y cy := by
 cases h with
 | fn hx hy lx ly hX hY => exact ⟨_, _, rfl, ⟨hx, lx, hX⟩, ⟨hy, ly, hY⟩⟩

def MapR (G : Ghost) (k : IntKind) (f : Int → Option V) (es : Array MapEntry) : Prop :=
 (∀ e ∈ es.toList, ∃ n, e.key = .int k n) ∧ (es.toList.map (·.key)).Nodup ∧
 (∀ n v, f n = some v → ∃ e ∈ es.toList, e.key = .int k n ∧ R G v e.val) ∧
 (∀ n, f n = none → ∀ e ∈ es.toList, e.key ≠ .int k n)
def ObjR (G : Ghost) (ob : AObj) (r : Rec) (w : World) : Prop :=
 match ob with
 | .var cells => ∃ cs ty, w.heap[r.b]? = some (.cells cs ty (0, 0)) ∧ CR G cells cs ∧ ∀ o, G.M r.b o = none
 | .row l => ∃ cs ty, w.heap[r.b]? = some (.cells cs ty (0, 0)) ∧ r.cap * r.s ≤ cs.size ∧ l.length ≤ r.cap ∧
   (∀ (i : Nat) (e : List V), l[i]? = some e → e.length = r.s ∧ ∀ (j : Nat) (x : V), e[j]? = some x → x.leaf = true ∧ R G x (cs.getD (i * r.s + j) undef)) ∧
   ∀ o, G.M r.b o = none
 | .map k f => ∃ es clock, w.heap[r.b]? = some (.map es clock) ∧ MapR G k f es ∧ MapKept.Stamped es clock ∧ ∀ o, G.M r.b o = none
 | .tok n sz => ∃ cs ty, w.heap[r.b]? = some (.cells cs ty (0, 0)) ∧ r.cap * r.s ≤ cs.size ∧ n ≤ r.cap ∧ r.s = sz ∧ ∀ o, G.M r.b o ≠ none → o < n * r.s
structure Inv (G : Ghost) (h : Heap) (w : World) : Prop where
 imm : ∀ b o c, G.M b o = some c → w.cell? ⟨b, o, none⟩ = some c
 obj : ∀ id ob, h.objs id = some ob → ∃ r, G.ρ id = some r ∧ ObjR G ob r w
 fresh : ∀ id, h.next ≤ id → G.ρ id = none
 sep : ∀ id id' ob ob' r r', h.objs id = some ob → h.objs id' = some ob' → G.ρ id = some r → G.ρ id' = some r' → r.b = r'.b → id = id'
def FrameOK (F : Nat → Option Obj) (G : Ghost) (h : Heap) (w : World) : Prop :=
 ∀ b o, F b = some o → w.heap[b]? = some o ∧ (∀ id ob r, h.objs id = some ob → G.ρ id = some r → r.b ≠ b) ∧ ∀ q, G.M b q = none
abbrev Lam := Nat → Option (Nat × Nat)
structure LocR (F : Nat → Option Obj) (G : Ghost) (lam : Lam) (h : Heap) (loc : Loc) (w : World) : Prop where
 val : ∀ sl ver cells, loc sl = some (ver, cells) → ∃ B cs ty, lam sl = some (ver, B) ∧ w.heap[B]? = some (.cells cs ty (0, 0)) ∧ CR G cells cs
 conv : ∀ sl ver B, lam sl = some (ver, B) → ∃ cells, loc sl = some (ver, cells)
 imm : ∀ sl ver B, lam sl = some (ver, B) → ∀ o, G.M B o = none
 apart : ∀ sl ver B id ob r, lam sl = some (ver, B) → h.objs id = some ob → G.ρ id = some r → r.b ≠ B
 inj : ∀ sl sl' ver ver' B, lam sl = some (ver, B) → lam sl' = some (ver', B) → sl = sl'
 frame : ∀ sl ver B, lam sl = some (ver, B) → F B = none
def RT (G : Ghost) (lam : Lam) (v : V) (c : Value) : Prop :=
 match v with
 | .loc s ver off => ∃ cv B, lam s = some (cv, B) ∧ ver ≤ cv ∧ (ver = cv → c = .pointer (some ⟨B, off, none⟩))
 | v => R G v c
def Shapes (w0 w : World) : Prop := ∀ (b : Nat) (cs : Array Value) (ty : TypeId) (fr : Nat × Nat), w0.heap[b]? = some (.cells cs ty fr) → ∃ cs', w.heap[b]? = some (.cells cs' ty fr) ∧ cs'.size = cs.size
theorem Shapes.of {w0 w : World} (h : ∀ (b : Nat) (o : Obj), w0.heap[b]? = some o → w.heap[b]? = some o) : Shapes w0 w := fun b cs _ _ hb => ⟨cs, h b _ hb, rfl⟩
def Same (w0 w : World) : Prop := w.os = w0.os ∧ w.tape = w0.tape ∧ w.output = w0.output ∧ Shapes w0 w
theorem Same.refl (w : World) : Same w w := ⟨rfl, rfl, rfl, .of fun _ _ h => h⟩
theorem Same.trans {a b c : World} (h : Same a b) (k : Same b c) : Same a c := ⟨k.1.trans h.1, k.2.1.trans h.2.1, k.2.2.1.trans h.2.2.1, fun x cs ty fr hx => let ⟨c1, h1, h2⟩ := h.2.2.2 x cs ty fr hx; let ⟨c2, h3, h4⟩ := k.2.2.2 x c1 ty fr h1; ⟨c2, h3, h4.trans h2⟩⟩
structure SR (F : Nat → Option Obj) (w0 : World) (N : Nat) (G : Ghost) (lam : Lam) (s : St) (a : Act) (w : World) : Prop where
 inv : Inv G s.h w
 frame : FrameOK F G s.h w
 locs : LocR F G lam s.h s.loc w
 tmp : ∀ t, RT G lam (s.t t) (a.tmps.getD t undef)
 size : a.tmps.size = N
 defers : a.defers = []
 same : Same w0 w
def Lam.le (l l' : Lam) : Prop := ∀ s v B, l s = some (v, B) → ∃ v' B', l' s = some (v', B') ∧ (v < v' ∨ (v = v' ∧ B = B'))
theorem Lam.le.refl (l : Lam) : Lam.le l l := fun _ v B h => ⟨v, B, h, .inr ⟨rfl, rfl⟩⟩
theorem RT.mono {G G' : Ghost} {l l' : Lam} (hG : G.le G') (hl : Lam.le l l') {v : V} {c : Value} (h : RT G l v c) : RT G' l' v c := by
 cases v with
 | loc s ver off =>
  obtain ⟨cv, B, h1, h2, h3⟩ := h
  obtain ⟨v', B', h4, h5⟩ := hl _ _ _ h1
  refine ⟨v', B', h4, by omega, fun he => ?_⟩
  rcases h5 with h5 | ⟨rfl, rfl⟩
  ·omega
  ·exact h3 he
 | _ => exact R.mono hG h
theorem RT.of {G : Ghost} {l : Lam} {v : V} {c : Value} (h : RT G l v c) (hv : v.free = true) : R G v c := by
 cases v <;> first | exact h | cases hv
theorem RT.to {G : Ghost} {l : Lam} {v : V} {c : Value} (h : R G v c) : RT G l v c := by
 cases v <;> first | exact h | cases h
theorem RT.cells {G : Ghost} {l : Lam} {v : V} {c : Value} (h : RT G l v c) {vs : List V} (hv : v.cells = some vs) : CR G vs c.cells := by
 cases v with
 | loc s ver off => cases hv
 | _ => exact R.cells h hv

structure Ext (w w' : World) : Prop where
 heap : ∀ (b : Nat) (o : Obj), w.heap[b]? = some o → w'.heap[b]? = some o
 same : Same w w'
theorem Ext.refl (w : World) : Ext w w := ⟨fun _ _ h => h, .refl w⟩
theorem Ext.trans {a b c : World} (h : Ext a b) (k : Ext b c) : Ext a c := ⟨fun x o hx => k.heap _ _ (h.heap _ _ hx), h.same.trans k.same⟩
theorem Ext.alloc (w : World) (o : Obj) : Ext w (w.alloc o) := by
 have key : ∀ (b : Nat) (o' : Obj), w.heap[b]? = some o' → (w.alloc o).heap[b]? = some o' := fun b o' h => by
  have hb : b < w.heap.size := (Array.getElem?_eq_some_iff.1 h).1
  rw [heap_alloc_old w o b hb]; exact h
 exact ⟨key, ⟨rfl, rfl, rfl, .of key⟩⟩
theorem Ext.drew (w : World) : Ext w w.drew := ⟨fun _ _ h => h, ⟨rfl, rfl, rfl, .of fun _ _ h => h⟩⟩
theorem cell_heap {w : World} {b o : Nat} {c : Value} : w.cell? ⟨b, o, none⟩ = some c ↔ ∃ cs ty fr, w.heap[b]? = some (.cells cs ty fr) ∧ cs[o]? = some c := by
 unfold World.cell?
 constructor
 ·intro h
  split at h
  ·rename_i cs ty fr hb
   exact ⟨cs, ty, fr, hb, by simpa using h⟩
  ·cases h
 ·rintro ⟨cs, ty, fr, hb, hc⟩
  simp [hb, hc]
theorem Ext.cell {w w' : World} (h : Ext w w') {b o : Nat} {c : Value} (hc : w.cell? ⟨b, o, none⟩ = some c) : w'.cell? ⟨b, o, none⟩ = some c := by
 rw [cell_heap] at *
 obtain ⟨cs, ty, fr, hb, hc⟩ := hc
 exact ⟨cs, ty, fr, h.heap _ _ hb, hc⟩
theorem ObjR.ext {G : Ghost} {ob : AObj} {r : Rec} {w w' : World} (h : ObjR G ob r w) (he : Ext w w') : ObjR G ob r w' := by
 cases ob with
 | var cells => obtain ⟨cs, ty, h1, h2⟩ := h; exact ⟨cs, ty, he.heap _ _ h1, h2⟩
 | row l => obtain ⟨cs, ty, h1, h2⟩ := h; exact ⟨cs, ty, he.heap _ _ h1, h2⟩
 | map k f => obtain ⟨es, clock, h1, h2⟩ := h; exact ⟨es, clock, he.heap _ _ h1, h2⟩
 | tok n sz => obtain ⟨cs, ty, h1, h2⟩ := h; exact ⟨cs, ty, he.heap _ _ h1, h2⟩
theorem MapR.mono {G G' : Ghost} (hl : G.le G') {k : IntKind} {f : Int → Option V} {es : Array MapEntry} (h : MapR G k f es) : MapR G' k f es :=
 ⟨h.1, h.2.1, fun n v hv => let ⟨e, h1, h2, h3⟩ := h.2.2.1 n v hv; ⟨e, h1, h2, h3.mono hl⟩, h.2.2.2⟩
theorem ObjR.ghost {G G' : Ghost} (hl : G.le G') {ob : AObj} {r : Rec} {w : World} (hM : ∀ o, G.M r.b o = none → G'.M r.b o = none) (h : ObjR G ob r w) : ObjR G' ob r w := by
 cases ob with
 | var cells => obtain ⟨cs, ty, h1, h2, h3⟩ := h; exact ⟨cs, ty, h1, h2.mono hl, fun o => hM o (h3 o)⟩
 | row l =>
  obtain ⟨cs, ty, h1, h2, h3, h4, h5⟩ := h
  exact ⟨cs, ty, h1, h2, h3, fun i e he => ⟨(h4 i e he).1, fun j x hx => ⟨((h4 i e he).2 j x hx).1, ((h4 i e he).2 j x hx).2.mono hl⟩⟩, fun o => hM o (h5 o)⟩
 | map k f => obtain ⟨es, clock, h1, h2, h3, h4⟩ := h; exact ⟨es, clock, h1, h2.mono hl, h3, fun o => hM o (h4 o)⟩
 | tok n sz => obtain ⟨cs, ty, h1, h2, h3, h5, h4⟩ := h; exact ⟨cs, ty, h1, h2, h3, h5, fun o ho => h4 o (fun h0 => ho (hM o h0))⟩
theorem ObjR.there {G : Ghost} {ob : AObj} {r : Rec} {w : World} (h : ObjR G ob r w) : r.b < w.heap.size := by
 cases ob with
 | var cells => obtain ⟨cs, ty, h1, _⟩ := h; exact (Array.getElem?_eq_some_iff.1 h1).1
 | row l => obtain ⟨cs, ty, h1, _⟩ := h; exact (Array.getElem?_eq_some_iff.1 h1).1
 | map k f => obtain ⟨es, clock, h1, _⟩ := h; exact (Array.getElem?_eq_some_iff.1 h1).1
 | tok n sz => obtain ⟨cs, ty, h1, _⟩ := h; exact (Array.getElem?_eq_some_iff.1 h1).1
theorem Inv.ext {G : Ghost} {h : Heap} {w w' : World} (hi : Inv G h w) (he : Ext w w') : Inv G h w' :=
 ⟨fun b o c hc => he.cell (hi.imm b o c hc), fun id ob ho => let ⟨r, h1, h2⟩ := hi.obj id ob ho; ⟨r, h1, h2.ext he⟩, hi.fresh, hi.sep⟩
theorem FrameOK.ext {F : Nat → Option Obj} {G : Ghost} {h : Heap} {w w' : World} (hf : FrameOK F G h w) (he : Ext w w') : FrameOK F G h w' :=
 fun b o hb => ⟨he.heap _ _ (hf b o hb).1, (hf b o hb).2⟩
theorem LocR.ext {F : Nat → Option Obj} {G : Ghost} {lam : Lam} {h : Heap} {loc : Loc} {w w' : World} (hl : LocR F G lam h loc w) (he : Ext w w') : LocR F G lam h loc w' :=
 ⟨fun sl ver cells hc => let ⟨B, cs, ty, h1, h2, h3⟩ := hl.val sl ver cells hc; ⟨B, cs, ty, h1, he.heap _ _ h2, h3⟩, hl.conv, hl.imm, hl.apart, hl.inj, hl.frame⟩
theorem LocR.there {F : Nat → Option Obj} {G : Ghost} {lam : Lam} {h : Heap} {loc : Loc} {w : World} (hl : LocR F G lam h loc w) {sl ver B : Nat} (hb : lam sl = some (ver, B)) : B < w.heap.size := by
 obtain ⟨cells, hc⟩ := hl.conv _ _ _ hb
 obtain ⟨B', cs, ty, h1, h2, _⟩ := hl.val _ _ _ hc
 rw [hb] at h1
 injection h1 with h1
 injection h1 with _ h1
 subst h1
 exact (Array.getElem?_eq_some_iff.1 h2).1
theorem Inv.there {G : Ghost} {h : Heap} {w : World} (hi : Inv G h w) {b o : Nat} {c : Value} (hm : G.M b o = some c) : b < w.heap.size := by
 have := hi.imm _ _ _ hm
 rw [cell_heap] at this
 obtain ⟨cs, ty, fr, hb, _⟩ := this
 exact (Array.getElem?_eq_some_iff.1 hb).1
theorem Inv.ghost {G G' : Ghost} {h : Heap} {w : World} (hi : Inv G h w) (hl : G.le G') (himm : ∀ b o c, G'.M b o = some c → w.cell? ⟨b, o, none⟩ = some c)
  (hfresh : ∀ id, h.next ≤ id → G'.ρ id = none) (hM : ∀ id ob r, h.objs id = some ob → G.ρ id = some r → ∀ o, G.M r.b o = none → G'.M r.b o = none) : Inv G' h w := by
 have back : ∀ id ob r', h.objs id = some ob → G'.ρ id = some r' → G.ρ id = some r' := fun id ob r' ho hr => by
  obtain ⟨r, h1, _⟩ := hi.obj id ob ho
  rw [hl.r _ _ h1] at hr
  rw [h1, hr]
 refine ⟨himm, fun id ob ho => ?_, hfresh, fun id id' ob ob' r r' h1 h2 h3 h4 h5 => hi.sep id id' ob ob' r r' h1 h2 (back _ _ _ h1 h3) (back _ _ _ h2 h4) h5⟩
 obtain ⟨r, h1, h2⟩ := hi.obj id ob ho
 exact ⟨r, hl.r _ _ h1, h2.ghost hl (hM id ob r ho h1)⟩
theorem Inv.back {G G' : Ghost} {h : Heap} {w : World} (hi : Inv G h w) (hl : G.le G') {id : Nat} {ob : AObj} {r' : Rec} (ho : h.objs id = some ob) (hr : G'.ρ id = some r') : G.ρ id = some r' := by
 obtain ⟨r, h1, _⟩ := hi.obj id ob ho
 rw [hl.r _ _ h1] at hr
 rw [h1, hr]
theorem FrameOK.ghost {F : Nat → Option Obj} {G G' : Ghost} {h : Heap} {w : World} (hf : FrameOK F G h w) (hi : Inv G h w) (hl : G.le G') (hM : ∀ b o, F b = some o → ∀ q, G'.M b q = none) : FrameOK F G' h w :=
 fun b o hb => ⟨(hf b o hb).1, fun id ob r ho hr => (hf b o hb).2.1 id ob r ho (hi.back hl ho hr), hM b o hb⟩
theorem LocR.ghost {F : Nat → Option Obj} {G G' : Ghost} {lam : Lam} {h : Heap} {loc : Loc} {w : World} (hlr : LocR F G lam h loc w) (hi : Inv G h w) (hl : G.le G')
  (hM : ∀ sl ver B, lam sl = some (ver, B) → ∀ o, G'.M B o = none) : LocR F G' lam h loc w :=
 ⟨fun sl ver cells hc => let ⟨B, cs, ty, h1, h2, h3⟩ := hlr.val sl ver cells hc; ⟨B, cs, ty, h1, h2, h3.mono hl⟩, hlr.conv, hM,
  fun sl ver B id ob r h1 h2 h3 => hlr.apart sl ver B id ob r h1 h2 (hi.back hl h2 h3), hlr.inj, hlr.frame⟩

end Go.LS

/- Each operation of compact code does what the model's operation does: values alone. -/
namespace Go.LS
def Out (F : Nat → Option Obj) (w0 : World) (G : Ghost) (lam : Lam) (v : V) (loc : Loc) (h : Heap) (cv : Value) (w : World) : Prop :=
 ∃ G' lam', G.le G' ∧ Lam.le lam lam' ∧ Inv G' h w ∧ FrameOK F G' h w ∧ LocR F G' lam' h loc w ∧ Same w0 w ∧ RT G' lam' v cv
def Runs (P : Program) (a : Act) (o : Oper) (w : World) (cv : Value) (w' : World) : Prop :=
 (execOp a.eval o).run P w = .ok (.value cv) w' ∨ ((execOp a.eval o).run P w = .ok .skip w' ∧ cv = undef)
def OpOK (P : Program) (o : Oper) (k : AK) : Prop :=
 ∀ (F : Nat → Option Obj) (w0 : World) (N : Nat) (G : Ghost) (lam : Lam) (s : St) (a : Act) (w : World), SR F w0 N G lam s a w →
  ∀ (call : CallT) (v : V) (loc : Loc) (h : Heap), evalK call o.dst s k = some (v, loc, h) → ∃ cv w', Runs P a o w cv w' ∧ Out F w0 G lam v loc h cv w'
theorem SR.out {F : Nat → Option Obj} {w0 : World} {N : Nat} {G : Ghost} {lam : Lam} {s : St} {a : Act} {w : World} (h : SR F w0 N G lam s a w) {v : V} {cv : Value} (hv : RT G lam v cv) :
  Out F w0 G lam v s.loc s.h cv w := ⟨G, lam, .refl G, .refl lam, h.inv, h.frame, h.locs, h.same, hv⟩

def okVal : Value → V → Bool
 | .int k n, .int k' n' => k == k' && n == n'
 | .bool b, .bool b' => b == b'
 | .float k n, .flt k' n' => k == k' && n == n'
 | .complex k x y, .cplx k' x' y' => k == k' && x == x' && y == y'
 | .string s, .str s' => s.data == s'.data
 | .slice none 0 0, .lst .nil [] => true
 | .pointer none, .nilp => true
 | .map none, .map none => true
 | .nilFunc, .nilFn => true
 | .tuple vs, .tup l => vs.isEmpty && l.isEmpty
 | _, _ => false
theorem R.nilSlice (G : Ghost) : R G (.lst .nil []) (.slice none 0 0) :=
 .lst (b := 0) (o := 0) (s := 0) (fun _ _ => Go.undef) rfl (Nat.le_refl _) (fun h => absurd rfl h) ⟨rfl, rfl⟩ (fun i e h => by simp at h) (fun i e j x h => by simp at h)
  (fun i e j x h => by simp at h) (fun i e j x h => by simp at h)
theorem okVal_R {c : Value} {v : V} (h : okVal c v = true) (G : Ghost) : R G v c := by
 unfold okVal at h
 split at h
 ·simp at h; obtain ⟨rfl, rfl⟩ := h; exact .int _ _
 ·simp at h; subst h; exact .bool _
 ·simp at h; obtain ⟨rfl, rfl⟩ := h; exact .flt _ _
 ·simp at h; obtain ⟨⟨rfl, rfl⟩, rfl⟩ := h; exact .cplx _ _ _
 ·rename_i u u'; cases u; cases u'; simp only [beq_iff_eq] at h; subst h; exact .str _
 ·exact R.nilSlice G
 ·exact .nilp
 ·exact .mapN
 ·exact .nilFn
 ·simp at h; obtain ⟨rfl, rfl⟩ := h; exact .tup rfl (fun j x hx => by simp at hx)
 ·cases h
theorem okVal_leaf {c : Value} {v : V} (h : okVal c v = true) : v = .tup [] ∨ v.leaf = true := by
 unfold okVal at h
 split at h <;> first | exact .inr rfl | (simp at h; obtain ⟨rfl, rfl⟩ := h; exact .inl rfl) | cases h
def okOpd : Operand → Opd → Bool
 | .tmp t, .t t' => t == t'
 | .const c, .c v => okVal c v
 | .func f, .c (.fn f' [] []) => f == f'
 | _, _ => false
theorem SR.ev {F : Nat → Option Obj} {w0 : World} {N : Nat} {G : Ghost} {lam : Lam} {s : St} {a : Act} {w : World} (h : SR F w0 N G lam s a w) {x : Operand} {y : Opd} (hx : okOpd x y = true) :
  RT G lam (s.ev y) (a.eval x) := by
 unfold okOpd at hx
 split at hx
 ·simp at hx; subst hx; exact h.tmp _
 ·exact RT.to (okVal_R hx G)
 ·simp at hx; subst hx
  exact RT.to (R.fn (f := _) (x := []) (y := []) (cx := #[]) (cy := #[]) rfl rfl (fun j v hv => by simp at hv) (fun j v hv => by simp at hv) (fun j v hv => by simp at hv) (fun j v hv => by simp at hv))
 ·cases hx
def okOpds : List Operand → List Opd → Bool
 | [], [] => true
 | x :: l, y :: m => okOpd x y && okOpds l m
 | _, _ => false
theorem okOpds_spec : ∀ {l : List Operand} {m : List Opd}, okOpds l m = true → l.length = m.length ∧ ∀ (j : Nat) (x : Operand) (y : Opd), l[j]? = some x → m[j]? = some y → okOpd x y = true
 | [], [], _ => ⟨rfl, fun j x y h => by simp at h⟩
 | x :: l, y :: m, h => by
  simp only [okOpds, Bool.and_eq_true] at h
  obtain ⟨h1, h2⟩ := okOpds_spec h.2
  refine ⟨by simp [h1], fun j u v hu hv => ?_⟩
  cases j with
  | zero => simp at hu hv; subst hu; subst hv; exact h.1
  | succ j => exact h2 j u v (by simpa using hu) (by simpa using hv)
 | [], _ :: _, h => by cases h
 | _ :: _, [], h => by cases h
theorem RT.int_ {G : Ghost} {l : Lam} {k : IntKind} {n : Int} {c : Value} (h : RT G l (.int k n) c) : c = .int k n := by
 have h : R G (.int k n) c := h
 cases h; rfl
theorem RT.bool_ {G : Ghost} {l : Lam} {b : Bool} {c : Value} (h : RT G l (.bool b) c) : c = .bool b := by
 have h : R G (.bool b) c := h
 cases h; rfl
theorem RT.nil_ {G : Ghost} {l : Lam} {c : Value} (h : RT G l .nilp c) : c = .pointer none := by
 have h : R G .nilp c := h
 cases h; rfl

section
variable {P : Program} {o : Oper}
theorem runs_value {a : Act} {w w' : World} {cv : Value} (h : (execOp a.eval o).run P w = .ok (.value cv) w') : Runs P a o w cv w' := .inl h
theorem ok_mov {x : Operand} {y : Opd} (ho : o.op = .move x ∨ o.op = .assign x) (hx : okOpd x y = true) : OpOK P o (.mov y) := by
 intro F w0 N G lam s a w hs call v loc h he
 simp only [evalK, Option.some.injEq, Prod.mk.injEq] at he
 obtain ⟨rfl, rfl, rfl⟩ := he
 refine ⟨a.eval x, w, .inl ?_, hs.out (hs.ev hx)⟩
 rcases ho with ho | ho <;> simp [execOp, ho]
theorem ok_pick {c x y : Operand} {c' x' y' : Opd} (ho : o.op = .pick c x y) (hc : okOpd c c' = true) (hx : okOpd x x' = true) (hy : okOpd y y' = true) : OpOK P o (.pick c' x' y') := by
 intro F w0 N G lam s a w hs call v loc h he
 simp only [evalK] at he
 split at he
 ·rename_i t ht
  simp only [Option.some.injEq, Prod.mk.injEq] at he
  obtain ⟨rfl, rfl, rfl⟩ := he
  have hc' := hs.ev hc
  rw [ht] at hc'
  have hb := hc'.bool_
  refine ⟨if t then a.eval x else a.eval y, w, .inl ?_, hs.out ?_⟩
  ·cases t <;> simp [execOp, ho, asBool, hb]
  ·cases t
   ·exact hs.ev hy
   ·exact hs.ev hx
 ·cases he
theorem ok_nilchk {x : Operand} {x' : Opd} (ho : o.op = .nilCheck x) (hx : okOpd x x' = true) : OpOK P o (.nilchk x') := by
 intro F w0 N G lam s a w hs call v loc h he
 have hr := hs.ev hx
 have go : ∀ p : Addr, a.eval x = .pointer (some p) → v = s.ev x' → loc = s.loc → h = s.h → ∃ cv w', Runs P a o w cv w' ∧ Out F w0 G lam v loc h cv w' := by
  rintro p hp rfl rfl rfl
  exact ⟨a.eval x, w, .inl (by simp [execOp, ho, hp]), hs.out hr⟩
 cases hu : s.ev x' with
 | loc sl ver off =>
  simp only [evalK, hu] at he
  rw [hu] at hr
  obtain ⟨cv, B, h1, h2, h3⟩ := hr
  split at he
  ·rename_i b' cs hb
   split at he
   ·rename_i heq
    obtain ⟨B', cs', ty, h4, _⟩ := hs.locs.val _ _ _ hb
    rw [h1] at h4
    injection h4 with h4
    injection h4 with h4 h5
    simp only [Option.some.injEq, Prod.mk.injEq] at he
    obtain ⟨rfl, rfl, rfl⟩ := he
    exact go _ (h3 (by omega)) hu.symm rfl rfl
   ·cases he
  ·cases he
 | obj id off =>
  simp only [evalK, hu, Option.some.injEq, Prod.mk.injEq] at he
  obtain ⟨rfl, rfl, rfl⟩ := he
  rw [hu] at hr
  have hr : R G _ _ := hr
  cases hc : a.eval x <;> rw [hc] at hr <;> cases hr
  exact go _ hc hu.symm rfl rfl
 | elt id i off =>
  simp only [evalK, hu, Option.some.injEq, Prod.mk.injEq] at he
  obtain ⟨rfl, rfl, rfl⟩ := he
  rw [hu] at hr
  have hr : R G _ _ := hr
  cases hc : a.eval x <;> rw [hc] at hr <;> cases hr
  exact go _ hc hu.symm rfl rfl
 | imm cs off =>
  simp only [evalK, hu, Option.some.injEq, Prod.mk.injEq] at he
  obtain ⟨rfl, rfl, rfl⟩ := he
  rw [hu] at hr
  have hr : R G _ _ := hr
  cases hc : a.eval x <;> rw [hc] at hr <;> cases hr
  exact go _ hc hu.symm rfl rfl
 | fn f u v' =>
  simp only [evalK, hu, Option.some.injEq, Prod.mk.injEq] at he
  obtain ⟨rfl, rfl, rfl⟩ := he
  have hr2 := hr
  rw [hu] at hr
  have hr : R G _ _ := hr
  cases hc : a.eval x <;> rw [hc] at hr <;> cases hr
  refine ⟨a.eval x, w, .inl (by simp [execOp, ho, hc]), ?_⟩
  rw [hu] at hr2
  exact hs.out hr2
 | _ => simp [evalK, hu] at he

theorem shift_run {op : BinOp} {k yk : IntKind} {x y : Int} {v : V} (hop : op = .shl ∨ op = .shr) (h : shiftV op k x y = some v) (w : World) :
  ∃ cv, (Op.shift op k x yk y).run P w = .ok cv w ∧ ∀ G : Ghost, R G v cv := by
 unfold shiftV at h
 split at h
 ·cases h
 ·rename_i hy
  rcases hop with rfl | rfl
  ·injection h with h; subst h
   exact ⟨_, by simp [Op.shift, hy], fun G => .int _ _⟩
  ·injection h with h; subst h
   exact ⟨_, by simp [Op.shift, hy], fun G => .int _ _⟩
theorem intBin_run {op : BinOp} {k : IntKind} {x y : Int} {v : V} (h : intBin op k x y = some v) (t : TypeId) (w : World) :
  ∃ cv, (binOp op t (.int k x) (.int k y)).run P w = .ok cv w ∧ ∀ G : Ghost, R G v cv := by
 cases op <;> simp only [intBin] at h
 case quo =>
  split at h
  ·cases h
  ·rename_i hy
   injection h with h; subst h
   exact ⟨_, by simp [binOp, Op.intDiv, hy], fun G => .int _ _⟩
 case rem =>
  split at h
  ·cases h
  ·rename_i hy
   injection h with h; subst h
   exact ⟨_, by simp [binOp, Op.intDiv, hy], fun G => .int _ _⟩
 case eql => injection h with h; subst h; exact ⟨.bool (x == y), by simp [binOp, Op.intCmp], fun G => by rw [show (x == y) = decide (x = y) from by rw [Bool.eq_iff_iff]; simp]; exact .bool _⟩
 case neq => injection h with h; subst h; exact ⟨.bool (x != y), by simp [binOp, Op.intCmp], fun G => by rw [show (x != y) = !decide (x = y) from by rw [Bool.eq_iff_iff]; simp]; exact .bool _⟩
 case and => injection h with h; subst h; exact ⟨_, by rw [binOp_and]; rfl, fun G => .int _ _⟩
 case or => injection h with h; subst h; exact ⟨_, by rw [binOp_or]; rfl, fun G => .int _ _⟩
 case xor => injection h with h; subst h; exact ⟨_, by rw [binOp_xor]; rfl, fun G => .int _ _⟩
 all_goals first
  | cases h; done
  | (injection h with h; subst h; first
    | exact ⟨_, by simp [binOp, Op.intArith], fun G => .int _ _⟩
    | exact ⟨_, by simp [binOp, Op.intBits], fun G => .int _ _⟩
    | exact ⟨_, by simp [binOp, Op.intCmp], fun G => .bool _⟩)
theorem eqGuard_int (op : BinOp) (t : TypeId) (x y : Operand) (k : IntKind) (n : Int) (u : Value) : eqGuard op t x y (.int k n) u = pure () := by
 cases op <;> rfl
theorem binV_run {op : BinOp} {x y v : V} (h : binV op x y = some v) {cx cy : Value} {G : Ghost} {lam : Lam} (hx : RT G lam x cx) (hy : RT G lam y cy) (t : TypeId) (ox oy : Operand) (w : World) :
  ∃ cv, ((do eqGuard op t ox oy cx cy; binOp op t cx cy) : Sem Value).run P w = .ok cv w ∧ RT G lam v cv := by
 unfold binV at h
 split at h
 ·rename_i k a k' b
  have e1 := hx.int_
  have e2 := hy.int_
  subst e1 e2
  split at h
  ·obtain ⟨cv, h1, h2⟩ := shift_run (P := P) (yk := k') (.inl rfl) h w
   exact ⟨cv, by simp [eqGuard_int, binOp, h1], RT.to (h2 G)⟩
  ·obtain ⟨cv, h1, h2⟩ := shift_run (P := P) (yk := k') (.inr rfl) h w
   exact ⟨cv, by simp [eqGuard_int, binOp, h1], RT.to (h2 G)⟩
  ·split at h
   ·rename_i hk
    subst hk
    obtain ⟨cv, h1, h2⟩ := intBin_run (P := P) h t w
    exact ⟨cv, by simp [eqGuard_int, h1], RT.to (h2 G)⟩
   ·cases h
 ·cases h
theorem ok_bin {op : BinOp} {t u : TypeId} {x y : Operand} {x' y' : Opd} (ho : o.op = .binOp op t x y u) (hx : okOpd x x' = true) (hy : okOpd y y' = true) : OpOK P o (.bin op x' y') := by
 intro F w0 N G lam s a w hs call v loc h he
 simp only [evalK] at he
 split at he
 ·rename_i v' hv
  simp only [Option.some.injEq, Prod.mk.injEq] at he
  obtain ⟨rfl, rfl, rfl⟩ := he
  obtain ⟨cv, h1, h2⟩ := binV_run (P := P) hv (hs.ev hx) (hs.ev hy) t x y w
  refine ⟨cv, w, .inl ?_, hs.out h2⟩
  simp only [execOp, ho]
  simp only [Sem.run_bind] at h1 ⊢
  rw [h1]
  rfl
 ·cases he
theorem ok_un {op : UnOp} {t : TypeId} {x : Operand} {x' : Opd} (ho : o.op = .unOp op t x) (hx : okOpd x x' = true) : OpOK P o (.un op x') := by
 intro F w0 N G lam s a w hs call v loc h he
 have hr := hs.ev hx
 simp only [evalK] at he
 split at he
 ·rename_i v' hv
  simp only [Option.some.injEq, Prod.mk.injEq] at he
  obtain ⟨rfl, rfl, rfl⟩ := he
  unfold unV at hv
  split at hv
  ·rename_i b hb
   injection hv with hv; subst hv
   rw [hb] at hr
   have e := hr.bool_
   exact ⟨.bool !b, w, .inl (by simp [execOp, ho, e, Op.unary]), hs.out (RT.to (.bool _))⟩
  ·rename_i k n hb
   injection hv with hv; subst hv
   rw [hb] at hr
   have e := hr.int_
   exact ⟨.int k (k.wrap (0 - n)), w, .inl (by simp [execOp, ho, e, Op.unary, Op.intArith]), hs.out (RT.to (.int _ _))⟩
  ·cases hv
 ·cases he
theorem ok_conv {src dst : TypeId} {x : Operand} {x' : Opd} {k : IntKind} (ho : o.op = .convert src dst x) (hx : okOpd x x' = true) (hsrc : (P.underlying src).isSome = true) (hd : P.underlying dst = some (.int k)) :
  OpOK P o (.conv k x') := by
 intro F w0 N G lam s a w hs call v loc h he
 have hr := hs.ev hx
 simp only [evalK] at he
 split at he
 ·rename_i k' n hn
  simp only [Option.some.injEq, Prod.mk.injEq] at he
  obtain ⟨rfl, rfl, rfl⟩ := he
  rw [hn] at hr
  have e := hr.int_
  obtain ⟨d, hd'⟩ := Option.isSome_iff_exists.mp hsrc
  refine ⟨.int k (k.wrap n), w, .inl ?_, hs.out (RT.to (.int _ _))⟩
  simp [execOp, ho, e, convert, run_underlying hd', run_underlying hd, Conv.intToInt]
 ·cases he
theorem ok_ext {x : Operand} {x' : Opd} {i : Nat} (ho : o.op = .extract x i) (hx : okOpd x x' = true) : OpOK P o (.ext x' i) := by
 intro F w0 N G lam s a w hs call v loc h he
 have hr := hs.ev hx
 simp only [evalK] at he
 split at he
 ·rename_i l hl
  split at he
  ·rename_i u hu
   simp only [Option.some.injEq, Prod.mk.injEq] at he
   obtain ⟨rfl, rfl, rfl⟩ := he
   rw [hl] at hr
   have hr : R G _ _ := hr
   cases hc : a.eval x <;> rw [hc] at hr <;> cases hr
   rename_i cs hsz hR
   have hi : i < cs.size := by rw [← hsz]; exact (List.getElem?_eq_some_iff.1 hu).1
   refine ⟨cs.getD i undef, w, .inl ?_, hs.out (RT.to (hR i _ hu))⟩
   simp [execOp, ho, hc, Instr.extract, hi]
  ·cases he
 ·cases he

end
end Go.LS
