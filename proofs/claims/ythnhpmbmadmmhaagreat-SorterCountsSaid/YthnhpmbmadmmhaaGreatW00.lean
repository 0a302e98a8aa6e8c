/- Part 1 of this claim: an abstract interpreter over the model, its soundness, and what is run in it. -/
import Derived.Calls
import Derived.Defers
set_option maxRecDepth 20000
set_option linter.unusedSimpArgs false
set_option linter.unusedVariables false
/- An abstract interpreter over the model's own code: the values, the heap, the operations, the run. Plain definitions; nothing is claimed here. -/
namespace Wab
open Go

/-- Abstract values. -/
inductive AVal where
  | dead
  | bool (b : Bool)
  | int (k : IntKind) (n : Int)
  | str (s : List Nat)
  | nilp
  | ptr (id ver off : Nat)
  | gptr (g off : Nat)
  | loc (d off : Nat)
  | iptr (x : List AVal) (off : Nat)
  | nils
  | imm (e : Nat) (xs : List (List AVal)) (ex : Bool)
  | sl (id ver off len : Nat) (cap : Option Nat) (esz : Nat)
  | nilm
  | mp (id : Nat)
  | func (fn : Fn) (first cap : List AVal)
  | nilf
  | iface (t : Nat) (v : AVal)
  | nili
  | agg (cs : List AVal)
  | tup (vs : List AVal)
  deriving Inhabited

def AVal.cells : AVal → List AVal
  | .agg cs => cs
  | v => [v]

/-- What one cell can hold. -/
def one : AVal → Bool
  | .agg _ | .tup _ | .dead | .loc _ _ => false
  | _ => true
/-- Nothing in it leans on a block of the abstract heap's (a list's parts are so of themselves). -/
def pureC : AVal → Bool
  | .bool _ | .int _ _ | .str _ | .nilp | .gptr _ _ | .nils | .imm _ _ _ | .nilm | .nilf | .nili | .iptr _ _ => true
  | .func _ [] [] => true
  | .iface _ x => pureC x
  | _ => false
/-- What a variable can hold. -/
def oneV : AVal → Bool
  | .tup _ | .dead | .loc _ _ => false
  | _ => true

/-- A tree of numbers. -/
inductive Tr (α : Type) where
  | lf
  | nd (v : Option α) (l r : Tr α)

def Tr.get {α : Type} : Tr α → Nat → Option α
  | .lf, _ => none
  | .nd v l r, k => cond (Nat.beq k 0) v (cond (Nat.beq (k % 2) 1) (l.get (k / 2)) (r.get (k / 2 - 1)))

def Tr.ins {α : Type} : Nat → Tr α → Nat → Option α → Tr α
  | 0, t, _, _ => t
  | f + 1, .lf, k, x => cond (Nat.beq k 0) (.nd x .lf .lf) (cond (Nat.beq (k % 2) 1) (.nd none (ins f .lf (k / 2) x) .lf) (.nd none .lf (ins f .lf (k / 2 - 1) x)))
  | f + 1, .nd v l r, k, x => cond (Nat.beq k 0) (.nd x l r) (cond (Nat.beq (k % 2) 1) (.nd v (ins f l (k / 2) x) r) (.nd v l (ins f r (k / 2 - 1) x)))

def Tr.set {α : Type} (t : Tr α) (k : Nat) (x : Option α) : Tr α := t.ins (k + 1) k x

inductive ABlock where
  | cells (ver : Nat) (ty : Nat) (cs : List AVal) (fz : Nat) (sx : Bool)
  | amap (es : List (AVal × AVal × Nat)) (clock : Nat)
  | siter (s : List Nat) (pos : Nat)
  deriving Inhabited

structure AHeap where
  next : Nat
  lock : Nat
  m : Tr ABlock

structure Box where
  cells : List AVal
  der : List Nat
  ty : Nat

structure St where
  t : Tr AVal
  l : Tr Box
  h : AHeap
  d : List (AVal × List AVal)

inductive AOpd where
  | tmp (t : Nat)
  | const (v : AVal)
  | glob (g : Nat)
  | fn (f : Nat)

/-- A type all of whose parts are booleans, integers or strings: of a struct each field's place, size, whether it is of several cells. -/
inductive FT where
  | bool | int | str
  | st (fs : List (Nat × Nat × Bool × FT))
  | ar (len e : Nat) (agg : Bool) (ft : FT)

/-- What kind of equality. -/
inductive EqK where
  | bool | flat (ft : FT) | iface | ptr | slice | map | func | other

inductive AOp where
  | mv (x : AOpd)
  | pick (c a b : AOpd)
  | allocL (zero : List AVal) (der : List Nat) (d : Nat) (ty : Nat)
  | allocH (ty : Nat) (zero : List AVal)
  | boxL (x : AOpd) (der : List Nat) (d : Nat) (ty : Nat)
  | boxH (ty : Nat) (x : AOpd)
  | build (zero : List AVal) (parts : List (Nat × Nat × AOpd))
  | buildSlice (ty esz len : Nat) (zero : List AVal) (parts : List (Nat × Nat × AOpd))
  | buildImm (esz len : Nat) (zero : List AVal) (parts : List (Nat × Nat × AOpd))
  | load (agg : Bool) (n : Nat) (a : AOpd)
  | store (n : Nat) (a v : AOpd)
  | nilCheck (x : AOpd)
  | bin (op : BinOp) (k : EqK) (x y : AOpd)
  | un (op : UnOp) (x : AOpd)
  | convInt (k : IntKind) (x : AOpd)
  | convStr (x : AOpd)
  | convBytes (ty : Nat) (x : AOpd)
  | convUP (x : AOpd)
  | convPU (ty : Nat) (n : Nat) (x : AOpd)
  | mkIface (t : Nat) (x : AOpd)
  | mkFunc (fn : Fn) (first cap : List AOpd)
  | mkMap
  | mkSlice (ty esz bytes : Nat) (zero : List AVal) (len cap : AOpd)
  | sliceStr (x : AOpd) (lo hi : Option AOpd)
  | sliceSl (esz : Nat) (x : AOpd) (lo hi mx : Option AOpd)
  | sliceArr (n esz : Nat) (x : AOpd) (lo hi mx : Option AOpd)
  | fieldAddr (off : Nat) (x : AOpd) (d : Nat)
  | field (agg : Bool) (off n : Nat) (x : AOpd)
  | indexAddrArr (len esz : Nat) (x i : AOpd) (d : Nat)
  | indexAddrSl (esz : Nat) (x i : AOpd)
  | indexStr (x i : AOpd)
  | indexArr (agg : Bool) (len esz : Nat) (x i : AOpd)
  | lookup (kt : FT) (zero : AVal) (x k : AOpd) (ok : Bool)
  | mapUpd (kt : FT) (m k v : AOpd)
  | mapEntry (kt : FT) (zero : AVal) (m k : AOpd)
  | entryStore (m s v : AOpd)
  | rangeStr (x : AOpd)
  | nextStr (it : AOpd)
  | assertC (t : Nat) (zero : AVal) (x : AOpd) (ok : Bool)
  | extract (x : AOpd) (i : Nat)
  | call (pu : Bool) (f : AOpd) (args : List AOpd)
  | clear (zero : List AVal) (esz : Nat) (x : AOpd)
  | arrPtr (n esz : Nat) (x : AOpd)
  | append (ty esz bytes : Nat) (s x : AOpd)
  | appendZ (ty esz bytes : Nat) (zero : List AVal) (s x : AOpd)
  | copy (esz : Nat) (d x : AOpd)
  | len (k : Nat) (x : AOpd)
  | cap (x : AOpd)
  | lenC (n : Nat)
  | mx (xs : List AOpd)
  | mn (xs : List AOpd)
  | usd (x : AOpd)
  | ustr (ty : Nat) (p n : AOpd)
  | defer (f : AOpd) (args : List AOpd)

structure AOper where
  dst : Option Nat
  op : AOp
  guard : Option (Nat × Bool)

inductive ACode where
  | skip
  | region (ops : List AOper)
  | regionD (b : List Nat) (ops : List AOper)
  | seq (a b : ACode)
  | cond (c : AOpd) (x y : ACode)
  | block (id : Nat) (b : ACode)
  | loop (b : ACode)
  | exit (id : Nat)
  | ret
  | bad
  | promote (ds : List Nat)

inductive ARes where
  | tmp (t : Nat)
  | cell (t : Nat) (agg : Bool) (n : Nat)

structure AFunc where
  pure : Bool
  code : ACode
  res : List ARes
  ext : Nat

abbrev Oracle := Nat → List AVal → AHeap → Option (AVal × AHeap)

def noRes : AVal := .tup []

def evalO (t : Tr AVal) : AOpd → AVal
  | .tmp k => (t.get k).getD noRes
  | .const v => v
  | .glob g => .gptr g 0
  | .fn f => .func (.func f) [] []

def nl : AVal → Option AVal
  | .loc _ _ => none
  | v => some v

def nlO (t : Tr AVal) (x : AOpd) : Option AVal := nl (evalO t x)

def nlAll (t : Tr AVal) : List AOpd → Option (List AVal)
  | [] => some []
  | x :: xs => match nlO t x, nlAll t xs with
    | some v, some vs => some (v :: vs)
    | _, _ => none

/-- Write a list into a list at a place; none if it does not fit. -/
def putAt (cs : List AVal) (off : Nat) (vs : List AVal) : Option (List AVal) :=
  cond (Nat.ble (off + vs.length) cs.length) (some (cs.take off ++ vs ++ cs.drop (off + vs.length))) none

/-- A piece of a list; none if it is not there. -/
def getAt (cs : List AVal) (off n : Nat) : Option (List AVal) :=
  cond (Nat.ble (off + n) cs.length) (some ((cs.drop off).take n)) none

def wrapI (k : IntKind) (n : Int) : Int := k.wrap n

/-- Equality of one cell. -/
def primEq : AVal → AVal → Option Bool
  | .bool a, .bool b => some (a == b)
  | .int j a, .int k b => cond (decide (j = k)) (some (decide (a = b))) none
  | .str a, .str b => some (a == b)
  | _, _ => none

def primEqs : List AVal → List AVal → Option Bool
  | [], [] => some true
  | a :: as, b :: bs => match primEq a b with
    | some true => primEqs as bs
    | some false => some false
    | none => none
  | _, _ => none

def valEq : AVal → AVal → Option Bool
  | .agg a, .agg b => primEqs a b
  | a, b => primEq a b

def bytesLt : List Nat → List Nat → Bool
  | _, [] => false
  | [], _ :: _ => true
  | a :: x, b :: y => Nat.blt a b || (Nat.beq a b && bytesLt x y)

def ofCells (agg : Bool) : List AVal → Option AVal
  | cs => cond agg (some (.agg cs)) (match cs with | [v] => some v | _ => none)

def partA (agg : Bool) (cs : List AVal) (off n : Nat) : Option AVal := (getAt cs off n).bind (ofCells agg)

def eqFs (g : FT → AVal → AVal → Option Bool) (xs ys : List AVal) : List (Nat × Nat × Bool × FT) → Option Bool
  | [] => some true
  | (off, n, ag, ft) :: r => match partA ag xs off n, partA ag ys off n with
    | some a, some b => match g ft a b with
      | some true => eqFs g xs ys r
      | c => c
    | _, _ => none

def eqAr (g : AVal → AVal → Option Bool) (e : Nat) (ag : Bool) (xs ys : List AVal) : Nat → Nat → Option Bool
  | 0, _ => some true
  | k + 1, i => match partA ag xs (i * e) e, partA ag ys (i * e) e with
    | some a, some b => match g a b with
      | some true => eqAr g e ag xs ys k (i + 1)
      | c => c
    | _, _ => none

def eqT : Nat → FT → AVal → AVal → Option Bool
  | 0, _, _, _ => none
  | n + 1, ft, x, y => match ft, x, y with
    | .bool, .bool a, .bool b => some (a == b)
    | .int, .int j a, .int k b => cond (decide (j = k)) (some (decide (a = b))) none
    | .str, .str a, .str b => some (a == b)
    | .st fs, .agg xs, .agg ys => eqFs (eqT n) xs ys fs
    | .ar len e ag f, .agg xs, .agg ys => eqAr (eqT n f) e ag xs ys len 0
    | _, _, _ => none

/-- Is a value of a kind nil? -/
def nilOf (L : Nat → Nat → Bool) : EqK → AVal → Option Bool
  | .ptr, x => match x with
    | .nilp => some true
    | .ptr i u _ => cond (L i u) (some false) none
    | .gptr _ _ | .iptr _ _ => some false
    | _ => none
  | .slice, x => match x with
    | .nils => some true
    | .imm _ _ _ => some false
    | .sl i u _ _ _ _ => cond (L i u) (some false) none
    | _ => none
  | .map, x => match x with
    | .nilm => some true
    | .mp _ => some false
    | _ => none
  | .func, x => match x with
    | .nilf => some true
    | .func _ _ _ => some false
    | _ => none
  | .iface, x => match x with
    | .nili => some true
    | .iface _ _ => some false
    | _ => none
  | _, _ => none

def nilEq2 : Option Bool → Option Bool → Option Bool
  | some true, some b => some b
  | some false, some true => some false
  | _, _ => none

def boolEq : AVal → AVal → Option Bool
  | .bool a, .bool b => some (a == b)
  | _, _ => none

def flatEq (ft : FT) : AVal → AVal → Option Bool
  | .agg xs, .agg ys => eqT 8 ft (.agg xs) (.agg ys)
  | _, _ => none

def ptrEq (L : Nat → Nat → Bool) (x y : AVal) : Option Bool :=
  match x, y with
  | .ptr i u o, .ptr j v q => cond (Nat.beq i j && Nat.beq u v && L i u) (some (Nat.beq o q)) none
  | x, y => nilEq2 (nilOf L .ptr x) (nilOf L .ptr y)

/-- Equality by kinds; L: is a block there? -/
def eqLive (L : Nat → Nat → Bool) (k : EqK) (x y : AVal) : Option Bool :=
  match k with
  | .bool => boolEq x y
  | .flat ft => flatEq ft x y
  | .ptr => ptrEq L x y
  | .other => none
  | k => nilEq2 (nilOf L k x) (nilOf L k y)

def intBin (op : BinOp) (k : IntKind) (a b : Int) : Option AVal :=
  match op with
  | .add => some (.int k (wrapI k (a + b)))
  | .sub => some (.int k (wrapI k (a - b)))
  | .mul => some (.int k (wrapI k (a * b)))
  | .quo => cond (decide (b = 0)) none (some (.int k (wrapI k (a.tdiv b))))
  | .rem => cond (decide (b = 0)) none (some (.int k (a.tmod b)))
  | .and => some (.int k (wrapI k (BitVec.ofInt k.bits a &&& BitVec.ofInt k.bits b).toNat))
  | .or => some (.int k (wrapI k (BitVec.ofInt k.bits a ||| BitVec.ofInt k.bits b).toNat))
  | .xor => some (.int k (wrapI k (BitVec.ofInt k.bits a ^^^ BitVec.ofInt k.bits b).toNat))
  | .andNot => some (.int k (wrapI k (BitVec.ofInt k.bits a &&& ~~~(BitVec.ofInt k.bits b)).toNat))
  | .lss => some (.bool (decide (a < b)))
  | .leq => some (.bool (decide (a ≤ b)))
  | .gtr => some (.bool (decide (a > b)))
  | .geq => some (.bool (decide (a ≥ b)))
  | .eql => some (.bool (a == b))
  | .neq => some (.bool (a != b))
  | _ => none

def shiftA (op : BinOp) (k : IntKind) (a b : Int) : Option AVal :=
  cond (decide (b < 0)) none (match op with
    | .shl => some (.int k (wrapI k (a * 2 ^ (min b.toNat k.bits))))
    | .shr => some (.int k (a.fdiv (2 ^ (min b.toNat k.bits))))
    | _ => none)

def strBin (op : BinOp) (a b : List Nat) : Option AVal :=
  match op with
  | .add => cond (Nat.ble (a.length + b.length) 9223372036854775807) (some (.str (a ++ b))) none
  | .eql => some (.bool (a == b))
  | .neq => some (.bool (!(a == b)))
  | .lss => some (.bool (bytesLt a b))
  | .leq => some (.bool (bytesLt a b || a == b))
  | .gtr => some (.bool (!(bytesLt a b || a == b)))
  | .geq => some (.bool (!(bytesLt a b)))
  | _ => none

def binA (h : Nat → Nat → Bool) (op : BinOp) (k : EqK) (x y : AVal) : Option AVal :=
  match op, x, y with
  | .shl, .int j a, .int _ b => shiftA .shl j a b
  | .shr, .int j a, .int _ b => shiftA .shr j a b
  | op, .int j a, .int l b => cond (decide (j = l)) (intBin op j a b) none
  | op, .str a, .str b => strBin op a b
  | .eql, x, y => (eqLive h k x y).map .bool
  | .neq, x, y => (eqLive h k x y).map fun b => .bool (!b)
  | _, _, _ => none

def unA (op : UnOp) (x : AVal) : Option AVal :=
  match op, x with
  | .neg, .int k n => some (.int k (wrapI k (0 - n)))
  | .xor, .int k n => intBin .xor k (if k.signed then -1 else k.max) n
  | .not, .bool b => some (.bool (!b))
  | _, _ => none

def AHeap.cells? (h : AHeap) (id ver : Nat) : Option (Nat × List AVal × Nat × Bool) :=
  match h.m.get id with
  | some (.cells v ty cs fz sx) => cond (Nat.beq v ver) (some (ty, cs, fz, sx)) none
  | _ => none

def AHeap.put (h : AHeap) (id : Nat) (b : ABlock) : AHeap := { h with m := h.m.set id (some b) }

def AHeap.push (h : AHeap) (b : ABlock) : AHeap := { next := h.next + 1, lock := h.lock, m := h.m.set h.next (some b) }

/-- Read a variable. -/
def readA (s : St) (agg : Bool) (n : Nat) (a : AVal) : Option AVal :=
  match a with
  | .loc d off => match s.l.get d with
    | some b => (getAt b.cells off n).bind (ofCells agg)
    | none => none
  | .ptr id ver off => match s.h.cells? id ver with
    | some (_, cs, _, _) => (getAt cs off n).bind (ofCells agg)
    | none => none
  | .iptr x off => (getAt x off n).bind (ofCells agg)
  | _ => none

/-- Write a variable. -/
def writeA (s : St) (n : Nat) (a v : AVal) : Option St :=
  cond (Nat.beq v.cells.length n && oneV v) (match a with
    | .loc d off => match s.l.get d with
      | some b => (putAt b.cells off v.cells).map fun cs => { s with l := s.l.set d (some { b with cells := cs }) }
      | none => none
    | .ptr id ver off => cond (Nat.ble s.h.lock id) (match s.h.m.get id with
      | some (.cells v' ty cs fz sx) => cond (Nat.beq v' ver && Nat.ble fz off) ((putAt cs off v.cells).map fun cs => { s with h := s.h.put id (.cells v' ty cs fz sx) }) none
      | _ => none) none
    | _ => none) none

def clearT : List Nat → Tr AVal → Tr AVal
  | [], t => t
  | k :: ks, t => clearT ks (t.set k (some .dead))

def oldDer (l : Tr Box) (d : Nat) : List Nat := match l.get d with
  | some b => b.der
  | none => []

/-- A new box of the frame's own at a slot. -/
def newLoc (s : St) (d : Nat) (der : List Nat) (ty : Nat) (cells : List AVal) : St :=
  { s with t := clearT (d :: oldDer s.l d) s.t, l := s.l.set d (some { cells, der, ty }) }

def fillP (t : Tr AVal) : List (Nat × Nat × AOpd) → List AVal → Option (List AVal)
  | [], cs => some cs
  | (off, n, x) :: ps, cs => match nlO t x with
    | some v => cond (Nat.beq v.cells.length n && oneV v) (match putAt cs off v.cells with
      | some cs' => fillP t ps cs'
      | none => none) none
    | none => none

def natOf : AVal → Option Nat
  | .int _ n => match n with
    | .ofNat k => some k
    | .negSucc _ => none
  | _ => none

/-- The cells of what is appended or copied, and how many elements they are. -/
def srcCells (h : AHeap) (esz : Nat) (x : AVal) : Option (List AVal × Nat) :=
  match x with
  | .nils => some ([], 0)
  | .imm e xs _ => cond (Nat.beq e esz) (some (xs.flatten, xs.length)) none
  | .sl id ver off len _ e => cond (Nat.beq e esz) (match h.cells? id ver with
    | some (_, cs, _, _) => (getAt cs off (len * esz)).map fun c => (c, len)
    | none => none) none
  | .str s => cond (Nat.beq esz 1) (some (s.map fun (b : Nat) => AVal.int .u8 (Int.ofNat b), s.length)) none
  | _ => none

def appendC (h : AHeap) (ty esz bytes : Nat) (s : AVal) (src : Option (List AVal × Nat)) : Option (AVal × AHeap) :=
  match src with
  | none => none
  | some (new, n) =>
    cond (Nat.beq n 0) (match s with
      | .nils | .imm _ _ _ | .sl _ _ _ _ _ _ => some (s, h)
      | _ => none) (
    match s with
    | .nils => cond (Nat.ble (n * bytes) 140737488355328) (some (.sl h.next 0 0 n none esz, h.push (.cells 0 ty new 0 false))) none
    | .imm e xs true => cond (Nat.beq e esz && Nat.ble ((xs.length + n) * bytes) 140737488355328) (some (.sl h.next 0 0 (xs.length + n) none esz, h.push (.cells 0 ty (xs.flatten ++ new) 0 false))) none
    | .sl id ver off len cap e =>
      cond (Nat.beq e esz && Nat.ble ((len + n) * bytes) 140737488355328) (
      match h.m.get id with
      | some (.cells v ty' cs fz sx) => cond (Nat.beq v ver) (
        match cap with
        | some c => cond (Nat.ble (len + n) c)
            (cond (Nat.ble h.lock id && Nat.ble fz (off + len * esz)) ((putAt cs (off + len * esz) new).map fun cs' => (.sl id ver off (len + n) cap e, h.put id (.cells v ty' cs' fz sx))) none)
            ((getAt cs off (len * esz)).map fun old => (.sl h.next 0 0 (len + n) none esz, h.push (.cells 0 ty (old ++ new) 0 false)))
        | none => cond (Nat.ble h.lock id && Nat.ble fz (off + len * esz)) (
            cond (Nat.ble (off + (len + n) * esz) cs.length)
              ((putAt cs (off + len * esz) new).map fun cs' => (.sl id ver off (len + n) none e, h.put id (.cells v ty' cs' fz sx)))
              (cond (Nat.beq ty ty') ((getAt cs off (len * esz)).map fun old => (.sl id (v + 1) 0 (len + n) none e, h.put id (.cells (v + 1) ty' (old ++ new) (fz - off) sx))) none)) none) none
      | _ => none) none
    | _ => none)

def copyA (h : AHeap) (esz : Nat) (d x : AVal) : Option (AVal × AHeap) :=
  match srcCells h esz x with
  | none => none
  | some (src, n) => match d with
    | .nils => some (.int .i64 0, h)
    | .sl id ver off len _ e => cond (Nat.beq e esz && Nat.ble h.lock id) (match h.m.get id with
      | some (.cells v ty cs fz sx) => cond (Nat.beq v ver && Nat.ble fz off) ((putAt cs off (src.take (min n len * esz))).map fun cs' => (.int .i64 (Int.ofNat (min n len)), h.put id (.cells v ty cs' fz sx))) none
      | _ => none) none
    | _ => none

/-- The bounds of a slice expression: low, high, max. -/
def boundsA (t : Tr AVal) (len cap : Nat) (lo hi mx : Option AOpd) : Option (Nat × Nat × Nat) :=
  match (match mx with
    | some m => natOf (evalO t m)
    | none => some cap) with
  | none => none
  | some m => match (match hi, mx with
      | some h, _ => natOf (evalO t h)
      | none, none => some len
      | none, some _ => none) with
    | none => none
    | some h => match (match lo with
        | some l => natOf (evalO t l)
        | none => some 0) with
      | none => none
      | some l => cond (Nat.ble m cap && Nat.ble h m && Nat.ble l h) (some (l, h, m)) none

def sliceSlA (esz : Nat) (x : AVal) (t : Tr AVal) (lo hi mx : Option AOpd) : Option AVal :=
  match x with
  | .nils => match boundsA t 0 0 lo hi mx with
    | some _ => some .nils
    | none => none
  | .imm e xs ex => match boundsA t xs.length xs.length lo hi mx with
    | some (l, h, m) => cond (Nat.beq e esz) (some (.imm e ((xs.take h).drop l) (match mx with
      | some _ => Nat.beq m h
      | none => ex && Nat.beq h xs.length))) none
    | none => none
  | .sl id ver off len cap e => match boundsA t len (cap.getD len) lo hi mx with
    | some (l, h, m) => cond (Nat.beq e esz) (match cap, mx with
      | none, none => cond (Nat.beq h l && Nat.blt 0 l) (some (.imm e [] false)) (some (.sl id ver (off + l * e) (h - l) none e))
      | _, _ => some (.sl id ver (cond (Nat.beq m l) off (off + l * e)) (h - l) (some (m - l)) e)) none
    | none => none
  | _ => none

def sliceArrA (n esz : Nat) (x : AVal) (hp : AHeap) (t : Tr AVal) (lo hi mx : Option AOpd) : Option AVal :=
  match x with
  | .ptr id ver off => match boundsA t n n lo hi mx with
    | some (l, h, m) => match hp.cells? id ver with
     | some (_, cs, _, _) => cond (Nat.blt 0 esz && Nat.ble (off + n * esz) cs.length) (some (.sl id ver (cond (Nat.beq m l) off (off + l * esz)) (h - l) (some (m - l)) esz)) none
     | none => none
    | none => none
  | _ => none

def findA (kt : FT) (k : AVal) : List (AVal × AVal × Nat) → Nat → Option (Option (Nat × AVal × Nat))
  | [], _ => some none
  | (k', v, b) :: es, i => match eqT 8 kt k k' with
    | some true => cond ((valEq k k').getD false) (some (some (i, v, b))) none
    | some false => findA kt k es (i + 1)
    | none => none

def mapOf (h : AHeap) (id : Nat) : Option (List (AVal × AVal × Nat) × Nat) :=
  match h.m.get id with
  | some (.amap es c) => some (es, c)
  | _ => none

/-- The rune that begins at a place, and its bytes. -/
def decodeA (s : List Nat) (i : Nat) : Nat × Nat :=
  let b0 := s.getD i 0
  let at' (k : Nat) : Nat := s.getD (i + k) 0
  let cont (k : Nat) : Bool := Nat.blt (i + k) s.length && Nat.beq (at' k / 64) 2
  let valid (c : Nat) : Bool := Nat.blt c 0xD800 || (Nat.ble 0xE000 c && Nat.ble c 0x10FFFF)
  cond (Nat.blt b0 0x80) (b0, 1)
    (cond (Nat.beq (b0 / 32) 6 && cont 1)
      (cond (Nat.ble 0x80 ((b0 % 32) * 64 + at' 1 % 64)) ((b0 % 32) * 64 + at' 1 % 64, 2) (0xFFFD, 1))
      (cond (Nat.beq (b0 / 16) 14 && cont 1 && cont 2)
        (cond (Nat.ble 0x800 ((b0 % 16) * 4096 + (at' 1 % 64) * 64 + at' 2 % 64) && valid ((b0 % 16) * 4096 + (at' 1 % 64) * 64 + at' 2 % 64)) ((b0 % 16) * 4096 + (at' 1 % 64) * 64 + at' 2 % 64, 3) (0xFFFD, 1))
        (cond (Nat.beq (b0 / 8) 30 && cont 1 && cont 2 && cont 3)
          (cond (Nat.ble 0x10000 ((b0 % 8) * 262144 + (at' 1 % 64) * 4096 + (at' 2 % 64) * 64 + at' 3 % 64) && valid ((b0 % 8) * 262144 + (at' 1 % 64) * 4096 + (at' 2 % 64) * 64 + at' 3 % 64))
            ((b0 % 8) * 262144 + (at' 1 % 64) * 4096 + (at' 2 % 64) * 64 + at' 3 % 64, 4) (0xFFFD, 1))
          (0xFFFD, 1))))

def maxA : AVal → AVal → Option AVal
  | .int k x, .int _ y => some (.int k (if y > x then y else x))
  | _, _ => none
def minA : AVal → AVal → Option AVal
  | .int k x, .int _ y => some (.int k (if y < x then y else x))
  | _, _ => none
def foldO (f : AVal → AVal → Option AVal) : AVal → List AVal → Option AVal
  | v, [] => some v
  | v, x :: xs => match f v x with
    | some w => foldO f w xs
    | none => none

def bytesOf : List AVal → Option (List Nat)
  | [] => some []
  | .int .u8 (.ofNat b) :: r => cond (Nat.blt b 256) (match bytesOf r with
    | some l => some (b :: l)
    | none => none) none
  | _ => none

def ok1 (s : St) (v : Option AVal) : Option (AVal × St) := match v with
  | some v => some (v, s)
  | none => none
def okH (s : St) (r : Option (AVal × AHeap)) : Option (AVal × St) := match r with
  | some (v, h) => some (v, { s with h := h })
  | none => none
def okU (r : Option St) : Option (AVal × St) := match r with
  | some s => some (noRes, s)
  | none => none

def callA (C : Oracle) (s : St) (f : AVal) (args : List AVal) : Option (AVal × AHeap) :=
  match f with
  | .func (.func g) first cap => C g (first ++ args ++ cap) s.h
  | _ => none

/-- The length of a string (0), a slice (1), a map (2). -/
def lenA (h : AHeap) (k : Nat) (x : AVal) : Option AVal :=
  match k, x with
  | 0, .str b => some (.int .i64 (Int.ofNat b.length))
  | 1, .nils => some (.int .i64 0)
  | 1, .imm _ xs _ => some (.int .i64 (Int.ofNat xs.length))
  | 1, .sl _ _ _ n _ _ => some (.int .i64 (Int.ofNat n))
  | 2, .nilm => some (.int .i64 0)
  | 2, .mp id => match mapOf h id with
    | some (es, _) => some (.int .i64 (Int.ofNat es.length))
    | none => none
  | _, _ => none

def chunks : Nat → Nat → List AVal → List (List AVal)
  | 0, _, _ => []
  | n + 1, e, l => l.take e :: chunks n e (l.drop e)

def aop (C : Oracle) (s : St) : AOp → Option (AVal × St)
  | .mv x => ok1 s (nlO s.t x)
  | .pick c a b => match evalO s.t c with
    | .bool true => ok1 s (nlO s.t a)
    | .bool false => ok1 s (nlO s.t b)
    | _ => none
  | .allocL zero der d ty => some (.loc d 0, newLoc s d der ty zero)
  | .allocH ty zero => some (.ptr s.h.next 0 0, { s with h := s.h.push (.cells 0 ty zero 0 false) })
  | .boxL x der d ty => match nlO s.t x with
    | some v => cond (oneV v) (some (.loc d 0, newLoc s d der ty v.cells)) none
    | none => none
  | .boxH ty x => match nlO s.t x with
    | some v => cond (oneV v) (some (.ptr s.h.next 0 0, { s with h := s.h.push (.cells 0 ty v.cells 0 false) })) none
    | none => none
  | .build zero parts => match fillP s.t parts zero with
    | some cs => some (.agg cs, s)
    | none => none
  | .buildSlice ty esz len zero parts => match fillP s.t parts zero with
    | some cs => some (.sl s.h.next 0 0 len (some len) esz, { s with h := s.h.push (.cells 0 ty cs 0 false) })
    | none => none
  | .buildImm esz len zero parts => match fillP s.t parts zero with
    | some cs => cond (cs.all pureC) (some (.imm esz (chunks len esz cs) true, s)) none
    | none => none
  | .load agg n a => ok1 s (readA s agg n (evalO s.t a))
  | .store n a v => match nlO s.t v with
    | some x => okU (writeA s n (evalO s.t a) x)
    | none => none
  | .nilCheck x => match nlO s.t x with
    | some (.ptr a b c) => some (.ptr a b c, s)
    | some (.gptr a b) => some (.gptr a b, s)
    | some (.iptr a b) => some (.iptr a b, s)
    | some (.func (.func f) a b) => some (.func (.func f) a b, s)
    | _ => none
  | .bin op k x y => match nlO s.t x, nlO s.t y with
    | some a, some b => ok1 s (binA (fun i u => (s.h.cells? i u).isSome) op k a b)
    | _, _ => none
  | .un op x => ok1 s (unA op (evalO s.t x))
  | .convInt k x => match evalO s.t x with
    | .int _ n => some (.int k (wrapI k n), s)
    | _ => none
  | .convStr x => match evalO s.t x with
    | .str _ => none
    | .nils => some (.str [], s)
    | v => match srcCells s.h 1 v with
      | some (cs, _) => match bytesOf cs with
        | some b => some (.str b, s)
        | none => none
      | none => none
  | .convBytes ty x => match evalO s.t x with
    | .str b => some (.sl s.h.next 0 0 b.length none 1, { s with h := s.h.push (.cells 0 ty (b.map fun (c : Nat) => AVal.int .u8 (Int.ofNat c)) 0 true) })
    | _ => none
  | .convUP x => match evalO s.t x with
    | .nilp => some (.nilp, s)
    | .ptr id ver off => match s.h.cells? id ver with
      | some (_, cs, _, _) => cond (Nat.blt off cs.length) (some (.ptr id ver off, s)) none
      | none => none
    | _ => none
  | .convPU ty n x => match evalO s.t x with
    | .nilp => some (.nilp, s)
    | .ptr id ver 0 => match s.h.cells? id ver with
      | some (ty', cs, _, _) => cond (Nat.beq ty ty' && Nat.beq n cs.length) (some (.ptr id ver 0, s)) none
      | none => none
    | _ => none
  | .mkIface t x => match nlO s.t x with
    | some v => some (.iface t v, s)
    | none => none
  | .mkFunc fn first cap => match nlAll s.t first, nlAll s.t cap with
    | some a, some b => some (.func fn a b, s)
    | _, _ => none
  | .mkMap => some (.mp s.h.next, { s with h := s.h.push (.amap [] 0) })
  | .mkSlice ty esz bytes zero len cap => match natOf (evalO s.t len), natOf (evalO s.t cap) with
    | some l, some c => cond (Nat.ble l c && Nat.ble (c * bytes) 140737488355328 && Nat.ble c 9223372036854775807)
        (some (.sl s.h.next 0 0 l (some c) esz, { s with h := s.h.push (.cells 0 ty (List.replicate c zero).flatten 0 false) })) none
    | _, _ => none
  | .sliceStr x lo hi => match evalO s.t x with
    | .str b => match boundsA s.t b.length b.length lo hi none with
      | some (l, h, _) => some (.str ((b.take h).drop l), s)
      | none => none
    | _ => none
  | .sliceSl esz x lo hi mx => ok1 s (sliceSlA esz (evalO s.t x) s.t lo hi mx)
  | .sliceArr n esz x lo hi mx => ok1 s (sliceArrA n esz (evalO s.t x) s.h s.t lo hi mx)
  | .fieldAddr off x d => match evalO s.t x with
    | .loc b o => match s.l.get b with
      | some bx => cond (bx.der.contains d) (some (.loc b (o + off), s)) none
      | none => none
    | .ptr id ver o => some (.ptr id ver (o + off), s)
    | .gptr g o => some (.gptr g (o + off), s)
    | .iptr c o => some (.iptr c (o + off), s)
    | _ => none
  | .field agg off n x => match evalO s.t x with
    | .agg cs => ok1 s ((getAt cs off n).bind (ofCells agg))
    | _ => none
  | .indexAddrArr len esz x i d => match natOf (evalO s.t i) with
    | some k => cond (Nat.blt k len) (match evalO s.t x with
      | .loc b o => match s.l.get b with
        | some bx => cond (bx.der.contains d) (some (.loc b (o + k * esz), s)) none
        | none => none
      | .ptr id ver o => some (.ptr id ver (o + k * esz), s)
      | .gptr g o => some (.gptr g (o + k * esz), s)
      | .iptr c o => some (.iptr c (o + k * esz), s)
      | _ => none) none
    | none => none
  | .indexAddrSl esz x i => match natOf (evalO s.t i) with
    | some k => match evalO s.t x with
      | .imm e xs _ => match xs[k]? with
        | some c => cond (Nat.beq e esz) (some (.iptr c 0, s)) none
        | none => none
      | .sl id ver off len _ e => cond (Nat.blt k len && Nat.beq e esz) (some (.ptr id ver (off + k * esz), s)) none
      | _ => none
    | none => none
  | .indexStr x i => match natOf (evalO s.t i), evalO s.t x with
    | some k, .str b => match b[k]? with
      | some c => some (.int .u8 (Int.ofNat c), s)
      | none => none
    | _, _ => none
  | .indexArr agg len esz x i => match natOf (evalO s.t i), evalO s.t x with
    | some k, .agg cs => cond (Nat.blt k len) (ok1 s ((getAt cs (k * esz) esz).bind (ofCells agg))) none
    | _, _ => none
  | .lookup kt zero x k ok => match evalO s.t x, nlO s.t k with
    | .nilm, some _ => some (cond ok (.tup [zero, .bool false]) zero, s)
    | .mp id, some key => match mapOf s.h id with
      | some (es, _) => match findA kt key es 0 with
        | some (some (_, v, _)) => some (cond ok (.tup [v, .bool true]) v, s)
        | some none => some (cond ok (.tup [zero, .bool false]) zero, s)
        | none => none
      | none => none
    | _, _ => none
  | .mapUpd kt m k v => match evalO s.t m, nlO s.t k, nlO s.t v with
    | .mp id, some key, some x => cond (Nat.ble s.h.lock id) (match mapOf s.h id with
      | some (es, c) => match findA kt key es 0 with
        | some (some (i, _, b)) => some (noRes, { s with h := s.h.put id (.amap (es.set i (key, x, b)) c) })
        | some none => some (noRes, { s with h := s.h.put id (.amap (es ++ [(key, x, c)]) (c + 1)) })
        | none => none
      | none => none) none
    | _, _, _ => none
  | .mapEntry kt zero m k => match evalO s.t m, nlO s.t k with
    | .mp id, some key => cond (Nat.ble s.h.lock id) (match mapOf s.h id with
      | some (es, c) => match findA kt key es 0 with
        | some (some (i, v, b)) => some (.tup [v, .int .i64 (Int.ofNat b)], { s with h := s.h.put id (.amap (es.set i (key, v, b)) c) })
        | some none => some (.tup [zero, .int .i64 (Int.ofNat c)], { s with h := s.h.put id (.amap (es ++ [(key, zero, c)]) (c + 1)) })
        | none => none
      | none => none) none
    | _, _ => none
  | .entryStore m st v => match evalO s.t m, natOf (evalO s.t st), nlO s.t v with
    | .mp id, some b, some x => cond (Nat.ble s.h.lock id) (match mapOf s.h id with
      | some (es, c) => match es.findIdx? (fun e => Nat.beq e.2.2 b) with
        | some i => match es[i]? with
          | some e => some (noRes, { s with h := s.h.put id (.amap (es.set i (e.1, x, e.2.2)) c) })
          | none => none
        | none => none
      | none => none) none
    | _, _, _ => none
  | .rangeStr x => match evalO s.t x with
    | .str b => some (.ptr s.h.next 0 0, { s with h := s.h.push (.siter b 0) })
    | _ => none
  | .nextStr it => match evalO s.t it with
    | .ptr id _ 0 => cond (Nat.ble s.h.lock id) (match s.h.m.get id with
      | some (.siter b pos) => cond (Nat.blt pos b.length)
          (some (.tup [.bool true, .int .i64 (Int.ofNat pos), .int .i32 (Int.ofNat (decodeA b pos).1)], { s with h := s.h.put id (.siter b (pos + (decodeA b pos).2)) }))
          (some (.tup [.bool false], s))
      | _ => none) none
    | _ => none
  | .assertC t zero x ok => match evalO s.t x with
    | .nili => cond ok (some (.tup [zero, .bool false], s)) none
    | .iface u v => cond (Nat.beq u t) (some (cond ok (.tup [v, .bool true]) v, s)) (cond ok (some (.tup [zero, .bool false], s)) none)
    | _ => none
  | .extract x i => match evalO s.t x with
    | .tup vs => ok1 s (vs[i]?)
    | _ => none
  | .call pu f args => match nlAll s.t args with
    | some vs => match callA C s (evalO s.t f) vs with
      | some (v, h) => some (v, cond pu s { s with h := h })
      | none => none
    | none => none
  | .arrPtr n esz x => match evalO s.t x with
    | .imm e xs _ => cond (Nat.beq e esz && (Nat.ble n xs.length && Nat.blt 0 xs.length)) (some (.iptr xs.flatten 0, s)) none
    | .sl id ver off len _ e => cond (Nat.beq e esz && Nat.ble n len) (some (.ptr id ver off, s)) none
    | _ => none
  | .clear zero esz x => match evalO s.t x with
    | .nils => some (noRes, s)
    | .imm _ [] _ => some (noRes, s)
    | .sl _ _ _ 0 _ _ => some (noRes, s)
    | .sl id ver off len _ e => cond (Nat.beq e esz && Nat.ble s.h.lock id) (match s.h.m.get id with
      | some (.cells v ty cs fz sx) => cond (Nat.beq v ver && Nat.ble fz off) (match putAt cs off (List.replicate len zero).flatten with
        | some cs' => some (noRes, { s with h := s.h.put id (.cells v ty cs' fz sx) })
        | none => none) none
      | _ => none) none
    | _ => none
  | .append ty esz bytes a x => okH s (appendC s.h ty esz bytes (evalO s.t a) (srcCells s.h esz (evalO s.t x)))
  | .appendZ ty esz bytes zero a x => match natOf (evalO s.t x) with
    | some n => cond (Nat.ble (n * bytes) 140737488355328) (okH s (appendC s.h ty esz bytes (evalO s.t a) (some ((List.replicate n zero).flatten, n)))) none
    | none => none
  | .copy esz d x => okH s (copyA s.h esz (evalO s.t d) (evalO s.t x))
  | .len k x => ok1 s (lenA s.h k (evalO s.t x))
  | .cap x => match evalO s.t x with
    | .nils => some (.int .i64 0, s)
    | .imm _ xs true => some (.int .i64 (Int.ofNat xs.length), s)
    | .sl _ _ _ _ (some c) _ => some (.int .i64 (Int.ofNat c), s)
    | _ => none
  | .lenC n => some (.int .i64 (Int.ofNat n), s)
  | .mx xs => match nlAll s.t xs with
    | some (v :: vs) => ok1 s (foldO maxA v vs)
    | _ => none
  | .mn xs => match nlAll s.t xs with
    | some (v :: vs) => ok1 s (foldO minA v vs)
    | _ => none
  | .usd x => match evalO s.t x with
    | .nils => some (.nilp, s)
    | .sl id ver off (_n + 1) _ _ => some (.ptr id ver off, s)
    | _ => none
  | .ustr _ p n => match evalO s.t p, natOf (evalO s.t n) with
    | .nilp, some 0 => some (.str [], s)
    | .ptr _ _ _, some 0 => some (.str [], s)
    | .ptr id ver off, some (n + 1) => cond (Nat.ble s.h.lock id) (match s.h.m.get id with
      | some (.cells v ty cs fz false) => cond (Nat.beq v ver) (match getAt cs off (n + 1) with
        | some c => match bytesOf c with
          | some b => some (.str b, { s with h := s.h.put id (.cells v ty cs (max fz (off + n + 1)) false) })
          | none => none
        | none => none) none
      | _ => none) none
    | _, _ => none
  | .defer f args => match nlO s.t f, nlAll s.t args with
    | some (.func fn x y), some vs => some (noRes, { s with d := (.func fn x y, vs) :: s.d })
    | _, _ => none

def St.put (s : St) (dst : Option Nat) (v : AVal) : St :=
  match dst with
  | some d => { s with t := s.t.set d (some v) }
  | none => s

def guardA (t : Tr AVal) : Option (Nat × Bool) → Option Bool
  | none => some true
  | some (j, b) => match t.get j with
    | some (.bool c) => some (c == b)
    | some (.tup _) => some false
    | none => some false
    | _ => none

def arun (C : Oracle) : List AOper → St → Option St
  | [], s => some s
  | o :: os, s => match guardA s.t o.guard with
    | none => none
    | some false => arun C os (s.put o.dst noRes)
    | some true => match aop C s o.op with
      | none => none
      | some (v, s') => arun C os (s'.put o.dst v)

mutual
def AVal.beq : AVal → AVal → Bool
  | .dead, .dead => true
  | .bool a, .bool b => a == b
  | .int j a, .int k b => decide (j = k) && decide (a = b)
  | .str a, .str b => a == b
  | .nilp, .nilp | .nils, .nils | .nilm, .nilm | .nilf, .nilf | .nili, .nili => true
  | .ptr a b c, .ptr d e f => Nat.beq a d && Nat.beq b e && Nat.beq c f
  | .gptr a b, .gptr c d => Nat.beq a c && Nat.beq b d
  | .loc a b, .loc c d => Nat.beq a c && Nat.beq b d
  | .iptr x a, .iptr y b => AVal.beqs x y && Nat.beq a b
  | .imm a x c, .imm b y d => Nat.beq a b && AVal.beqss x y && c == d
  | .sl a b c d e f, .sl g h i j k l => Nat.beq a g && Nat.beq b h && Nat.beq c i && Nat.beq d j && decide (e = k) && Nat.beq f l
  | .mp a, .mp b => Nat.beq a b
  | .func f a b, .func g c d => decide (f = g) && AVal.beqs a c && AVal.beqs b d
  | .iface t x, .iface u y => Nat.beq t u && AVal.beq x y
  | .agg a, .agg b => AVal.beqs a b
  | .tup a, .tup b => AVal.beqs a b
  | _, _ => false
def AVal.beqs : List AVal → List AVal → Bool
  | [], [] => true
  | x :: xs, y :: ys => AVal.beq x y && AVal.beqs xs ys
  | _, _ => false
def AVal.beqss : List (List AVal) → List (List AVal) → Bool
  | [], [] => true
  | x :: xs, y :: ys => AVal.beqs x y && AVal.beqss xs ys
  | _, _ => false
end

/-- What an operation does to the heap, and to the frame's own boxes: 0 nothing, 1 looks, 2 turns. -/
def kinds (s : St) : AOp → Nat × Nat
  | .load _ _ a => match evalO s.t a with
    | .loc _ _ => (0, 1)
    | _ => (1, 0)
  | .store _ a _ => match evalO s.t a with
    | .loc _ _ => (0, 2)
    | _ => (2, 0)
  | .allocL _ _ _ _ | .boxL _ _ _ _ => (0, 2)
  | .fieldAddr _ x _ | .indexAddrArr _ _ x _ _ => match evalO s.t x with
    | .loc _ _ => (0, 1)
    | _ => (0, 0)
  | .call pu _ _ => (cond pu 1 2, 0)
  | .lookup _ _ _ _ _ | .len _ _ | .convStr _ | .convUP _ | .convPU _ _ _ | .bin _ _ _ _ | .sliceArr _ _ _ _ _ _ => (1, 0)
  | .mv _ | .pick _ _ _ | .build _ _ | .buildImm _ _ _ _ | .nilCheck _ | .un _ _ | .convInt _ _ | .mkIface _ _ | .mkFunc _ _ _ | .sliceStr _ _ _ | .sliceSl _ _ _ _ _
  | .field _ _ _ _ | .indexAddrSl _ _ _ | .indexStr _ _ | .indexArr _ _ _ _ _ | .extract _ _ | .cap _ | .lenC _ | .mx _ | .mn _ | .usd _ | .assertC _ _ _ _ | .arrPtr _ _ _ => (0, 0)
  | .defer _ _ => (2, 2)
  | _ => (2, 0)

/-- The temporaries that an operand, an operation names. -/
def tmpO : AOpd → List Nat
  | .tmp t => [t]
  | _ => []
def tmpOO : Option AOpd → List Nat
  | some x => tmpO x
  | none => []
def tmpL (xs : List AOpd) : List Nat := xs.flatMap tmpO
def tmpP (ps : List (Nat × Nat × AOpd)) : List Nat := ps.flatMap fun p => tmpO p.2.2
def reads : AOp → List Nat
  | .mv x | .boxL x _ _ _ | .boxH _ x | .load _ _ x | .nilCheck x | .un _ x | .convInt _ x | .convStr x | .convBytes _ x | .convUP x | .convPU _ _ x | .mkIface _ x | .fieldAddr _ x _ | .field _ _ _ x
  | .rangeStr x | .nextStr x | .assertC _ _ x _ | .extract x _ | .clear _ _ x | .arrPtr _ _ x | .len _ x | .cap x | .usd x => tmpO x
  | .allocL _ _ _ _ | .allocH _ _ | .mkMap | .lenC _ => []
  | .pick c a b => tmpO c ++ tmpO a ++ tmpO b
  | .build _ ps | .buildSlice _ _ _ _ ps | .buildImm _ _ _ ps => tmpP ps
  | .store _ a v => tmpO a ++ tmpO v
  | .bin _ _ x y => tmpO x ++ tmpO y
  | .mkFunc _ f c => tmpL f ++ tmpL c
  | .mkSlice _ _ _ _ l c => tmpO l ++ tmpO c
  | .sliceStr x l h => tmpO x ++ tmpOO l ++ tmpOO h
  | .sliceSl _ x l h m | .sliceArr _ _ x l h m => tmpO x ++ tmpOO l ++ tmpOO h ++ tmpOO m
  | .indexAddrArr _ _ x i _ | .indexAddrSl _ x i | .indexStr x i | .indexArr _ _ _ x i => tmpO x ++ tmpO i
  | .lookup _ _ x k _ => tmpO x ++ tmpO k
  | .mapUpd _ m k v => tmpO m ++ tmpO k ++ tmpO v
  | .mapEntry _ _ m k => tmpO m ++ tmpO k
  | .entryStore m s v => tmpO m ++ tmpO s ++ tmpO v
  | .call _ f as | .defer f as => tmpO f ++ tmpL as
  | .append _ _ _ s x | .appendZ _ _ _ _ s x | .copy _ s x | .ustr _ s x => tmpO s ++ tmpO x
  | .mx xs | .mn xs => tmpL xs

/-- One operation of a drawn run: its place, the state ahead, behind, what came; w: was it wanted. -/
structure Rec where
  i : Nat
  o : AOper
  s : St
  s' : St
  v : AVal
  w : Bool

/-- A place that was kept free. -/
def freeId (h : AHeap) (id : Nat) : Bool := Nat.ble h.lock id && Nat.blt id h.next && (h.m.get id).isNone

/-- An operation of a drawn run: a variable's block has its own number, whatever the order. -/
def aopD (C : Oracle) (id : Nat) (s : St) (op : AOp) : Option (AVal × St) :=
  match op with
  | .allocH ty zero => cond (freeId s.h id) (some (.ptr id 0 0, { s with h := s.h.put id (.cells 0 ty zero 0 false) })) none
  | .boxH ty x => match nlO s.t x with
    | some v => cond (oneV v && freeId s.h id) (some (.ptr id 0 0, { s with h := s.h.put id (.cells 0 ty v.cells 0 false) })) none
    | none => none
  | op => aop C s op

/-- A run in the order of the text, told. -/
def arunT (C : Oracle) (base : Nat) : Nat → List AOper → St → Option (List Rec × St)
  | _, [], s => some ([], s)
  | i, o :: os, s => match guardA s.t o.guard with
    | none => none
    | some false => match arunT C base (i + 1) os (s.put o.dst noRes) with
      | some (rs, s1) => some ({ i, o, s, s' := s, v := noRes, w := false } :: rs, s1)
      | none => none
    | some true => match aopD C (base + i) s o.op with
      | none => none
      | some (v, s') => match arunT C base (i + 1) os (s'.put o.dst v) with
        | some (rs, s1) => some ({ i, o, s, s', v, w := true } :: rs, s1)
        | none => none

def sameV (r : Option (AVal × St)) (v : AVal) : Bool :=
  match r with
  | some (w, _) => AVal.beq w v
  | none => false

def ordered (b : List Nat) (i j : Nat) : Bool := (b.getD j 0).testBit i

/-- What an operation of a drawn run does to the heap (0 nothing, 1 looks, 2 turns, 3 makes a variable), and to the frame's own boxes. -/
def kindsR (x : Rec) : Nat × Nat :=
  cond x.w (match x.o.op with
    | .allocH _ _ | .boxH _ _ => (3, 0)
    | op => kinds x.s op) (0, 0)

/-- The temporaries that are read, that are turned. -/
def rdR (x : Rec) : List Nat := (match x.o.guard with
  | some (j, _) => [j]
  | none => []) ++ cond x.w (reads x.o.op) []
def wrR (x : Rec) : List Nat := (match x.o.dst with
  | some d => [d]
  | none => []) ++ cond x.w (match x.o.op with
    | .allocL _ _ d _ | .boxL _ _ d _ => d :: oldDer x.s.l d
    | _ => []) []

def disj (a b : List Nat) : Bool := a.all fun x => !(b.any fun y => Nat.beq x y)

/-- May a look at the heap, the boxes, be at another time? -/
def lookH (C : Oracle) (x y : Rec) : Bool := sameV (aop C { x.s with h := y.s.h } x.o.op) x.v && sameV (aop C { x.s with h := y.s'.h } x.o.op) x.v
def lookL (C : Oracle) (x y : Rec) : Bool := sameV (aop C { x.s with l := y.s.l } x.o.op) x.v && sameV (aop C { x.s with l := y.s'.l } x.o.op) x.v
def heapOk (C : Oracle) (x y : Rec) : Nat → Nat → Bool
  | 0, _ => true
  | _, 0 => true
  | 1, 1 => true
  | 1, 2 => lookH C x y
  | 2, 1 => lookH C y x
  | 3, 3 => true
  | _, _ => false
def boxOk (C : Oracle) (x y : Rec) : Nat → Nat → Bool
  | 0, _ => true
  | _, 0 => true
  | 1, 1 => true
  | 1, 2 => lookL C x y
  | 2, 1 => lookL C y x
  | _, _ => false

/-- May two operations of a drawn run be exchanged? -/
def commute (C : Oracle) (x y : Rec) : Bool :=
  disj (wrR x) (rdR y ++ wrR y) && disj (rdR x) (wrR y) && heapOk C x y (kindsR x).1 (kindsR y).1 && boxOk C x y (kindsR x).2 (kindsR y).2

def commuteAll (C : Oracle) (b : List Nat) : List Rec → Bool
  | [] => true
  | r :: rs => (rs.all fun q => ordered b r.i q.i || commute C r q) && commuteAll C b rs

def AHeap.reserve (h : AHeap) (n : Nat) : AHeap := { h with next := h.next + n }

def arunD (C : Oracle) (b : List Nat) (ops : List AOper) (s : St) : Option St :=
  match arunT C s.h.next 0 ops { s with h := s.h.reserve ops.length } with
  | some (rs, s') => cond (commuteAll C b rs) (some s') none
  | none => none

/-- A frame's own box becomes a block of the heap's. -/
def promote1 (s : St) (d : Nat) : Option St :=
  match s.t.get d, s.l.get d with
  | some (.loc e 0), some bx => cond (Nat.beq e d) (some { s with t := (clearT (d :: bx.der) s.t).set d (some (.ptr s.h.next 0 0)), l := s.l.set d none, h := s.h.push (.cells 0 bx.ty bx.cells 0 false) }) none
  | _, _ => none
def promoteL : List Nat → St → Option St
  | [], s => some s
  | d :: ds, s => match promote1 s d with
    | some s' => promoteL ds s'
    | none => none

inductive AExit where
  | normal
  | exit (id : Nat)
  | ret

def loopN (f : St → Option (AExit × St)) : Nat → St → Option (AExit × St)
  | 0, _ => none
  | n + 1, s => match f s with
    | some (.normal, s') => loopN f n s'
    | r => r

def aexec (C : Oracle) (n : Nat) : ACode → St → Option (AExit × St)
  | .skip, s => some (.normal, s)
  | .region ops, s => match arun C ops s with
    | some s' => some (.normal, s')
    | none => none
  | .regionD b ops, s => match arunD C b ops s with
    | some s' => some (.normal, s')
    | none => none
  | .seq a b, s => match aexec C n a s with
    | some (.normal, s') => aexec C n b s'
    | r => r
  | .cond c x y, s => match evalO s.t c with
    | .bool true => aexec C n x s
    | .bool false => aexec C n y s
    | _ => none
  | .block id b, s => match aexec C n b s with
    | some (.exit k, s') => cond (Nat.beq k id) (some (.normal, s')) (some (.exit k, s'))
    | r => r
  | .loop b, s => loopN (aexec C n b) n s
  | .exit id, s => some (.exit id, s)
  | .ret, s => some (.ret, s)
  | .bad, _ => none
  | .promote ds, s => match promoteL ds s with
    | some s' => some (.normal, s')
    | none => none

def initT : List AVal → Nat → Tr AVal → Tr AVal
  | [], _, t => t
  | v :: vs, i, t => initT vs (i + 1) (t.set i (some v))

def runDef (C : Oracle) : List (AVal × List AVal) → AHeap → Option AHeap
  | [], h => some h
  | (f, args) :: ds, h => match f with
    | .func (.func g) first cap => match C g (first ++ args ++ cap) h with
      | some (_, h') => runDef C ds h'
      | none => none
    | _ => none

def resA (s : St) : List ARes → Option (List AVal)
  | [] => some []
  | .tmp t :: rs => match nl ((s.t.get t).getD noRes), resA s rs with
    | some v, some vs => some (v :: vs)
    | _, _ => none
  | .cell t agg n :: rs => match readA s agg n ((s.t.get t).getD noRes), resA s rs with
    | some v, some vs => some (v :: vs)
    | _, _ => none

def packRes : List AVal → AVal
  | [v] => v
  | vs => .tup vs

mutual
/-- A value that leans on no block from 'base' on; a slice over such a block becomes its list. 'deep': no block at all. -/
def freeze (h : AHeap) (base : Nat) : Nat → Bool → AVal → Option AVal
  | 0, _, _ => none
  | n + 1, deep, v => match v with
    | .bool b => some (.bool b)
    | .int k x => some (.int k x)
    | .str s => some (.str s)
    | .nilp => some .nilp
    | .nils => some .nils
    | .nilm => some .nilm
    | .nilf => some .nilf
    | .nili => some .nili
    | .gptr g o => some (.gptr g o)
    | .imm e xs ex => some (.imm e xs ex)
    | .ptr id ver off => cond (!deep && Nat.blt id base) (some (.ptr id ver off)) none
    | .mp id => cond (!deep && Nat.blt id base) (some (.mp id)) none
    | .sl id ver off len cap e => cond (Nat.blt id base) (cond deep none (some (.sl id ver off len cap e)))
        (match h.cells? id ver with
        | some (_, cs, _, _) => match getAt cs off (len * e) with
          | some c => match freezeAll h base n true c with
            | some c' => cond (Nat.blt 0 e && c'.all pureC) (some (.imm e (chunks len e c') (match cap with | some k => Nat.beq k len | none => false))) none
            | none => none
          | none => none
        | none => none)
    | .iface t x => match freeze h base n deep x with
      | some y => some (.iface t y)
      | none => none
    | .agg cs => match freezeAll h base n deep cs with
      | some l => some (.agg l)
      | none => none
    | .tup cs => match freezeAll h base n deep cs with
      | some l => some (.tup l)
      | none => none
    | _ => none
def freezeAll (h : AHeap) (base : Nat) : Nat → Bool → List AVal → Option (List AVal)
  | 0, _, _ => none
  | _ + 1, _, [] => some []
  | n + 1, deep, v :: vs => match freeze h base n deep v, freezeAll h base n deep vs with
    | some a, some b => some (a :: b)
    | _, _ => none
end

/-- slices.AppendSeq of nothing and a slice's values: a copy. -/
def seqA (ty : Nat) (args : List AVal) (h : AHeap) : Option (AVal × AHeap) :=
  match args with
  | [.nils, .func _ _ [p]] => match readA { t := .lf, l := .lf, h := h, d := [] } false 1 p with
    | some x => match srcCells h 1 x with
      | some (new, n) => cond (Nat.beq n 0) (some (.nils, h)) (some (.sl h.next 0 0 n none 1, h.push (.cells 0 ty new 0 false)))
      | none => none
    | none => none
  | _ => none

/-- The body's run. -/
def runBody (C : Oracle) (n : Nat) (fn : AFunc) (args : List AVal) (h : AHeap) : Option St :=
  match aexec C n fn.code { t := initT args 0 .lf, l := .lf, h := cond fn.pure { h with lock := h.next } h, d := [] } with
  | some (.normal, s) => some s
  | some (.ret, s) => some s
  | _ => none

/-- What is told behind the deferred calls. -/
def finish (n : Nat) (fn : AFunc) (h : AHeap) (s : St) (h2 : AHeap) : Option (AVal × AHeap) :=
  match resA { s with h := h2 } fn.res with
  | none => none
  | some vs => cond fn.pure (match freeze h2 h.next n false (packRes vs) with
    | some v => some (v, h)
    | none => none) (some (packRes vs, h2))

/-- A function that defers nothing. -/
def runFn0 (C : Oracle) (n : Nat) (fn : AFunc) (args : List AVal) (h : AHeap) : Option (AVal × AHeap) :=
  match fn.ext with
  | 0 => match runBody C n fn args h with
    | some s => match s.d with
      | [] => finish n fn h s s.h
      | _ => none
    | none => none
  | _ => none

def runFn (C D : Oracle) (n : Nat) (fn : AFunc) (args : List AVal) (h : AHeap) : Option (AVal × AHeap) :=
  match fn.ext with
  | 0 => match runBody C n fn args h with
    | some s => match runDef D s.d s.h with
      | some h2 => finish n fn h s h2
      | none => none
    | none => none
  | 1 => match args with
    | [v] => some (v, h)
    | _ => none
  | 2 => match fn.res with
    | [.tmp ty] => seqA ty args h
    | _ => none
  | _ => none

/-- The run for deferred calls. -/
def acall0 (P : Tr AFunc) (C : Oracle) (n : Nat) : Oracle := fun f args h => match P.get f with
  | some fn => runFn0 C n fn args h
  | none => none

/-- What is known of some functions, in place of their code. -/
abbrev Known := Nat → Option (List AVal → AHeap → Option (AVal × AHeap))

def acallS (P : Tr AFunc) (S : Known) : Nat → Oracle
  | 0, _, _, _ => none
  | n + 1, f, args, h => match S f with
    | some g => g args h
    | none => match P.get f with
      | some fn => runFn (acallS P S n) (acall0 P (acallS P S n) n) n fn args h
      | none => none

def acall (P : Tr AFunc) : Nat → Oracle := acallS P fun _ => none

end Wab
/- The translation of the model's code into the abstract interpreter's. Plain definitions. -/
namespace Wab
open Go

mutual
def trVal : Nat → Value → Option AVal
  | 0, _ => none
  | n + 1, v => match v with
    | .bool b => some (.bool b)
    | .int k x => some (.int k x)
    | .string s => some (.str (s.data.toList.map (·.toNat)))
    | .pointer none => some .nilp
    | .slice none 0 0 => some .nils
    | .map none => some .nilm
    | .nilFunc => some .nilf
    | .nilIface => some .nili
    | .iface t x => (trVal n x).map (.iface t)
    | .agg cs => match trVals n cs.toList with
      | some l => cond (l.all one) (some (.agg l)) none
      | none => none
    | .tuple cs => (trVals n cs.toList).map .tup
    | _ => none
def trVals : Nat → List Value → Option (List AVal)
  | 0, _ => none
  | _ + 1, [] => some []
  | n + 1, v :: vs => match trVal n v, trVals n vs with
    | some a, some b => some (a :: b)
    | _, _ => none
end

def depthV : Nat := 100000

def trOpd : Operand → Option AOpd
  | .tmp t => some (.tmp t)
  | .const v => (trVal depthV v).map .const
  | .global g => some (.glob g)
  | .func f => some (.fn f)

def trOpds : List Operand → Option (List AOpd)
  | [] => some []
  | x :: xs => match trOpd x, trOpds xs with
    | some a, some b => some (a :: b)
    | _, _ => none

def trOO : Option Operand → Option (Option AOpd)
  | none => some none
  | some x => (trOpd x).map some

def sizeP (P : Program) (t : TypeId) : Option Nat := (P.info? t).map (·.size)
def bytesP (P : Program) (t : TypeId) : Option Nat := (P.info? t).map (·.bytes)
def zeroP (P : Program) (t : TypeId) : Option AVal := ((P.info? t).bind (·.zero)).bind (trVal depthV)
def zeroC (P : Program) (t : TypeId) : Option (List AVal) := match (P.info? t).bind (·.zero), sizeP P t with
  | some v, some n => match trVals depthV v.cells.toList with
    | some l => cond (l.all one && Nat.beq l.length n) (some l) none
    | none => none
  | _, _ => none
def aggP (P : Program) (t : TypeId) : Option Bool := (P.underlying t).map fun d => match d with
  | .struct _ => true
  | .array _ _ => true
  | _ => false

def flatFs (P : Program) (g : TypeId → Option FT) : List Field → Option (List (Nat × Nat × Bool × FT))
  | [] => some []
  | f :: fs => match sizeP P f.type, aggP P f.type, g f.type, flatFs P g fs with
    | some n, some ag, some ft, some r => cond (f.name != "_") (some ((f.offset, n, ag, ft) :: r)) none
    | _, _, _, _ => none

def flatT (P : Program) : Nat → TypeId → Option FT
  | 0, _ => none
  | n + 1, t => match P.underlying t with
    | some .bool => some .bool
    | some (.int _) => some .int
    | some .string => some .str
    | some (.struct fs) => cond (P.stoodInHeld t) none ((flatFs P (flatT P n) fs.toList).map .st)
    | some (.array len e) => match sizeP P e, aggP P e, flatT P n e with
      | some k, some ag, some ft => some (.ar len k ag ft)
      | _, _, _ => none
    | _ => none

/-- A key of a map. -/
def keyT (P : Program) (t : TypeId) : Option FT := match P.underlying t with
  | some .bool => some .bool
  | some (.int _) => some .int
  | some .string => some .str
  | _ => none

def eqKP (P : Program) (t : TypeId) : EqK :=
  match P.underlying t with
  | some .bool => .bool
  | some (.struct _) | some (.array _ _) => match flatT P 8 t with
    | some ft => .flat ft
    | none => .other
  | some (.interface _) => .iface
  | some (.pointer e) => match sizeP P e with
    | some (_ + 1) => .ptr
    | _ => .other
  | some (.slice _) => .slice
  | some (.map _ _) => .map
  | some (.func _ _ _) => .func
  | _ => .other

def isCst : Operand → Bool
  | .const _ => true
  | _ => false

/-- parts of a literal: place, size, operand -/
def trParts (place : Nat → Option (Nat × Nat)) : List (Nat × Operand) → Option (List (Nat × Nat × AOpd))
  | [] => some []
  | (i, x) :: ps => match place i, trOpd x, trParts place ps with
    | some (o, n), some a, some r => some ((o, n, a) :: r)
    | _, _, _ => none

def fieldsP (P : Program) (fs : Array Field) : List (Option (Nat × Nat)) := fs.toList.map fun f => (sizeP P f.type).map fun n => (f.offset, n)

abbrev Locs := List (Nat × List Nat)
def derOf (lm : Locs) (d : Nat) : Option (List Nat) := (lm.find? fun p => Nat.beq p.1 d).map (·.2)

def trOp (P : Program) (lm : Locs) (heapLit : List Nat) (pure : Nat → Bool) (o : Oper) : Option AOp :=
  match o.op with
  | .move x | .assign x => (trOpd x).map .mv
  | .pick c a b => match trOpd c, trOpd a, trOpd b with
    | some c, some a, some b => some (.pick c a b)
    | _, _, _ => none
  | .alloc e => match zeroC P e, o.dst with
    | some z, some d => match derOf lm d with
      | some der => some (.allocL z der d e)
      | none => some (.allocH e z)
    | _, _ => none
  | .box e x => match trOpd x, sizeP P e, o.dst with
    | some x, some _n, some d => match derOf lm d with
      | some der => some (.boxL x der d e)
      | none => some (.boxH e x)
    | _, _, _ => none
  | .build t parts => match zeroC P t, P.underlying t with
    | some z, some (.struct fs) => cond ((fieldsP P fs).all Option.isSome) ((trParts (fun i => ((fieldsP P fs)[i]?).bind id) parts.toList).map (.build z)) none
    | some z, some (.array _ e) => match sizeP P e with
      | some n => (trParts (fun i => some (i * n, n)) parts.toList).map (.build z)
      | none => none
    | _, _ => none
  | .buildSlice t len parts => match P.underlying t with
    | some (.slice e) => match sizeP P e, zeroC P e with
      | some n, some z => cond (Nat.blt 0 n && Nat.ble (len * n) 16777216) ((trParts (fun i => some (i * n, n)) parts.toList).map (cond (heapLit.contains (o.dst.getD 0)) (.buildSlice e n len (List.replicate len z).flatten) (.buildImm n len (List.replicate len z).flatten))) none
      | _, _ => none
    | _ => none
  | .load t a => match aggP P t, sizeP P t, trOpd a with
    | some g, some n, some a => cond (g || Nat.beq n 1) (some (.load g n a)) none
    | _, _, _ => none
  | .store t a v => match sizeP P t, trOpd a, trOpd v with
    | some n, some a, some v => some (.store n a v)
    | _, _, _ => none
  | .nilCheck x => (trOpd x).map .nilCheck
  | .binOp op t x y _ => match trOpd x, trOpd y with
    | some a, some b => match op, eqKP P t with
      | .eql, .iface | .neq, .iface => cond (isCst x || isCst y) (some (.bin op .iface a b)) none
      | .eql, k | .neq, k => some (.bin op k a b)
      | op, _ => some (.bin op .other a b)
    | _, _ => none
  | .unOp op _ x => (trOpd x).map (.un op)
  | .convert src dst x => match P.underlying src, P.underlying dst, trOpd x with
    | some (.int _), some (.int k), some a => some (.convInt k a)
    | some .string, some .string, some a => some (.sliceStr a none none)
    | some (.slice e), some .string, some a => match P.underlying e with
      | some (.int .u8) => some (.convStr a)
      | _ => none
    | some .string, some (.slice e), some a => match P.underlying e with
      | some (.int .u8) => some (.convBytes e a)
      | _ => none
    | _, _, _ => none
  | .sliceToArrayPointer t x => match P.underlying t, trOpd x with
    | some (.array n e), some a => (sizeP P e).map fun k => .arrPtr n k a
    | _, _ => none
  | .makeInterface t x => match P.underlying t, trOpd x with
    | some (.interface _), _ => none
    | some _, some a => some (.mkIface t a)
    | _, _ => none
  | .makeFunc fn first cap => match trOpds first.toList, trOpds cap.toList with
    | some a, some b => some (.mkFunc fn a b)
    | _, _ => none
  | .makeMap t r => match P.underlying t, r with
    | some (.map _ _), none => some .mkMap
    | some (.map _ _), some (.const (.int _ _)) => some .mkMap
    | _, _ => none
  | .makeSlice t l c => match P.underlying t, trOpd l, trOpd c with
    | some (.slice e), some l, some c => match sizeP P e, bytesP P e, zeroC P e with
      | some n, some b, some z => cond (Nat.blt 0 n) (some (.mkSlice e n b z l c)) none
      | _, _, _ => none
    | _, _, _ => none
  | .slice t x lo hi mx => match P.underlying t, trOpd x, trOO lo, trOO hi, trOO mx with
    | some .string, some a, some l, some h, some none => some (.sliceStr a l h)
    | some (.slice e), some a, some l, some h, some m => (sizeP P e).map fun n => .sliceSl n a l h m
    | some (.array n e), some a, some l, some h, some m => (sizeP P e).map fun k => .sliceArr n k a l h m
    | some (.pointer r), some a, some l, some h, some m => match P.underlying r with
      | some (.array n e) => (sizeP P e).map fun k => .sliceArr n k a l h m
      | _ => none
    | _, _, _, _, _ => none
  | .fieldAddr s x f => match P.underlying s, trOpd x, o.dst with
    | some (.struct fs), some a, some d => match fs[f]? with
      | some g => match sizeP P g.type with
        | some n => cond (Nat.blt 0 n) (some (.fieldAddr g.offset a d)) none
        | none => none
      | none => none
    | _, _, _ => none
  | .field s x f => match P.underlying s, trOpd x with
    | some (.struct fs), some a => match fs[f]? with
      | some g => match sizeP P g.type, aggP P g.type with
        | some n, some ag => cond (ag || Nat.beq n 1) (some (.field ag g.offset n a)) none
        | _, _ => none
      | none => none
    | _, _ => none
  | .indexAddr t x i => match P.underlying t, trOpd x, trOpd i, o.dst with
    | some (.array n e), some a, some i, some d => (sizeP P e).map fun k => .indexAddrArr n k a i d
    | some (.slice e), some a, some i, _ => (sizeP P e).map fun k => .indexAddrSl k a i
    | _, _, _, _ => none
  | .index t x i => match P.underlying t, trOpd x, trOpd i with
    | some .string, some a, some i => some (.indexStr a i)
    | some (.array n e), some a, some i => match sizeP P e, aggP P e with
      | some k, some ag => cond (ag || Nat.beq k 1) (some (.indexArr ag n k a i)) none
      | _, _ => none
    | _, _, _ => none
  | .lookup t x k ok => match P.underlying t, trOpd x, trOpd k with
    | some (.map kt e), some a, some b => match zeroP P e with
      | some z => (keyT P kt).map fun ft => .lookup ft z a b ok
      | none => none
    | _, _, _ => none
  | .mapUpdate t m k v | .insert t m k v => match P.underlying t, trOpd m, trOpd k, trOpd v with
    | some (.map kt _), some a, some b, some c => (keyT P kt).map fun ft => .mapUpd ft a b c
    | _, _, _, _ => none
  | .range t x => match P.underlying t, trOpd x with
    | some .string, some a => some (.rangeStr a)
    | _, _ => none
  | .next it b => cond b ((trOpd it).map .nextStr) none
  | .typeAssert x _ t ok => match P.underlying t, trOpd x, zeroP P t with
    | some (.interface _), _, _ => none
    | some _, some a, some z => some (.assertC t z a ok)
    | _, _, _ => none
  | .extract x i => (trOpd x).map fun a => .extract a i
  | .call c => match c.callee, trOpds c.args.toList with
    | .value f, some as => (trOpd f).map fun g => .call (match f with | .func k => pure k | _ => false) g as
    | .builtin b, some as => match b, as, c.argTypes.toList with
      | .append, [s, x], [ts, tx] => match P.underlying ts, P.underlying tx with
        | some (.slice e), some (.int _) => match sizeP P e, bytesP P e, zeroC P e with
          | some n, some k, some z => cond (Nat.blt 0 n && Nat.blt 0 k) (some (.appendZ e n k z s x)) none
          | _, _, _ => none
        | some (.slice e), some (.slice _) | some (.slice e), some .string => match sizeP P e, bytesP P e, zeroC P e with
          | some n, some k, some _ => cond (Nat.blt 0 n && Nat.blt 0 k) (some (.append e n k s x)) none
          | _, _, _ => none
        | _, _ => none
      | .copy, [d, x], ts :: _ => match P.underlying ts with
        | some (.slice e) => (sizeP P e).map fun n => .copy n d x
        | _ => none
      | .len, [x], t :: _ => match P.underlying t with
        | some .string => some (.len 0 x)
        | some (.slice _) => some (.len 1 x)
        | some (.map _ _) => some (.len 2 x)
        | some (.array n _) => some (.lenC n)
        | some (.pointer r) => match P.underlying r with
          | some (.array n _) => some (.lenC n)
          | _ => none
        | _ => none
      | .clear, [x], t :: _ => match P.underlying t with
        | some (.slice e) => match sizeP P e, zeroC P e with
          | some n, some z => cond (Nat.blt 0 n) (some (.clear z n x)) none
          | _, _ => none
        | _ => none
      | .cap, [x], t :: _ => match P.underlying t with
        | some (.slice _) => some (.cap x)
        | _ => none
      | .max, xs, _ => some (.mx xs)
      | .min, xs, _ => some (.mn xs)
      | _, _, _ => none
    | _, _ => none
  | .defer c => match c.callee, trOpds c.args.toList with
    | .value f, some as => (trOpd f).map fun g => .defer g as
    | _, _ => none
  | _ => none

def dstOk (nt : Nat) : Option Nat → Bool
  | some d => Nat.blt d nt
  | none => true

def trOpers (P : Program) (lm : Locs) (heapLit : List Nat) (nt : Nat) (pure : Nat → Bool) (all : Array Oper) : List Oper → Option (List AOper)
  | [] => some []
  | o :: os => match trOp P lm heapLit pure o, trOpers P lm heapLit nt pure all os with
    | some a, some r => cond (dstOk nt o.dst) (match o.guard with
      | none => some ({ dst := o.dst, op := a, guard := none } :: r)
      | some (j, b) => match (all[j]?).bind (·.dst) with
        | some d => some ({ dst := o.dst, op := a, guard := some (d, b) } :: r)
        | none => none) none
    | _, _ => none

/-- The frame's own boxes that become blocks behind a region: their marks among the places. -/
def promsOf (lm : Locs) : List Oper → List Nat
  | [] => []
  | o :: os => match o.op, o.dst with
    | .alloc _, some d | .box _ _, some d => cond (derOf lm (d + 1000000)).isSome (d :: promsOf lm os) (promsOf lm os)
    | _, _ => promsOf lm os

def edgesOk (ops : Array Oper) : Bool :=
  (ops.toList.zipIdx.all fun (o, i) => o.after.all fun e => !Region.binds .any e || Nat.blt e.on i)

def trCode (P : Program) (lm : Locs) (heapLit : List Nat) (nt : Nat) (pure : Nat → Bool) : Code → ACode
  | .skip => .skip
  | .label _ => .skip
  | .region _ ops draw => match trOpers P lm heapLit nt pure ops ops.toList with
    | some l => cond draw (cond (edgesOk ops) (match promsOf lm ops.toList with
      | [] => .regionD (Region.before ops).toList l
      | ds => .seq (.regionD (Region.before ops).toList l) (.promote ds)) .bad) (.region l)
    | none => .bad
  | .seq a b => .seq (trCode P lm heapLit nt pure a) (trCode P lm heapLit nt pure b)
  | .cond c x y => match trOpd c with
    | some c => .cond c (trCode P lm heapLit nt pure x) (trCode P lm heapLit nt pure y)
    | none => .bad
  | .block id b => .block id (trCode P lm heapLit nt pure b)
  | .loop b => .loop (trCode P lm heapLit nt pure b)
  | .exit id => .exit id
  | .scope b => trCode P lm heapLit nt pure b
  | .ret => .ret
  | _ => .bad

def trRes (P : Program) : List ResultVar → Option (List ARes)
  | [] => some []
  | .tmp t :: rs => (trRes P rs).map (.tmp t :: ·)
  | .cell a t :: rs => match aggP P t, sizeP P t, trRes P rs with
    | some g, some n, some r => cond (g || Nat.beq n 1) (some (.cell a g n :: r)) none
    | _, _, _ => none

def trFunc (P : Program) (lm : Locs) (heapLit : List Nat) (pure : Nat → Bool) (self : Bool) (fn : Func) : Option AFunc :=
  match fn.body, trRes P fn.results.toList with
  | some c, some r => cond (fn.name == "runtime.NumGoroutine") none <| some { pure := self, code := trCode P lm heapLit fn.ntmps pure c, res := r, ext := 0 }
  | _, _ => none

-- which slots are boxes of the frame's own (untrusted: the interpreter asks again)
def opsOf : Code → List Oper
  | .region _ ops _ => ops.toList
  | .seq a b => opsOf a ++ opsOf b
  | .cond _ x y => opsOf x ++ opsOf y
  | .block _ b | .loop b | .scope b => opsOf b
  | .rangeFunc _ _ a b => opsOf a ++ opsOf b
  | _ => []
def isTmp (ts : List Nat) : Operand → Bool
  | .tmp t => ts.contains t
  | _ => false
def derStep (ops : List Oper) (ts : List Nat) : List Nat :=
  ops.foldl (fun acc o => match o.op, o.dst with
    | .fieldAddr _ x _, some d => if isTmp acc x && !acc.contains d then acc ++ [d] else acc
    | .indexAddr _ x _, some d => if isTmp acc x && !acc.contains d then acc ++ [d] else acc
    | _, _ => acc) ts
def useOk (P : Program) (ts : List Nat) (o : Oper) : Bool :=
  match o.op with
  | .load _ _ => true
  | .store _ _ v => !isTmp ts v
  | .fieldAddr _ _ _ => true
  | .indexAddr t x i => !isTmp ts i && (!isTmp ts x || (match P.underlying t with | some (.array _ _) => true | _ => false))
  | op => !op.operands.toList.any (isTmp ts)
-- which literals are made on the heap: those of pointers, maps, functions
def isRef : AVal → Bool
  | .nilp | .nilm | .nilf => true
  | _ => false
def litsOf (P : Program) (c : Code) : List Nat :=
  (opsOf c).filterMap fun o => match o.op, o.dst with
    | .buildSlice t _ _, some d => match P.underlying t with
      | some (.slice e) => match zeroC P e with
        | some z => if z.any isRef then some d else none
        | none => none
      | _ => none
    | _, _ => none
def localsOf (P : Program) (c : Code) : Locs :=
  let ops := opsOf c
  let cands := (ops.filterMap fun o => match o.op, o.dst with | .alloc _, some d => some d | .box _ _, some d => some d | _, _ => none).eraseDups
  cands.filterMap fun d =>
    let ts := derStep ops (derStep ops (derStep ops [d]))
    let der := ts.drop 1
    let w := ops.all fun o => match o.dst with
      | some k => if Nat.beq k d then (match o.op with | .alloc _ | .box _ _ => true | _ => false)
        else if der.contains k then (match o.op with | .fieldAddr _ x _ => isTmp ts x | .indexAddr _ x _ => isTmp ts x | _ => false) else true
      | none => true
    if w && ops.all (useOk P ts) then some (d, der) else none

end Wab
/- How an abstract state stands to a world of the model: definitions, and that a value's reading is kept as the world goes on. -/
namespace Wab
open Go

structure Loc where
  blk : Nat
  off : Nat

structure Ctx where
  σ : AHeap
  H : Array Obj
  mu : Nat → Loc
  F : Nat → Prop

def cellH (H : Array Obj) (b o : Nat) : Option Value :=
  match H[b]? with
  | some (.cells c _ _) => c[o]?
  | _ => none

def sizeH (H : Array Obj) (b : Nat) : Nat :=
  match H[b]? with
  | some (.cells c _ _) => c.size
  | _ => 0

def Ctx.ver (C : Ctx) (id : Nat) : Nat :=
  match C.σ.m.get id with
  | some (.cells v _ _ _ _) => v
  | _ => 0

def Ctx.isMap (C : Ctx) (id : Nat) : Prop := ∃ es c, C.σ.m.get id = some (.amap es c)

theorem Ctx.ver_isMap {C : Ctx} {id : Nat} (h : C.isMap id) : C.ver id = 0 := by
  obtain ⟨es, c, h⟩ := h
  simp [Ctx.ver, h]

def Ctx.known (C : Ctx) (id : Nat) : Nat :=
  match C.σ.m.get id with
  | some (.cells _ _ cs _ _) => cs.length
  | _ => 0

def Ctx.asize (C : Ctx) (id : Nat) : Nat := sizeH C.H (C.mu id).blk

/-- There is such a block. -/
def Ctx.live (C : Ctx) (id : Nat) : Prop := (C.σ.m.get id).isSome = true

/-- Block b is one of the abstract heap's. -/
def Ctx.Own (C : Ctx) (b : Nat) : Prop := ∃ id, C.live id ∧ (C.mu id).blk = b

mutual
def vrel (C : Ctx) : AVal → Value → Prop
  | .dead, _ => True
  | .bool b, v => v = .bool b
  | .int k n, v => v = .int k n
  | .str s, v => ∃ b : ByteArray, v = .string b ∧ b.data.toList.map (·.toNat) = s
  | .nilp, v => v = .pointer none
  | .ptr id ver off, v => C.live id ∧ ver ≤ C.ver id ∧ ∃ b q, v = .pointer (some ⟨b, q, none⟩) ∧ (ver = C.ver id → b = (C.mu id).blk ∧ q = (C.mu id).off + off)
  | .gptr g off, v => v = .pointer (some ⟨g, off, none⟩)
  | .loc _ _, _ => False
  | .iptr x off, v => ∃ b o, v = .pointer (some ⟨b, o + off, none⟩) ∧ cellsAt C b o x
  | .nils, v => v = .slice none 0 0
  | .imm e xs ex, v => ∃ b o cap sp, v = .slice (some ⟨b, o, sp⟩) xs.length cap ∧ (xs ≠ [] → sp = none) ∧ xs.length ≤ cap ∧ (ex = true → cap = xs.length) ∧ elemsAt C e b o xs
  | .sl id ver off len cap e, v => C.live id ∧ ver ≤ C.ver id ∧ 0 < e ∧ ∃ b q c, v = .slice (some ⟨b, q, none⟩) len c ∧ len ≤ c ∧ (∀ k, cap = some k → c = k) ∧
      (ver = C.ver id → off + len * e ≤ C.known id ∧ b = (C.mu id).blk ∧ q = (C.mu id).off + off ∧
        (match cap with
        | some k => off + k * e ≤ C.known id
        | none => (C.mu id).off + off + c * e = C.asize id))
  | .nilm, v => v = .map none
  | .mp id, v => C.live id ∧ C.isMap id ∧ v = .map (some (C.mu id).blk)
  | .func fn f c, v => ∃ f' c', v = .func fn f' c' ∧ vrels C f f'.toList ∧ vrels C c c'.toList
  | .nilf, v => v = .nilFunc
  | .iface t x, v => ∃ y, v = .iface t y ∧ vrel C x y
  | .nili, v => v = .nilIface
  | .agg cs, v => cs.all one = true ∧ ∃ a, v = .agg a ∧ vrels C cs a.toList
  | .tup cs, v => ∃ a, v = .tuple a ∧ vrels C cs a.toList
def vrels (C : Ctx) : List AVal → List Value → Prop
  | [], [] => True
  | x :: xs, v :: vs => vrel C x v ∧ vrels C xs vs
  | _, _ => False
def cellsAt (C : Ctx) (b : Nat) : Nat → List AVal → Prop
  | _, [] => True
  | o, x :: xs => (one x = true ∧ ¬ C.Own b ∧ (¬ C.F b ∧ pureC x = true) ∧ ∃ v, cellH C.H b o = some v ∧ vrel C x v) ∧ cellsAt C b (o + 1) xs
def elemsAt (C : Ctx) (e b : Nat) : Nat → List (List AVal) → Prop
  | _, [] => True
  | o, x :: xs => x.length = e ∧ cellsAt C b o x ∧ elemsAt C e b (o + e) xs
end

/-- A cell of the heap holds this abstract cell. -/
def holds (C : Ctx) (b o : Nat) (x : AVal) : Prop := one x = true ∧ ∃ v, cellH C.H b o = some v ∧ vrel C x v

/-- what is frozen of a block of the abstract heap's -/
def frOk (fr : Nat × Nat) (off fz : Nat) (sx : Bool) (size : Nat) : Prop :=
  (fr.1 = fr.2) ∨ (fr.2 ≤ off + fz) ∨ (sx = true ∧ size ≤ fr.1)

def entriesRel (C : Ctx) : List (AVal × AVal × Nat) → List MapEntry → Prop
  | [], [] => True
  | x :: xs, e :: es => (vrel C x.1 e.key ∧ vrel C x.2.1 e.val ∧ x.2.2 = e.born) ∧ entriesRel C xs es
  | _, _ => False

def blockRel (C : Ctx) (l : Loc) : ABlock → Prop
  | .cells _ ty cs fz sx => ∃ arr fr, C.H[l.blk]? = some (.cells arr ty fr) ∧ l.off + cs.length ≤ arr.size ∧
      (∀ j (h : j < cs.length), holds C l.blk (l.off + j) cs[j]) ∧ frOk fr l.off fz sx arr.size
  | .amap es clock => ∃ ces, C.H[l.blk]? = some (.map ces clock) ∧ entriesRel C es ces.toList
  | .siter s pos => ∃ b : ByteArray, C.H[l.blk]? = some (.stringIter b pos) ∧ b.data.toList.map (·.toNat) = s ∧ l.off = 0

structure HRel (C : Ctx) : Prop where
  here : ∀ id, C.live id → ∃ b, C.σ.m.get id = some b ∧ blockRel C (C.mu id) b
  gone : ∀ id, C.σ.next ≤ id → C.σ.m.get id = none
  inj : ∀ i j, C.live i → C.live j → (C.mu i).blk = (C.mu j).blk → i = j
  free : ∀ i, C.live i → ¬ C.F (C.mu i).blk
  small : ∀ b, C.F b → b < C.H.size
  lock : C.σ.lock ≤ C.σ.next

/-- What a value's reading leans on is kept. -/
structure V (C C' : Ctx) : Prop where
  live : ∀ id, C.live id → C'.live id
  maps : ∀ id, C.live id → C.isMap id → C'.isMap id
  ids : ∀ id, C.live id → C.ver id ≤ C'.ver id ∧ (C'.ver id = C.ver id → C'.mu id = C.mu id ∧ C.known id ≤ C'.known id ∧ C'.asize id = C.asize id)
  imm : ∀ b, b < C.H.size → ¬ C.Own b → ¬ C.F b → C'.H[b]? = C.H[b]? ∧ ¬ C'.Own b ∧ ¬ C'.F b

theorem V.refl (C : Ctx) : V C C := ⟨fun _ h => h, fun _ _ h => h, fun _ _ => ⟨Nat.le_refl _, fun _ => ⟨rfl, Nat.le_refl _, rfl⟩⟩, fun _ _ h1 h2 => ⟨rfl, h1, h2⟩⟩

theorem cellH_lt {H : Array Obj} {b o : Nat} {v : Value} (h : cellH H b o = some v) : b < H.size := by
  unfold cellH at h
  cases hb : H[b]? with
  | none => simp [hb] at h
  | some x => exact (Array.getElem?_eq_some_iff.1 hb).1

theorem cellH_eq {H H' : Array Obj} {b : Nat} (h : H'[b]? = H[b]?) (o : Nat) : cellH H' b o = cellH H b o := by
  unfold cellH; rw [h]

mutual
theorem vrel_mono {C C' : Ctx} (h : V C C') : ∀ (x : AVal) (v : Value), vrel C x v → vrel C' x v
  | .dead, _, _ => by simp [vrel]
  | .bool _, _, r => by simpa [vrel] using r
  | .int _ _, _, r => by simpa [vrel] using r
  | .str _, _, r => by simpa [vrel] using r
  | .nilp, _, r => by simpa [vrel] using r
  | .ptr id ver off, v, r => by
    simp only [vrel] at r ⊢
    obtain ⟨h1, h2, b, q, h0, h3⟩ := r
    obtain ⟨i1, i2⟩ := h.ids id h1
    refine ⟨h.live id h1, Nat.le_trans h2 i1, b, q, h0, fun e => ?_⟩
    have e' : C'.ver id = C.ver id := by omega
    rw [(i2 e').1]
    exact h3 (by omega)
  | .gptr _ _, _, r => by simpa [vrel] using r
  | .loc _ _, _, r => by simp [vrel] at r
  | .iptr x off, v, r => by
    simp only [vrel] at r ⊢
    obtain ⟨b, o, hv, hc⟩ := r
    exact ⟨b, o, hv, cellsAt_mono h x b o hc⟩
  | .nils, _, r => by simpa [vrel] using r
  | .imm e xs ex, v, r => by
    simp only [vrel] at r ⊢
    obtain ⟨b, o, cap, sp, hv, h0, h1, h2, hc⟩ := r
    exact ⟨b, o, cap, sp, hv, h0, h1, h2, elemsAt_mono h xs e b o hc⟩
  | .sl id ver off len cap e, v, r => by
    simp only [vrel] at r ⊢
    obtain ⟨h1, h2, h4, b, q, c, h0, h5, h6, h3⟩ := r
    obtain ⟨i1, i2⟩ := h.ids id h1
    refine ⟨h.live id h1, Nat.le_trans h2 i1, h4, b, q, c, h0, h5, h6, fun e => ?_⟩
    have e' : C'.ver id = C.ver id := by omega
    obtain ⟨j1, j2, j3⟩ := i2 e'
    obtain ⟨k2, k3, k4, k5⟩ := h3 (by omega)
    rw [j1]
    refine ⟨Nat.le_trans k2 j2, k3, k4, ?_⟩
    cases cap with
    | none => simp only at k5 ⊢; rw [j3]; exact k5
    | some k => simp only at k5 ⊢; exact Nat.le_trans k5 j2
  | .nilm, _, r => by simpa [vrel] using r
  | .mp id, v, r => by
    simp only [vrel] at r ⊢
    obtain ⟨h1, h2, h3⟩ := r
    have h4 := h.maps id h1 h2
    have h5 := ((h.ids id h1).2 (by rw [Ctx.ver_isMap h4, Ctx.ver_isMap h2])).1
    exact ⟨h.live id h1, h4, by rw [h5]; exact h3⟩
  | .func fn f c, v, r => by
    simp only [vrel] at r ⊢
    obtain ⟨f', c', hv, h1, h2⟩ := r
    exact ⟨f', c', hv, vrels_mono h f _ h1, vrels_mono h c _ h2⟩
  | .nilf, _, r => by simpa [vrel] using r
  | .iface t x, v, r => by
    simp only [vrel] at r ⊢
    obtain ⟨y, hv, h1⟩ := r
    exact ⟨y, hv, vrel_mono h x y h1⟩
  | .nili, _, r => by simpa [vrel] using r
  | .agg cs, v, r => by
    simp only [vrel] at r ⊢
    obtain ⟨h0, a, hv, h1⟩ := r
    exact ⟨h0, a, hv, vrels_mono h cs _ h1⟩
  | .tup cs, v, r => by
    simp only [vrel] at r ⊢
    obtain ⟨a, hv, h1⟩ := r
    exact ⟨a, hv, vrels_mono h cs _ h1⟩
theorem vrels_mono {C C' : Ctx} (h : V C C') : ∀ (xs : List AVal) (vs : List Value), vrels C xs vs → vrels C' xs vs
  | [], [], _ => by simp [vrels]
  | [], _ :: _, r => by simp [vrels] at r
  | _ :: _, [], r => by simp [vrels] at r
  | x :: xs, v :: vs, r => by
    simp only [vrels] at r ⊢
    exact ⟨vrel_mono h x v r.1, vrels_mono h xs vs r.2⟩
theorem cellsAt_mono {C C' : Ctx} (h : V C C') : ∀ (xs : List AVal) (b o : Nat), cellsAt C b o xs → cellsAt C' b o xs
  | [], _, _, _ => by simp [cellsAt]
  | x :: xs, b, o, r => by
    simp only [cellsAt] at r ⊢
    obtain ⟨⟨h0, h1, ⟨h2, hp⟩, v, h3, h4⟩, h5⟩ := r
    obtain ⟨i1, i2, i3⟩ := h.imm b (cellH_lt h3) h1 h2
    exact ⟨⟨h0, i2, ⟨i3, hp⟩, v, by rw [cellH_eq i1]; exact h3, vrel_mono h x v h4⟩, cellsAt_mono h xs b (o + 1) h5⟩
theorem elemsAt_mono {C C' : Ctx} (h : V C C') : ∀ (xs : List (List AVal)) (e b o : Nat), elemsAt C e b o xs → elemsAt C' e b o xs
  | [], _, _, _, _ => by simp [elemsAt]
  | x :: xs, e, b, o, r => by
    simp only [elemsAt] at r ⊢
    exact ⟨r.1, cellsAt_mono h x b o r.2.1, elemsAt_mono h xs e b (o + e) r.2.2⟩
end

theorem holds_mono {C C' : Ctx} (h : V C C') {b o : Nat} {x : AVal} (hb : C'.H[b]? = C.H[b]?) (r : holds C b o x) : holds C' b o x := by
  obtain ⟨h0, v, h1, h2⟩ := r
  exact ⟨h0, v, by rw [cellH_eq hb]; exact h1, vrel_mono h x v h2⟩

theorem entriesRel_mono {C C' : Ctx} (h : V C C') : ∀ (xs : List (AVal × AVal × Nat)) (es : List MapEntry), entriesRel C xs es → entriesRel C' xs es
  | [], [], _ => by simp [entriesRel]
  | [], _ :: _, r => by simp [entriesRel] at r
  | _ :: _, [], r => by simp [entriesRel] at r
  | x :: xs, e :: es, r => by
    simp only [entriesRel] at r ⊢
    exact ⟨⟨vrel_mono h _ _ r.1.1, vrel_mono h _ _ r.1.2.1, r.1.2.2⟩, entriesRel_mono h xs es r.2⟩

/-- A block that is as it was still holds what it held. -/
theorem blockRel_mono {C C' : Ctx} (h : V C C') {l : Loc} {b : ABlock} (hb : C'.H[l.blk]? = C.H[l.blk]?) (r : blockRel C l b) : blockRel C' l b := by
  cases b with
  | cells v ty cs fz sx =>
    simp only [blockRel] at r ⊢
    obtain ⟨arr, fr, h1, h2, h3, h4⟩ := r
    exact ⟨arr, fr, by rw [hb]; exact h1, h2, fun j hj => holds_mono h hb (h3 j hj), h4⟩
  | amap es c =>
    simp only [blockRel] at r ⊢
    obtain ⟨ces, h1, h2⟩ := r
    exact ⟨ces, by rw [hb]; exact h1, entriesRel_mono h es _ h2⟩
  | siter s pos =>
    simp only [blockRel] at r ⊢
    obtain ⟨b, h1, h2⟩ := r
    exact ⟨b, by rw [hb]; exact h1, h2⟩

theorem vrels_length {C : Ctx} : ∀ {xs : List AVal} {vs : List Value}, vrels C xs vs → xs.length = vs.length
  | [], [], _ => rfl
  | [], _ :: _, r => by simp [vrels] at r
  | _ :: _, [], r => by simp [vrels] at r
  | _ :: _, _ :: _, r => by simp only [vrels] at r; simp [vrels_length r.2]

theorem vrels_get {C : Ctx} : ∀ {xs : List AVal} {vs : List Value}, vrels C xs vs → ∀ (i : Nat) (x : AVal), xs[i]? = some x → ∃ v, vs[i]? = some v ∧ vrel C x v
  | [], [], _, i, x, h => by simp at h
  | [], _ :: _, r, _, _, _ => by simp [vrels] at r
  | _ :: _, [], r, _, _, _ => by simp [vrels] at r
  | y :: ys, w :: ws, r, i, x, h => by
    simp only [vrels] at r
    cases i with
    | zero => simp at h; subst h; exact ⟨w, by simp, r.1⟩
    | succ i => simpa using vrels_get r.2 i x (by simpa using h)

theorem vrels_of {C : Ctx} : ∀ {xs : List AVal} {vs : List Value}, xs.length = vs.length → (∀ (i : Nat) (x : AVal) (v : Value), xs[i]? = some x → vs[i]? = some v → vrel C x v) → vrels C xs vs
  | [], [], _, _ => by simp [vrels]
  | [], _ :: _, h, _ => by simp at h
  | _ :: _, [], h, _ => by simp at h
  | x :: xs, v :: vs, h, r => by
    simp only [vrels]
    exact ⟨r 0 x v (by simp) (by simp), vrels_of (by simpa using h) fun i y u h1 h2 => r (i + 1) y u (by simpa using h1) (by simpa using h2)⟩

theorem vrels_append {C : Ctx} : ∀ {xs ys : List AVal} {vs ws : List Value}, vrels C xs vs → vrels C ys ws → vrels C (xs ++ ys) (vs ++ ws)
  | [], _, [], _, _, r => by simpa using r
  | [], _, _ :: _, _, r, _ => by simp [vrels] at r
  | _ :: _, _, [], _, r, _ => by simp [vrels] at r
  | _ :: _, _, _ :: _, _, r, r' => by
    simp only [vrels, List.cons_append] at r ⊢
    exact ⟨r.1, vrels_append r.2 r'⟩

theorem vrels_take {C : Ctx} : ∀ (n : Nat) {xs : List AVal} {vs : List Value}, vrels C xs vs → vrels C (xs.take n) (vs.take n)
  | 0, _, _, _ => by simp [vrels]
  | _ + 1, [], [], _ => by simp [vrels]
  | _ + 1, [], _ :: _, r => by simp [vrels] at r
  | _ + 1, _ :: _, [], r => by simp [vrels] at r
  | n + 1, _ :: _, _ :: _, r => by simp only [vrels] at r; simp only [List.take_succ_cons, vrels]; exact ⟨r.1, vrels_take n r.2⟩

theorem vrels_drop {C : Ctx} : ∀ (n : Nat) {xs : List AVal} {vs : List Value}, vrels C xs vs → vrels C (xs.drop n) (vs.drop n)
  | 0, _, _, h => by simpa using h
  | _ + 1, [], [], _ => by simp [vrels]
  | _ + 1, [], _ :: _, r => by simp [vrels] at r
  | _ + 1, _ :: _, [], r => by simp [vrels] at r
  | n + 1, _ :: _, _ :: _, r => by simp only [vrels] at r; simpa using vrels_drop n r.2

theorem cellsAt_get {C : Ctx} {b : Nat} : ∀ {xs : List AVal} {o : Nat}, cellsAt C b o xs → ∀ (i : Nat) (x : AVal), xs[i]? = some x → ¬ C.Own b ∧ (¬ C.F b ∧ pureC x = true) ∧ holds C b (o + i) x
  | [], _, _, i, x, h => by simp at h
  | y :: ys, o, r, i, x, h => by
    simp only [cellsAt] at r
    cases i with
    | zero => simp at h; subst h; exact ⟨r.1.2.1, r.1.2.2.1, r.1.1, r.1.2.2.2⟩
    | succ i =>
      have := cellsAt_get r.2 i x (by simpa using h)
      rw [show o + (i + 1) = o + 1 + i from by omega]; exact this

theorem cellsAt_of {C : Ctx} {b : Nat} (h1 : ¬ C.Own b) (h2 : ¬ C.F b) : ∀ {xs : List AVal} {o : Nat}, (∀ (i : Nat) (x : AVal), xs[i]? = some x → pureC x = true ∧ holds C b (o + i) x) → cellsAt C b o xs
  | [], _, _ => by simp [cellsAt]
  | y :: ys, o, r => by
    simp only [cellsAt]
    refine ⟨⟨(r 0 y (by simp)).2.1, h1, ⟨h2, (r 0 y (by simp)).1⟩, (r 0 y (by simp)).2.2⟩, cellsAt_of h1 h2 fun i x h => ?_⟩
    rw [show o + 1 + i = o + (i + 1) from by omega]; exact r (i + 1) x (by simpa using h)

theorem elemsAt_get {C : Ctx} {e b : Nat} : ∀ {xs : List (List AVal)} {o : Nat}, elemsAt C e b o xs → ∀ (i : Nat) (x : List AVal), xs[i]? = some x → x.length = e ∧ cellsAt C b (o + i * e) x
  | [], _, _, i, x, h => by simp at h
  | y :: ys, o, r, i, x, h => by
    simp only [elemsAt] at r
    cases i with
    | zero => simp at h; subst h; simpa using ⟨r.1, r.2.1⟩
    | succ i =>
      have := elemsAt_get r.2.2 i x (by simpa using h)
      rw [show o + (i + 1) * e = o + e + i * e from by rw [Nat.succ_mul]; omega]; exact this

theorem elemsAt_of {C : Ctx} {e b : Nat} : ∀ {xs : List (List AVal)} {o : Nat}, (∀ (i : Nat) (x : List AVal), xs[i]? = some x → x.length = e ∧ cellsAt C b (o + i * e) x) → elemsAt C e b o xs
  | [], _, _ => by simp [elemsAt]
  | y :: ys, o, r => by
    simp only [elemsAt]
    have h0 := r 0 y (by simp)
    refine ⟨h0.1, by simpa using h0.2, elemsAt_of fun i x h => ?_⟩
    have := r (i + 1) x (by simpa using h)
    rw [show o + (i + 1) * e = o + e + i * e from by rw [Nat.succ_mul]; omega] at this; exact this

theorem elemsAt_drop {C : Ctx} {e b : Nat} {xs : List (List AVal)} {o : Nat} (h : elemsAt C e b o xs) (n : Nat) : elemsAt C e b (o + n * e) (xs.drop n) :=
  elemsAt_of fun i x hx => by
    have := elemsAt_get h (n + i) x (by simpa using hx)
    rw [show o + (n + i) * e = o + n * e + i * e from by rw [Nat.add_mul]; omega] at this; exact this

theorem elemsAt_take {C : Ctx} {e b : Nat} {xs : List (List AVal)} {o : Nat} (h : elemsAt C e b o xs) (n : Nat) : elemsAt C e b o (xs.take n) :=
  elemsAt_of fun i x hx => by
    rw [List.getElem?_take] at hx
    split at hx
    · exact elemsAt_get h i x hx
    · simp at hx

theorem elemsAt_flat {C : Ctx} {e b : Nat} : ∀ {xs : List (List AVal)} {o : Nat}, elemsAt C e b o xs → xs.flatten.length = xs.length * e ∧ ∀ (i : Nat) (x : AVal), xs.flatten[i]? = some x → ¬ C.Own b ∧ (¬ C.F b ∧ pureC x = true) ∧ holds C b (o + i) x
  | [], _, _ => by simp
  | y :: ys, o, r => by
    simp only [elemsAt] at r
    obtain ⟨hl, ih⟩ := elemsAt_flat r.2.2
    refine ⟨by simp [r.1, hl, Nat.succ_mul]; omega, fun i x h => ?_⟩
    rw [List.flatten_cons, List.getElem?_append] at h
    split at h
    · exact cellsAt_get r.2.1 i x h
    · rename_i hge
      have := ih _ x h
      rw [show o + i = o + e + (i - y.length) from by rw [r.1] at hge ⊢; omega]; exact this

theorem cond_beq {α : Type} (a b : Nat) (x y : α) : cond (Nat.beq a b) x y = if a = b then x else y := by
  cases h : Nat.beq a b with
  | true => rw [if_pos (Nat.eq_of_beq_eq_true h)]; rfl
  | false => rw [if_neg (Nat.ne_of_beq_eq_false h)]; rfl

/-- The tree of numbers. -/
theorem Tr.get_ins {α : Type} : ∀ (f : Nat) (t : Tr α) (k : Nat) (x : Option α) (j : Nat), k < f → (t.ins f k x).get j = if j = k then x else t.get j
  | 0, _, _, _, _, h => by omega
  | f + 1, .lf, k, x, j, h => by
    simp only [Tr.ins, cond_beq]
    by_cases hk : k = 0
    · subst hk
      simp only [if_true, Tr.get, cond_beq, ite_self]
    · simp only [hk, if_false]
      by_cases hm : k % 2 = 1
      · simp only [hm, if_true, Tr.get, cond_beq]
        by_cases hj : j = 0
        · subst hj; rw [if_pos rfl, if_neg (by omega)]
        · rw [if_neg hj]
          by_cases hn : j % 2 = 1
          · rw [if_pos hn, Tr.get_ins f .lf (k / 2) x (j / 2) (by omega)]
            simp only [Tr.get]
            by_cases he : j = k
            · rw [if_pos (by omega), if_pos he]
            · rw [if_neg (by omega), if_neg he]
          · rw [if_neg hn, if_neg (by omega)]
      · simp only [hm, if_false, Tr.get, cond_beq]
        by_cases hj : j = 0
        · subst hj; rw [if_pos rfl, if_neg (by omega)]
        · rw [if_neg hj]
          by_cases hn : j % 2 = 1
          · rw [if_pos hn, if_neg (by omega)]
          · rw [if_neg hn, Tr.get_ins f .lf (k / 2 - 1) x (j / 2 - 1) (by omega)]
            simp only [Tr.get]
            by_cases he : j = k
            · rw [if_pos (by omega), if_pos he]
            · rw [if_neg (by omega), if_neg he]
  | f + 1, .nd v l r, k, x, j, h => by
    simp only [Tr.ins, cond_beq]
    by_cases hk : k = 0
    · subst hk
      simp only [if_true, Tr.get, cond_beq]
      by_cases hj : j = 0
      · simp [hj]
      · simp [hj]
    · simp only [hk, if_false]
      by_cases hm : k % 2 = 1
      · simp only [hm, if_true, Tr.get, cond_beq]
        by_cases hj : j = 0
        · subst hj; rw [if_pos rfl, if_neg (by omega), if_pos rfl]
        · rw [if_neg hj, if_neg hj]
          by_cases hn : j % 2 = 1
          · rw [if_pos hn, if_pos hn, Tr.get_ins f l (k / 2) x (j / 2) (by omega)]
            by_cases he : j = k
            · rw [if_pos (by omega), if_pos he]
            · rw [if_neg (by omega), if_neg he]
          · rw [if_neg hn, if_neg hn, if_neg (by omega)]
      · simp only [hm, if_false, Tr.get, cond_beq]
        by_cases hj : j = 0
        · subst hj; rw [if_pos rfl, if_neg (by omega), if_pos rfl]
        · rw [if_neg hj, if_neg hj]
          by_cases hn : j % 2 = 1
          · rw [if_pos hn, if_pos hn, if_neg (by omega)]
          · rw [if_neg hn, if_neg hn, Tr.get_ins f r (k / 2 - 1) x (j / 2 - 1) (by omega)]
            by_cases he : j = k
            · rw [if_pos (by omega), if_pos he]
            · rw [if_neg (by omega), if_neg he]

theorem Tr.get_set {α : Type} (t : Tr α) (k : Nat) (x : Option α) (j : Nat) : (t.set k x).get j = if j = k then x else t.get j :=
  Tr.get_ins (k + 1) t k x j (by omega)
end Wab
