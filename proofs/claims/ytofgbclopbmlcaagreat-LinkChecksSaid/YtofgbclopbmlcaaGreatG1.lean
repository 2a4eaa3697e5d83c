/- Part 1 of the proof: Fw1 Fw2 Fw3 Fw4 Fw5. No statement is handed in here; conditions: none. -/
import Derived.Calls
import Derived.Orders
import Derived.Laws.Sem
import Derived.Below
import Derived.Laws.Cells
import Derived.Laws.Rows
/- The words of the evaluator: abstract values, abstract steps of operations, and the evaluator of code. No statement is proved here. -/
namespace Go.Fw
set_option linter.unusedVariables false
set_option linter.unusedSimpArgs false

inductive Ty where
  | int (k : IntKind) | ints (k : IntKind) (n : Nat) | bool | str | sl (t : Ty) | pair (a b : Ty)
  deriving DecidableEq

@[reducible] def Den : Ty → Type
  | .int _ => Int
  | .ints _ _ => List Int
  | .bool => Bool
  | .str => ByteArray
  | .sl t => List (Den t)
  | .pair a b => Den a × Den b

def Ty.size : Ty → Nat
  | .pair a b => a.size + b.size
  | .ints _ n => n
  | _ => 1

def dflt : (t : Ty) → Den t
  | .int _ => (0 : Int)
  | .ints _ n => List.replicate n (0 : Int)
  | .bool => false
  | .str => ByteArray.empty
  | .sl _ => []
  | .pair a b => (dflt a, dflt b)

inductive Cell where
  | imm (v : Value)
  | run (k : IntKind) (n : Nat) (l : List Int)
  | ro (t : Ty) (l : List (Den t))
  | rptr (t : Ty) (l : List (Den t)) (i j : Nat)
  | own (b : Nat)
  | sub (b off len : Nat)
  | srun (b j : Nat)
  | svar (b j n : Nat)
  | ptr (b j : Nat)
  | pel (b i j : Nat)
  | pidx (b j i : Nat)
  | fn (f : FuncId) (caps : List Nat)
  | ifc (t : TypeId) (b : Nat)
  | map (b : Nat)

inductive V1 where
  | c (x : Cell)
  | agg (cs : List Cell)

inductive AV where
  | dead
  | one (v : V1)
  | tup (l : List V1)

inductive Blk where
  | arr (t : Ty) (l : List (Den t))
  | var (cs : List Cell)
  | mp (ka : Bool) (kt vt : Ty) (l : List (Den kt × Den vt))

@[reducible] def AV.imm (v : Value) : AV := .one (.c (.imm v))
@[reducible] def AV.cell (x : Cell) : AV := .one (.c x)
@[reducible] def AV.agg (cs : List Cell) : AV := .one (.agg cs)
@[reducible] def iv (k : IntKind) (n : Int) : Cell := .imm (.int k n)
@[reducible] def bv (b : Bool) : Cell := .imm (.bool b)

structure St where
  tmps : List AV
  heap : List (Option Blk)

inductive TD where
  | int (k : IntKind) | bool | str | slice (e : TypeId) | struct (fs : List (TypeId × Nat)) | array (n : Nat) (e : TypeId) | ptr (e : TypeId) | iface | map (k e : TypeId) | other

structure TI where
  desc : TD
  size : Nat
  bytes : Nat
  zero : List Cell
  ety : Option Ty
  cmp : Bool := false

def TI.isAgg (t : TI) : Bool := match t.desc with | .struct _ => true | .array _ _ => true | _ => false

structure Res where
  pre : Option Prop
  val : AV
  add : List Blk
  set : List (Nat × Option Blk)

structure CSpec where
  wr : Bool
  run : List V1 → List Blk → Option (Option Prop × AV × List (Option Blk) × List Blk)

structure Tab where
  ty : TypeId → Option TI
  fn : FuncId → Option CSpec
  meth : TypeId → String → Option FuncId

-- cells

def Cell.size : Cell → Nat
  | .run _ n _ => n
  | _ => 1

def V1.items : V1 → List Cell
  | .c x => [x]
  | .agg cs => cs

def itemAt : List Cell → Nat → Option Cell
  | [], _ => none
  | c :: cs, off => match Nat.beq off 0 with
    | true => some c
    | false => match Nat.ble c.size off with
      | true => itemAt cs (off - c.size)
      | false => none

def takeItems : List Cell → Nat → Option (List Cell)
  | [], n => match Nat.beq n 0 with | true => some [] | false => none
  | c :: cs, n => match Nat.beq n 0 with
    | true => some []
    | false => match Nat.ble c.size n with
      | true => match takeItems cs (n - c.size) with
        | some r => some (c :: r)
        | none => none
      | false => none

def partItems : List Cell → Nat → Nat → Option (List Cell)
  | cs, off, n => match Nat.beq off 0 with
    | true => takeItems cs n
    | false => match cs with
      | [] => none
      | c :: cs => match Nat.ble c.size off with
        | true => partItems cs (off - c.size) n
        | false => none

/-- put one item in the place of one of its size -/
def setItem : List Cell → Nat → Cell → Option (List Cell)
  | [], _, _ => none
  | c :: cs, off, x => match Nat.beq off 0 with
    | true => match Nat.beq c.size x.size with
      | true => some (x :: cs)
      | false => none
    | false => match Nat.ble c.size off with
      | true => match setItem cs (off - c.size) x with
        | some r => some (c :: r)
        | none => none
      | false => none

def setItems : List Cell → Nat → List Cell → Option (List Cell)
  | cs, _, [] => some cs
  | cs, off, x :: xs => match setItem cs off x with
    | some r => setItems r (off + x.size) xs
    | none => none

def cells : (t : Ty) → Den t → List Cell
  | .int k, x => [iv k x]
  | .ints k n, l => [.run k n l]
  | .bool, b => [bv b]
  | .str, s => [.imm (.string s)]
  | .sl t, l => [.ro t l]
  | .pair a b, x => cells a x.1 ++ cells b x.2

def eqTy : (a b : Ty) → Option (PLift (a = b)) := fun a b => if h : a = b then some ⟨h⟩ else none

/-- a slice as pure data: what a contract that only reads is handed -/
def sliceOf (look : Nat → Option Blk) : Cell → Option ((t : Ty) × List (Den t))
  | .ro t l => some ⟨t, l⟩
  | .own b => match look b with | some (.arr t l) => some ⟨t, l⟩ | _ => none
  | .sub b off len => match look b with | some (.arr t l) => some ⟨t, (l.drop off).take len⟩ | _ => none
  | .srun b j => match look b with
    | some (.var cs) => match itemAt cs j with | some (.run k _ l) => some ⟨.int k, l⟩ | _ => none
    | _ => none
  | _ => none

def castL {t u : Ty} (h : t = u) (l : List (Den t)) : List (Den u) := h ▸ l

def slAs (look : Nat → Option Blk) (t : Ty) (c : Cell) : Option (List (Den t)) :=
  match c with
  | .imm (.slice none 0 0) => some []
  | c => match sliceOf look c with
    | some ⟨u, l⟩ => match eqTy u t with
      | some h => some (castL h.down l)
      | none => none
    | none => none

/-- the blocks that become data -/
def frzN : Cell → List Nat
  | .own b => [b]
  | .sub b _ _ => [b]
  | .srun b _ => [b]
  | _ => []

/-- cells as data of a type; the blocks that go into it -/
def dec (look : Nat → Option Blk) : (t : Ty) → List Cell → Option (Den t × List Nat × List Cell)
  | .int k, cs => match cs with
    | .imm (.int k' x) :: r => match decide (k' = k) with | true => some (x, [], r) | false => none
    | _ => none
  | .ints k n, cs => match cs with
    | .run k' n' l :: r => match decide (k' = k) && Nat.beq n' n with | true => some (l, [], r) | false => none
    | _ => none
  | .bool, cs => match cs with
    | .imm (.bool b) :: r => some (b, [], r)
    | _ => none
  | .str, cs => match cs with
    | .imm (.string s) :: r => some (s, [], r)
    | _ => none
  | .sl t, cs => match cs with
    | c :: r => match slAs look t c with
      | some l => some (l, frzN c, r)
      | none => none
    | [] => none
  | .pair a b, cs => match dec look a cs with
    | some (x, u, r) => match dec look b r with
      | some (y, u', r') => some ((x, y), u ++ u', r')
      | none => none
    | none => none

def decAll (look : Nat → Option Blk) (t : Ty) (cs : List Cell) : Option (Den t × List Nat) :=
  match dec look t cs with
  | some (x, u, []) => some (x, u)
  | _ => none

def constV : Value → AV
  | .agg cs => match cs.toList.all (·.oneCell') with | true => .agg (cs.toList.map .imm) | false => .dead
  | .tuple _ => .dead
  | v => .imm v

def byteAt (s : ByteArray) (i : Nat) : Int := ((s.data.toList.getD i 0).toNat : Int)
def strOf (l : List Int) : ByteArray := ⟨(l.map fun n => UInt8.ofNat n.toNat).toArray⟩
def bytesOf (s : ByteArray) : List Int := s.data.toList.map fun b => (b.toNat : Int)

/-- what copy leaves -/
def over {α : Type} : List α → List α → Nat → List α
  | [], _, _ => []
  | d :: ds, src, i => src.getD i d :: over ds src (i + 1)

def ok1 (v : AV) : Option Res := some { pre := none, val := v, add := [], set := [] }
def okP (p : Prop) (v : AV) : Option Res := some { pre := some p, val := v, add := [], set := [] }

def land (k : IntKind) (x y : Int) : Int := k.wrap (BitVec.ofInt k.bits x &&& BitVec.ofInt k.bits y).toNat
def lor (k : IntKind) (x y : Int) : Int := k.wrap (BitVec.ofInt k.bits x ||| BitVec.ofInt k.bits y).toNat
def lxor (k : IntKind) (x y : Int) : Int := k.wrap (BitVec.ofInt k.bits x ^^^ BitVec.ofInt k.bits y).toNat
def landNot (k : IntKind) (x y : Int) : Int := k.wrap (BitVec.ofInt k.bits x &&& ~~~(BitVec.ofInt k.bits y)).toNat
def shl (k : IntKind) (x y : Int) : Int := k.wrap (x * 2 ^ (min y.toNat k.bits))
def shr (k : IntKind) (x y : Int) : Int := x.fdiv (2 ^ (min y.toNat k.bits))

/-- operators on two whole numbers of one kind -/
def intOp (op : BinOp) (k : IntKind) (x y : Int) : Option Res :=
  match op with
  | .add => ok1 (.cell (iv k (k.wrap (x + y))))
  | .sub => ok1 (.cell (iv k (k.wrap (x - y))))
  | .mul => ok1 (.cell (iv k (k.wrap (x * y))))
  | .quo => okP (y ≠ 0) (.cell (iv k (k.wrap (x.tdiv y))))
  | .rem => okP (y ≠ 0) (.cell (iv k (x.tmod y)))
  | .and => ok1 (.cell (iv k (land k x y)))
  | .or => ok1 (.cell (iv k (lor k x y)))
  | .xor => ok1 (.cell (iv k (lxor k x y)))
  | .andNot => ok1 (.cell (iv k (landNot k x y)))
  | .eql => ok1 (.cell (bv (x == y)))
  | .neq => ok1 (.cell (bv (x != y)))
  | .lss => ok1 (.cell (bv (decide (x < y))))
  | .leq => ok1 (.cell (bv (decide (x ≤ y))))
  | .gtr => ok1 (.cell (bv (decide (x > y))))
  | .geq => ok1 (.cell (bv (decide (x ≥ y))))
  | _ => none

def strEq (s t : ByteArray) : Bool := s.toList == t.toList

def kindEq : IntKind → IntKind → Bool := fun a b => decide (a = b)

def unA (op : UnOp) (a : AV) : Option Res :=
  match op, a with
  | .neg, .one (.c (.imm (.int k x))) => ok1 (.cell (iv k (k.wrap (0 - x))))
  | .xor, .one (.c (.imm (.int k x))) => ok1 (.cell (iv k (lxor k (if k.signed then -1 else k.max) x)))
  | .not, .one (.c (.imm (.bool b))) => ok1 (.cell (bv (!b)))
  | _, _ => none

end Go.Fw

/- The abstract step of each operation, and the evaluator of code. No statement is proved here. -/
namespace Go.Fw
set_option linter.unusedVariables false
set_option linter.unusedSimpArgs false

section
variable (T : Tab) (ev : Operand → AV) (look : Nat → Option Blk) (nm : Nat)

def etyOf (t : TypeId) : Option (Ty × Nat) :=
  match T.ty t with
  | some { desc := .slice e, .. } => match T.ty e with
    | some ti => match ti.ety with
      | some u => some (u, ti.bytes)
      | none => none
    | none => none
  | _ => none

def asInt? : AV → Option Int
  | .one (.c (.imm (.int _ n))) => some n
  | _ => none

/-- load a variable of a type from an address -/
def loadA (t : TypeId) (a : AV) : Option Res :=
  match T.ty t with
  | none => none
  | some ti =>
    match a with
    | .one (.c (.ptr b j)) => match look b with
      | some (.var cs) => match ti.isAgg with
        | true => match partItems cs j ti.size with
          | some r => ok1 (.agg r)
          | none => none
        | false => match itemAt cs j with
          | some (.run _ _ _) => none
          | some c => ok1 (.cell c)
          | none => none
      | _ => none
    | .one (.c (.pidx b j i)) => match look b with
      | some (.var cs) => match ti.isAgg with
        | true => none
        | false => match itemAt cs j with
          | some (.run k n l) => okP (i < n) (.cell (iv k (l.getD i 0)))
          | _ => none
      | _ => none
    | .one (.c (.pel b i j)) => match look b with
      | some (.arr u l) => match ti.isAgg with
        | true => match partItems (cells u (l.getD i (dflt u))) j ti.size with
          | some r => okP (i < l.length) (.agg r)
          | none => none
        | false => match itemAt (cells u (l.getD i (dflt u))) j with
          | some (.run _ _ _) => none
          | some c => okP (i < l.length) (.cell c)
          | none => none
      | _ => none
    | .one (.c (.rptr u l i j)) => match ti.isAgg with
      | true => match partItems (cells u (l.getD i (dflt u))) j ti.size with
        | some r => ok1 (.agg r)
        | none => none
      | false => match itemAt (cells u (l.getD i (dflt u))) j with
        | some (.run _ _ _) => none
        | some c => ok1 (.cell c)
        | none => none
    | _ => none

/-- store items at an address -/
def storeA (t : TypeId) (a : AV) (x : AV) : Option Res :=
  match T.ty t with
  | none => none
  | some ti =>
    match x with
    | .one v => match Nat.beq (v.items.foldl (fun n c => n + c.size) 0) ti.size && Nat.blt 0 ti.size with
      | false => none
      | true =>
      match a with
      | .one (.c (.ptr b j)) => match look b with
        | some (.var cs) => match setItems cs j v.items with
          | some cs' => some { pre := none, val := .dead, add := [], set := [(b, some (.var cs'))] }
          | none => none
        | _ => none
      | .one (.c (.pidx b j i)) => match look b with
        | some (.var cs) => match itemAt cs j, v with
          | some (.run k n l), .c (.imm (.int k' y)) => match kindEq k' k with
            | true => match setItem cs j (.run k n (l.set i y)) with
              | some cs' => some { pre := some (i < n), val := .dead, add := [], set := [(b, some (.var cs'))] }
              | none => none
            | false => none
          | _, _ => none
        | _ => none
      | .one (.c (.pel b i j)) => match look b with
        | some (.arr u l) => match setItems (cells u (l.getD i (dflt u))) j v.items with
          | some cs' => match decAll look u cs' with
            | some (d, us) => match us.contains b with
              | true => none
              | false => some { pre := some (i < l.length), val := .dead, add := [], set := us.map (fun n => (n, none)) ++ [(b, some (.arr u (l.set i d)))] }
            | none => none
          | none => none
        | _ => none
      | _ => none
    | _ => none

def fieldAddrA (s : TypeId) (a : AV) (f : Nat) : Option Res :=
  match T.ty s with
  | some { desc := .struct fs, .. } => match fs[f]? with
    | some (u, o) => match T.ty u with
      | some ti => match Nat.blt 0 ti.size with
        | true => match a with
          | .one (.c (.ptr b j)) => match look b with
            | some (.var _) => ok1 (.cell (.ptr b (j + o)))
            | _ => none
          | .one (.c (.pel b i j)) => match look b with
            | some (.arr _ l) => okP (i < l.length) (.cell (.pel b i (j + o)))
            | _ => none
          | .one (.c (.rptr u l i j)) => ok1 (.cell (.rptr u l i (j + o)))
          | _ => none
        | false => none
      | none => none
    | none => none
  | _ => none

def indexAddrA (t : TypeId) (x i : AV) : Option Res :=
  match i with
  | .one (.c (.imm (.int k n))) => match T.ty t with
    | some { desc := .slice e, .. } => match x with
      | .one (.c (.ro u l)) => match T.ty e with
        | some ti => match Nat.beq ti.size u.size with
          | true => okP (0 ≤ n ∧ n < l.length) (.cell (.rptr u l n.toNat 0))
          | false => none
        | none => none
      | .one (.c (.own b)) => match look b, T.ty e with
        | some (.arr u l), some ti => match Nat.beq ti.size u.size with
          | true => okP (0 ≤ n ∧ n < l.length) (.cell (.pel b n.toNat 0))
          | false => none
        | _, _ => none
      | .one (.c (.sub b off len)) => match look b, T.ty e with
        | some (.arr u l), some ti => match Nat.beq ti.size u.size with
          | true => okP (0 ≤ n ∧ n < len) (.cell (.pel b (off + n.toNat) 0))
          | false => none
        | _, _ => none
      | .one (.c (.svar b j m)) => match look b, T.ty e with
        | some (.var _), some ti => match Nat.beq ti.size 1 with
          | true => okP (0 ≤ n ∧ n < m) (.cell (.ptr b (j + n.toNat)))
          | false => none
        | _, _ => none
      | _ => none
    | some { desc := .array m e, .. } => match x, T.ty e with
      | .one (.c (.ptr b j)), some ti => match look b with
        | some (.var _) => match Nat.beq ti.size 1 with
          | true => okP (0 ≤ n ∧ n < m) (.cell (.pidx b j n.toNat))
          | false => none
        | _ => none
      | _, _ => none
    | _ => none
  | _ => none

def indexA (t : TypeId) (x i : AV) : Option Res :=
  match i with
  | .one (.c (.imm (.int k n))) => match T.ty t, x with
    | some { desc := .array m e, .. }, .one (.agg [.run k' m' l]) => match T.ty e with
      | some ti => match Nat.beq ti.size 1 && Nat.beq m m' && !ti.isAgg with
        | true => okP (0 ≤ n ∧ n < m) (.cell (iv k' (l.getD n.toNat 0)))
        | false => none
      | none => none
    | some { desc := .str, .. }, .one (.c (.imm (.string s))) => okP (0 ≤ n ∧ n < s.size) (.cell (iv .u8 (byteAt s n.toNat)))
    | _, _ => none
  | _ => none

def fieldA (t : TypeId) (x : AV) (f : Nat) : Option Res :=
  match T.ty t with
  | some { desc := .struct fs, .. } => match fs[f]? with
    | some (u, o) => match T.ty u, x with
      | some ti, .one (.agg cs) => match ti.isAgg with
        | true => match partItems cs o ti.size with
          | some r => ok1 (.agg r)
          | none => none
        | false => match itemAt cs o with
          | some (.run _ _ _) => none
          | some c => ok1 (.cell c)
          | none => none
      | _, _ => none
    | none => none
  | _ => none

/-- struct values; arrays of whole numbers -/
def fillA (fs : List (TypeId × Nat)) : List (Nat × AV) → List Cell → Option (List Cell)
  | [], cs => some cs
  | (i, .one v) :: r, cs => match fs[i]? with
    | some (t, o) => match T.ty t with
      | some ti => match Nat.beq (v.items.foldl (fun n c => n + c.size) 0) ti.size && Nat.blt 0 ti.size with
        | true => match setItems cs o v.items with
          | some cs' => fillA fs r cs'
          | none => none
        | false => none
      | none => none
    | none => none
  | _, _ => none

def asIntK : AV → Option (IntKind × Int)
  | .one (.c (.imm (.int k n))) => some (k, n)
  | _ => none

def fillRun (k : IntKind) (n : Nat) : List (Nat × AV) → List Int → Option (List Int)
  | [], l => some l
  | (i, a) :: r, l => match asIntK a with
    | some (k', x) => match kindEq k' k && Nat.blt i n with
      | true => fillRun k n r (l.set i x)
      | false => none
    | none => none

def buildA (t : TypeId) (ps : List (Nat × AV)) : Option Res :=
  match T.ty t with
  | some { desc := .struct fs, zero := z, .. } => match fillA T fs ps z with
    | some cs => ok1 (.agg cs)
    | none => none
  | some { desc := .array _ e, zero := [.run k n l], .. } => match T.ty e with
    | some ti => match Nat.beq ti.size 1 with
      | true => match fillRun k n ps l with
        | some l' => ok1 (.agg [.run k n l'])
        | none => none
      | false => none
    | none => none
  | _ => none

/-- the elements of a slice literal, none left out -/
def elemsA (u : Ty) : Nat → List (Nat × AV) → Option (List (Den u) × List Nat)
  | _, [] => some ([], [])
  | i, (j, .one v) :: r => match Nat.beq i j with
    | true => match decAll look u v.items with
      | some (d, us) => match elemsA u (i + 1) r with
        | some (ds, us') => some (d :: ds, us ++ us')
        | none => none
      | none => none
    | false => none
  | _, _ => none

/-- parts of slices as elements: they stay parts -/
def subsA : Nat → List (Nat × AV) → Option (List Cell)
  | _, [] => some []
  | i, (j, .one (.c (.sub b o l))) :: r => match Nat.beq i j with
    | true => match subsA (i + 1) r with
      | some cs => some (.sub b o l :: cs)
      | none => none
    | false => none
  | _, _ => none
def subsOf : Ty → List (Nat × AV) → Option (List Cell)
  | .sl _, p :: ps => subsA 0 (p :: ps)
  | _, _ => none

/-- pointers as elements -/
def ptrsA : Nat → List (Nat × AV) → Option (List Cell)
  | _, [] => some []
  | i, (j, .one (.c (.ptr b o))) :: r => match Nat.beq i j with
    | true => match ptrsA (i + 1) r with
      | some cs => some (.ptr b o :: cs)
      | none => none
    | false => none
  | _, _ => none
def ptrSliceA (t : TypeId) (n : Nat) (ps : List (Nat × AV)) : Option Res :=
  match T.ty t with
  | some { desc := .slice e, .. } => match T.ty e with
    | some { desc := .ptr _, size := sz, .. } => match Nat.beq sz 1 && Nat.beq n ps.length && Nat.blt n 16777216 && Nat.blt 0 n with
      | true => match ptrsA 0 ps with
        | some cs => some { pre := none, val := .cell (.svar nm 0 n), add := [.var cs], set := [] }
        | none => none
      | false => none
    | _ => none
  | _ => none
def buildSliceA (t : TypeId) (n : Nat) (ps : List (Nat × AV)) : Option Res :=
  match etyOf T t with
  | some (u, _) => match Nat.beq n ps.length && Nat.blt (n * u.size) 16777216 && Nat.blt 0 u.size with
    | true => match subsOf u ps with
      | some cs => some { pre := none, val := .cell (.svar nm 0 n), add := [.var cs], set := [] }
      | none => match elemsA look u 0 ps with
      | some (ds, us) => some { pre := none, val := .cell (.own nm), add := [.arr u ds], set := us.map (fun n => (n, none)) }
      | none => none
    | false => none
  | none => ptrSliceA T nm t n ps

def makeSliceA (t : TypeId) (l c : AV) : Option Res :=
  match etyOf T t, l, c with
  | some (u, by_), .one (.c (.imm (.int .i64 n))), .one (.c (.imm (.int .i64 m))) =>
    some { pre := some (n = m ∧ 0 ≤ n ∧ n * by_ ≤ 281474976710656 ∧ n ≤ 281474976710656), val := .cell (.own nm), add := [.arr u (List.replicate n.toNat (dflt u))], set := [] }
  | _, _, _ => none

/-- bounds of a slice expression: low and high as numbers, with what they owe -/
def boundsA (len : Nat) (lo hi : Option AV) : Option (Prop × Nat × Nat) :=
  match lo, hi with
  | none, none => some (True, 0, len)
  | some (.one (.c (.imm (.int _ a)))), none => some (0 ≤ a ∧ a ≤ len, a.toNat, len)
  | none, some (.one (.c (.imm (.int _ b)))) => some (0 ≤ b ∧ b ≤ len, 0, b.toNat)
  | some (.one (.c (.imm (.int _ a)))), some (.one (.c (.imm (.int _ b)))) => some (0 ≤ a ∧ a ≤ b ∧ b ≤ len, a.toNat, b.toNat)
  | _, _ => none

def sliceA (t : TypeId) (x : AV) (lo hi mx : Option AV) : Option Res :=
  match mx with
  | some _ => none
  | none => match T.ty t, x with
    | some { desc := .str, .. }, .one (.c (.imm (.string s))) => match boundsA s.size lo hi with
      | some (p, a, b) => okP p (.cell (.imm (.string (s.extract a b))))
      | none => none
    | some { desc := .slice e, .. }, .one (.c (.ro u l)) => match boundsA l.length lo hi, T.ty e with
      | some (p, a, b), some ti => match Nat.beq ti.size u.size with
        | true => okP p (.cell (.ro u ((l.take b).drop a)))
        | false => none
      | _, _ => none
    | some { desc := .slice e, .. }, .one (.c (.own b)) => match look b, T.ty e with
      | some (.arr u l), some ti => match Nat.beq ti.size u.size with
        | true => match lo, hi with
          | none, none => ok1 (.cell (.own b))
          | lo, hi => match boundsA l.length lo hi with
            | some (p, a, c) => okP p (.cell (.sub b a (c - a)))
            | none => none
        | false => none
      | _, _ => none
    | some { desc := .slice e, .. }, .one (.c (.sub b off len)) => match look b, T.ty e with
      | some (.arr u l), some ti => match Nat.beq ti.size u.size with
        | true => match boundsA len lo hi with
          | some (p, a, c) => okP p (.cell (.sub b (off + a) (c - a)))
          | none => none
        | false => none
      | _, _ => none
    | some { desc := .slice e, .. }, .one (.c (.imm (.slice none 0 0))) => match boundsA 0 lo hi, T.ty e with
      | some (p, _, _), some _ => okP p (.cell (.imm (.slice none 0 0)))
      | _, _ => none
    | some { desc := .array m e, .. }, .one (.c (.ptr b j)) => match look b, lo, hi, T.ty e with
      | some (.var cs), none, none, some ti => match itemAt cs j with
        | some (.run _ n _) => match Nat.beq n m && Nat.beq ti.size 1 && Nat.blt 0 n with
          | true => ok1 (.cell (.srun b j))
          | false => none
        | _ => none
      | _, _, _, _ => none
    | _, _ => none

def lenA (t : TypeId) (x : AV) : Option Int :=
  match T.ty t with
  | some { desc := .str, .. } => match x with
    | .one (.c (.imm (.string s))) => some s.size
    | _ => none
  | some { desc := .slice _, .. } => match x with
    | .one (.c (.imm (.slice none 0 0))) => some 0
    | .one (.c (.svar b _ n)) => match look b with
      | some (.var _) => some (n : Int)
      | _ => none
    | .one (.c c) => match sliceOf look c with
      | some ⟨_, l⟩ => some l.length
      | none => none
    | _ => none
  | _ => none

/-- Go's max and min of two -/
def imax (x y : Int) : Int := if y > x then y else x
def imin (x y : Int) : Int := if y < x then y else x
def maxI (k : IntKind) : Int → List AV → Option AV
  | x, [] => some (.cell (iv k x))
  | x, a :: r => match asInt? a with
    | some y => maxI k (imax x y) r
    | none => none
def minI (k : IntKind) : Int → List AV → Option AV
  | x, [] => some (.cell (iv k x))
  | x, a :: r => match asInt? a with
    | some y => minI k (imin x y) r
    | none => none
def maxA : List AV → Option AV
  | .one (.c (.imm (.int k x))) :: r => maxI k x r
  | _ => none
def minA : List AV → Option AV
  | .one (.c (.imm (.int k x))) :: r => minI k x r
  | _ => none

/-- what append and copy take, as data of a type -/
def srcA (u : Ty) (x : AV) : Option (List (Den u)) :=
  match x with
  | .one (.c (.imm (.string s))) => match eqTy (.int .u8) u with
    | some h => some (castL h.down (bytesOf s))
    | none => none
  | .one (.c c) => slAs look u c
  | _ => none

/-- may a value of a type be appended or copied: no whole number (that is the form of make) -/
def isSrc (t : TypeId) : Bool := match T.ty t with | some { desc := .slice _, .. } => true | some { desc := .str, .. } => true | _ => false

def appendA (t t' : TypeId) (s x : AV) : Option Res :=
  match etyOf T t with
  | some (u, by_) => match isSrc T t' && Nat.blt 0 by_ with
    | false => none
    | true => match srcA look u x with
    | some l' => match s with
      | .one (.c (.imm (.slice none 0 0))) =>
        some { pre := some (l'.length * by_ ≤ 140737488355328), val := .cell (.own nm), add := [.arr u l'], set := [] }
      | .one (.c (.own b)) => match look b with
        | some (.arr u' l) => match eqTy u' u with
          | some h => some { pre := some ((l.length + l'.length) * by_ ≤ 140737488355328), val := .cell (.own nm), add := [.arr u (castL h.down l ++ l')], set := [(b, none)] }
          | none => none
        | _ => none
      | _ => none
    | none => none
  | none => none

def copyA (t : TypeId) (s x : AV) : Option Res :=
  match etyOf T t with
  | some (u, _) => match srcA look u x with
    | some l' => match s with
      | .one (.c (.imm (.slice none 0 0))) => ok1 (.cell (iv .i64 0))
      | .one (.c (.own b)) => match look b with
        | some (.arr u' l) => match eqTy u u' with
          | some h => some { pre := none, val := .cell (iv .i64 (min l'.length l.length : Nat)), add := [], set := [(b, some (.arr u' (over l (castL h.down l') 0)))] }
          | none => none
        | _ => none
      | .one (.c (.sub b off len)) => match look b with
        | some (.arr u' l) => match eqTy u u' with
          | some h => some { pre := none, val := .cell (iv .i64 (min l'.length len : Nat)), add := [],
                             set := [(b, some (.arr u' (l.take off ++ over ((l.drop off).take len) (castL h.down l') 0 ++ l.drop (off + len))))] }
          | none => none
        | _ => none
      | _ => none
    | none => none
  | none => none

def builtinA (b : Builtin) (tys : List TypeId) (args : List AV) : Option Res :=
  match b, args, tys with
  | .len, [x], t :: _ => match lenA T look t x with | some n => ok1 (.cell (iv .i64 n)) | none => none
  | .max, args, _ => match maxA args with | some v => ok1 v | none => none
  | .min, args, _ => match minA args with | some v => ok1 v | none => none
  | .append, [s, x], [t, t'] => appendA T look nm t t' s x
  | .copy, [s, x], t :: _ => copyA T look t s x
  | _, _, _ => none

/-- two data of a type, without slices, compared -/
def denEq : (u : Ty) → Den u → Den u → Bool
  | .int _, x, y => decide ((x : Int) = y)
  | .ints _ _, x, y => decide ((x : List Int) = y)
  | .bool, x, y => (x : Bool) == y
  | .str, x, y => strEq x y
  | .sl _, _, _ => false
  | .pair a b, x, y => denEq a x.1 y.1 && denEq b x.2 y.2

def binA (t : TypeId) (op : BinOp) (a b : AV) : Option Res :=
  match a, b with
  | .one (.c (.imm (.int k x))), .one (.c (.imm (.int k' y))) =>
    match op with
    | .shl => okP (0 ≤ y) (.cell (iv k (shl k x y)))
    | .shr => okP (0 ≤ y) (.cell (iv k (shr k x y)))
    | op => match kindEq k k' with
      | true => intOp op k x y
      | false => none
  | .one (.c (.imm (.string s))), .one (.c (.imm (.string t))) =>
    match op with
    | .eql => ok1 (.cell (bv (strEq s t)))
    | .neq => ok1 (.cell (bv (!strEq s t)))
    | .add => some { pre := some (s.size + t.size < 4611686018427387904), val := .cell (.imm (.string (s ++ t))), add := [], set := [] }
    | _ => none
  | .one (.c (.imm (.bool s))), .one (.c (.imm (.bool u))) =>
    match T.ty t with
    | some { desc := .bool, .. } => match op with
      | .eql => ok1 (.cell (bv (s == u)))
      | .neq => ok1 (.cell (bv (!(s == u))))
      | _ => none
    | _ => none
  | .one (.agg xs), .one (.agg ys) =>
    match T.ty t with
    | some ti => match ti.cmp, ti.ety with
      | true, some u => match decAll (fun _ => none) u xs, decAll (fun _ => none) u ys with
        | some (x, _), some (y, _) => match op with
          | .eql => ok1 (.cell (bv (denEq u x y)))
          | .neq => ok1 (.cell (bv (!denEq u x y)))
          | _ => none
        | _, _ => none
      | _, _ => none
    | none => none
  | _, _ => none

-- maps

def Ty.flat : Ty → Bool
  | .sl _ => false
  | .pair a b => a.flat && b.flat
  | _ => true

def scalarTy : Ty → Bool
  | .int _ => true
  | .bool => true
  | .str => true
  | _ => false
def keyFlat : Ty → Bool
  | .ints _ _ => false
  | .sl _ => false
  | .pair a b => keyFlat a && keyFlat b
  | _ => true
/-- may values of a type be a map's keys here -/
def keyTI (ti : TI) (kt : Ty) : Bool := match ti.desc, kt with
  | .int k, .int k' => decide (k' = k)
  | .bool, .bool => true
  | .str, .str => true
  | .struct _, _ => ti.cmp
  | _, _ => false
def mapInfo (t : TypeId) : Option (Bool × Ty × Ty) := match T.ty t with
  | some { desc := .map k e, .. } => match T.ty k, T.ty e with
    | some ki, some ei => match ki.ety, ei.ety with
      | some kt, some vt => match keyTI ki kt && keyFlat kt && scalarTy vt && !ei.isAgg with
        | true => some (ki.isAgg, kt, vt)
        | false => none
      | _, _ => none
    | _, _ => none
  | _ => none
def isInfo (t : TypeId) (ka : Bool) (kt vt : Ty) : Bool := match mapInfo T t with
  | some (ka', kt', vt') => decide (ka' = ka) && decide (kt' = kt) && decide (vt' = vt)
  | none => false
def decKey (ka : Bool) (kt : Ty) (x : AV) : Option (Den kt) := match ka, x with
  | false, .one (.c c) => match decAll (fun _ => none) kt [c] with
    | some (d, _) => some d
    | none => none
  | true, .one (.agg cs) => match decAll (fun _ => none) kt cs with
    | some (d, _) => some d
    | none => none
  | _, _ => none
def mapGet {kt vt : Ty} : List (Den kt × Den vt) → Den kt → Option (Den vt)
  | [], _ => none
  | p :: r, k => match denEq kt k p.1 with | true => some p.2 | false => mapGet r k
def mapPut {kt vt : Ty} : List (Den kt × Den vt) → Den kt → Den vt → List (Den kt × Den vt)
  | [], k, v => [(k, v)]
  | p :: r, k, v => match denEq kt k p.1 with | true => (k, v) :: r | false => p :: mapPut r k v
def mapPutA (t : TypeId) (m k x : AV) : Option Res := match m with
  | .one (.c (.map b)) => match look b with
    | some (.mp ka kt vt l) => match isInfo T t ka kt vt with
      | true => match decKey ka kt k, decKey false vt x with
        | some d, some v => some { pre := none, val := .dead, add := [], set := [(b, some (.mp ka kt vt (mapPut l d v)))] }
        | _, _ => none
      | false => none
    | _ => none
  | _ => none
def isSomeB {α : Type} : Option α → Bool
  | some _ => true
  | none => false
def getOr {α : Type} : Option α → α → α
  | some x, _ => x
  | none, d => d
def lookupA (t : TypeId) (m k : AV) (ok : Bool) : Option Res := match m with
  | .one (.c (.map b)) => match look b with
    | some (.mp ka kt vt l) => match isInfo T t ka kt vt with
      | true => match decKey ka kt k with
        | some d => match cells vt (getOr (mapGet l d) (dflt vt)) with
          | [c] => (match ok with
            | true => ok1 (.tup [.c c, .c (bv (isSomeB (mapGet l d)))])
            | false => ok1 (.cell c))
          | _ => none
        | none => none
      | false => none
    | _ => none
  | _ => none

-- calls: what the callee is handed

def viewC (c : Cell) : Option Cell :=
  match c with
  | .imm v => some (.imm v)
  | .run k n l => some (.run k n l)
  | .fn f [] => some (.fn f [])
  | c => match sliceOf look c with
    | some ⟨t, l⟩ => some (.ro t l)
    | none => none

def mapO {α β : Type} (f : α → Option β) : List α → Option (List β)
  | [] => some []
  | x :: xs => match f x with
    | some y => match mapO f xs with
      | some ys => some (y :: ys)
      | none => none
    | none => none

def viewV : V1 → Option V1
  | .c x => match viewC look x with | some y => some (.c y) | none => none
  | .agg cs => match mapO (viewC look) cs with | some ys => some (.agg ys) | none => none

def findN (b : Nat) : List Nat → Nat → Option Nat
  | [], _ => none
  | x :: xs, i => match Nat.beq x b with | true => some i | false => findN b xs (i + 1)

/-- blocks that a cell names -/
def Cell.names : Cell → List Nat
  | .own b => [b]
  | .sub b _ _ => [b]
  | .srun b _ => [b]
  | .svar b _ _ => [b]
  | .ptr b _ => [b]
  | .pel b _ _ => [b]
  | .pidx b _ _ => [b]
  | .fn _ bs => bs
  | .ifc _ b => [b]
  | .map b => [b]
  | _ => []

def Cell.rn (f : Nat → Nat) : Cell → Cell
  | .own b => .own (f b)
  | .sub b o l => .sub (f b) o l
  | .srun b j => .srun (f b) j
  | .svar b j n => .svar (f b) j n
  | .ptr b j => .ptr (f b) j
  | .pel b i j => .pel (f b) i j
  | .pidx b j i => .pidx (f b) j i
  | .fn g bs => .fn g (bs.map f)
  | .ifc t b => .ifc t (f b)
  | .map b => .map (f b)
  | c => c

def Blk.rn (f : Nat → Nat) : Blk → Blk
  | .arr t l => .arr t l
  | .var cs => .var (cs.map (·.rn f))
  | .mp ka kt vt l => .mp ka kt vt l
def V1.rn (f : Nat → Nat) : V1 → V1
  | .c x => .c (x.rn f)
  | .agg cs => .agg (cs.map (·.rn f))
def AV.rn (f : Nat → Nat) : AV → AV
  | .dead => .dead
  | .one v => .one (v.rn f)
  | .tup l => .tup (l.map (·.rn f))
def V1.names : V1 → List Nat
  | .c x => x.names
  | .agg cs => cs.flatMap (·.names)
def Blk.names : Blk → List Nat
  | .arr _ _ => []
  | .var cs => cs.flatMap (·.names)
  | .mp _ _ _ _ => []

/-- the blocks that are passed: those named, and those that these name -/
def reach : Nat → List Nat → List Nat → Option (List Nat)
  | _, [], acc => some acc
  | 0, _ :: _, _ => none
  | f + 1, b :: bs, acc => match acc.contains b with
    | true => reach f bs acc
    | false => match look b with
      | some blk => reach f (bs ++ blk.names) (acc ++ [b])
      | none => none

def idx (acc : List Nat) (b : Nat) : Nat := match findN b acc 0 with | some i => i | none => acc.length

def Cell.isRo : Cell → Bool
  | .ro _ _ => true
  | .rptr _ _ _ _ => true
  | _ => false
def Blk.plain : Blk → Bool
  | .arr t _ => t.flat
  | .var cs => cs.all fun c => !c.isRo
  | .mp _ _ _ _ => true

def V1.hasRo : V1 → Bool
  | .c x => x.isRo
  | .agg cs => cs.any Cell.isRo
def Cell.isOwn : Cell → Bool
  | .own _ => true
  | .sub _ _ _ => true
  | .srun _ _ => true
  | .svar _ _ _ => true
  | _ => false
def V1.hasOwn : V1 → Bool
  | .c x => x.isOwn
  | .agg cs => cs.any Cell.isOwn
def AV.hasRo : AV → Bool
  | .one v => v.hasRo
  | .tup l => l.any (·.hasRo)
  | .dead => false

def ones : List AV → Option (List V1)
  | [] => some []
  | .one v :: r => match ones r with | some vs => some (v :: vs) | none => none
  | _ => none

def callSpec (s : CSpec) (args : List V1) : Option Res :=
  match s.wr with
  | false => match mapO (viewV look) args with
    | some vs => match s.run vs [] with
      | some (p, r, [], fresh) => match (r.hasRo || fresh.any (fun b => !b.plain)) && args.any (·.hasOwn) with
        | true => none
        | false => some { pre := p, val := r.rn (fun i => nm + i), add := fresh.map (·.rn (fun i => nm + i)), set := [] }
      | _ => none
    | none => none
  | true => match reach look 100 (args.flatMap (·.names)) [] with
    | some acc => match mapO look acc with
      | some bl => match s.run (args.map (·.rn (idx acc))) (bl.map (·.rn (idx acc))) with
        | some (p, r, upd, fresh) => match Nat.beq upd.length acc.length with
          | true =>
            let back : Nat → Nat := fun i => match acc[i]? with | some b => b | none => nm + (i - acc.length)
            some { pre := p, val := r.rn back, add := fresh.map (·.rn back), set := acc.zip (upd.map fun o => match o with | some b => some (b.rn back) | none => none) }
          | false => none
        | none => none
      | none => none
    | none => none

def callFn (f : FuncId) (args : List AV) : Option Res :=
  match T.fn f with
  | some s => match ones args with
    | some vs => callSpec look nm s vs
    | none => none
  | none => none

def pickA (c a b : AV) : Option Res :=
  match c with
  | .one (.c (.imm (.bool t))) => match a, b with
    | .one (.c (.imm (.bool x))), .one (.c (.imm (.bool y))) => ok1 (.cell (bv (cond t x y)))
    | a, b => match t with
      | true => match a with | .dead => none | a => ok1 a
      | false => match b with | .dead => none | b => ok1 b
  | _ => none

def asPtr0 : AV → Option Nat
  | .one (.c (.ptr b 0)) => some b
  | _ => none

def dstep (o : Oper) : Option Res :=
  match o.op with
  | .move x => match ev x with | .dead => none | v => ok1 v
  | .assign x => match ev x with | .dead => none | v => ok1 v
  | .pick c a b => pickA (ev c) (ev a) (ev b)
  | .alloc t => match T.ty t with
    | some ti => some { pre := none, val := .cell (.ptr nm 0), add := [.var ti.zero], set := [] }
    | none => none
  | .box _ x => match ev x with
    | .one v => some { pre := none, val := .cell (.ptr nm 0), add := [.var v.items], set := [] }
    | _ => none
  | .build t ps => buildA T t (ps.toList.map fun (i, x) => (i, ev x))
  | .buildSlice t n ps => buildSliceA T look nm t n (ps.toList.map fun (i, x) => (i, ev x))
  | .load t a => loadA T look t (ev a)
  | .store t a x => storeA T look t (ev a) (ev x)
  | .nilCheck x => match ev x with
    | .one (.c (.ptr b j)) => match look b with
      | some (.var _) => ok1 (.cell (.ptr b j))
      | _ => none
    | .one (.c (.fn f cs)) => ok1 (.cell (.fn f cs))
    | _ => none
  | .binOp op t x y _ => binA T t op (ev x) (ev y)
  | .unOp op _ x => unA op (ev x)
  | .convert s d x => match T.ty s, T.ty d, ev x with
    | some _, some { desc := .int k, .. }, .one (.c (.imm (.int _ n))) => ok1 (.cell (iv k (k.wrap n)))
    | some _, some { desc := .str, .. }, .one (.c (.imm (.string t))) => ok1 (.cell (.imm (.string t)))
    | some { desc := .slice e, .. }, some { desc := .str, .. }, .one (.c c) => (match T.ty e with
      | some { desc := .int .u8, .. } => (match slAs look (.int .u8) c with
        | some l => ok1 (.cell (.imm (.string (strOf l))))
        | none => none)
      | _ => none)
    | some { desc := .str, .. }, some { desc := .slice e, .. }, .one (.c (.imm (.string t))) => (match T.ty e with
      | some { desc := .int .u8, .. } => ok1 (.cell (.ro (.int .u8) (bytesOf t)))
      | _ => none)
    | _, _, _ => none
  | .makeMap t none => match mapInfo T t with
    | some (ka, kt, vt) => some { pre := none, val := .cell (.map nm), add := [.mp ka kt vt []], set := [] }
    | none => none
  | .mapUpdate t m k x => mapPutA T look t (ev m) (ev k) (ev x)
  | .insert t m k x => mapPutA T look t (ev m) (ev k) (ev x)
  | .lookup t m k ok => lookupA T look t (ev m) (ev k) ok
  | .makeInterface t x => match T.ty t with
    | some { desc := .ptr _, .. } => match asPtr0 (ev x) with
      | some b => ok1 (.cell (.ifc t b))
      | none => none
    | _ => none
  | .makeFunc (.func f) fs cs => match Nat.beq fs.size 0 with
    | true => match mapO (fun x => asPtr0 (ev x)) cs.toList with
      | some bs => ok1 (.cell (.fn f bs))
      | none => none
    | false => none
  | .makeSlice t l c => makeSliceA T nm t (ev l) (ev c)
  | .slice t x lo hi mx => sliceA T look t (ev x) (lo.map ev) (hi.map ev) (mx.map ev)
  | .fieldAddr s x f => fieldAddrA T look s (ev x) f
  | .field t x f => fieldA T t (ev x) f
  | .indexAddr t x i => indexAddrA T look t (ev x) (ev i)
  | .index t x i => indexA T t (ev x) (ev i)
  | .extract t i => match ev t with
    | .tup l => match l[i]? with
      | some v => ok1 (.one v)
      | none => none
    | _ => none
  | .call c => match c.callee with
    | .builtin b => builtinA T look nm b c.argTypes.toList (c.args.toList.map ev)
    | .value f => match ev f with
      | .one (.c (.fn g caps)) => callFn T look nm g (c.args.toList.map ev ++ caps.map fun b => .cell (.ptr b 0))
      | _ => none
    | .invoke r name => match ev r with
      | .one (.c (.ifc t b)) => match T.meth t name with
        | some g => callFn T look nm g (.cell (.ptr b 0) :: c.args.toList.map ev)
        | none => none
      | _ => none
  | _ => none
end

-- states

def St.tmp (s : St) (t : Tmp) : AV := s.tmps.getD t .dead
def St.put (s : St) (d : Option Tmp) (v : AV) : St := match d with | some d => { s with tmps := s.tmps.set d v } | none => s
def St.look (s : St) (b : Nat) : Option Blk := match s.heap[b]? with | some o => o | none => none

def setAt : List (Option Blk) → Nat → Option Blk → List (Option Blk)
  | [], 0, o => [o]
  | [], n + 1, o => none :: setAt [] n o
  | _ :: r, 0, o => o :: r
  | x :: r, n + 1, o => x :: setAt r n o

def setAll (h : List (Option Blk)) : List (Nat × Option Blk) → List (Option Blk)
  | [] => h
  | (b, o) :: r => setAll (setAt h b o) r

def addAll (h : List (Option Blk)) (nm : Nat) : List Blk → List (Option Blk)
  | [] => h
  | x :: r => addAll (setAt h nm (some x)) (nm + 1) r

def St.act (s : St) (nm : Nat) (r : Res) : St := { s with heap := addAll (setAll s.heap r.set) nm r.add }

def St.eval (s : St) : Operand → AV
  | .tmp t => s.tmp t
  | .const v => constV v
  | .func f => .cell (.fn f [])
  | .global _ => .dead

/-- what is owed, then what follows -/
inductive Need (p q : Prop) : Prop where
  | mk : p → q → Need p q
theorem Need.out {p q : Prop} (h : Need p q) : p ∧ q := by cases h; exact ⟨‹_›, ‹_›⟩

def need (p : Option Prop) (q : Prop) : Prop := match p with | none => q | some p => Need p q
def Br (b : Bool) (x y : Prop) : Prop := match b with | true => x | false => y
theorem Br.mk {b : Bool} {x y : Prop} (h1 : b = true → x) (h2 : b = false → y) : Br b x y := by cases b <;> simp_all [Br]

-- values in constructor form, before they are handed on

def lits : List Nat := [0, 1, 2, 3, 4, 5, 6, 7, 8, 9, 10, 11, 12, 13, 14, 15, 16, 17, 18, 19, 20, 21, 22, 23, 24, 25, 26, 27, 28, 29, 30, 31, 32, 33, 34, 35, 36, 37, 38, 39, 40, 41, 42, 43, 44, 45, 46, 47, 48, 49, 50, 51, 52, 53, 54, 55, 56, 57, 58, 59, 60, 61, 62, 63, 64, 65, 66, 67, 68, 69, 70, 71, 72, 73, 74, 75, 76, 77, 78, 79, 80, 81, 82, 83, 84, 85, 86, 87, 88, 89, 90, 91, 92, 93, 94, 95, 96, 97, 98, 99, 100, 101, 102, 103, 104, 105, 106, 107, 108, 109, 110, 111, 112, 113, 114, 115, 116, 117, 118, 119, 120, 121, 122, 123, 124, 125, 126, 127]
def fNat (n : Nat) (k : Nat → Prop) : List Nat → Prop
  | [] => k n
  | l :: ls => match Nat.beq n l with | true => k l | false => fNat n k ls
def fNats : List Nat → (List Nat → Prop) → Prop
  | [], k => k []
  | n :: ns, k => fNat n (fun m => fNats ns fun ms => k (m :: ms)) lits
def fVal : Value → (Value → Prop) → Prop
  | .int t n, k => k (.int t n)
  | .bool b, k => k (.bool b)
  | .string s, k => k (.string s)
  | v, k => k v
def fCell : Cell → (Cell → Prop) → Prop
  | .imm v, k => fVal v fun v => k (.imm v)
  | .run a n l, k => k (.run a n l)
  | .ro t l, k => k (.ro t l)
  | .rptr t l i j, k => fNat j (fun j => k (.rptr t l i j)) lits
  | .own b, k => fNat b (fun b => k (.own b)) lits
  | .sub b o l, k => fNat b (fun b => k (.sub b o l)) lits
  | .srun b j, k => fNat b (fun b => fNat j (fun j => k (.srun b j)) lits) lits
  | .svar b j n, k => fNat b (fun b => fNat j (fun j => fNat n (fun n => k (.svar b j n)) lits) lits) lits
  | .ptr b j, k => fNat b (fun b => fNat j (fun j => k (.ptr b j)) lits) lits
  | .pel b i j, k => fNat b (fun b => fNat j (fun j => k (.pel b i j)) lits) lits
  | .pidx b j i, k => fNat b (fun b => fNat j (fun j => k (.pidx b j i)) lits) lits
  | .fn f bs, k => fNats bs fun bs => k (.fn f bs)
  | .ifc t b, k => fNat b (fun b => k (.ifc t b)) lits
  | .map b, k => fNat b (fun b => k (.map b)) lits
def fCells : List Cell → (List Cell → Prop) → Prop
  | [], k => k []
  | c :: cs, k => fCell c fun c => fCells cs fun cs => k (c :: cs)
def fV1 : V1 → (V1 → Prop) → Prop
  | .c x, k => fCell x fun x => k (.c x)
  | .agg cs, k => fCells cs fun cs => k (.agg cs)
def fV1s : List V1 → (List V1 → Prop) → Prop
  | [], k => k []
  | c :: cs, k => fV1 c fun c => fV1s cs fun cs => k (c :: cs)
def fAV : AV → (AV → Prop) → Prop
  | .dead, k => k .dead
  | .one v, k => fV1 v fun v => k (.one v)
  | .tup l, k => fV1s l fun l => k (.tup l)
def fBlk : Blk → (Blk → Prop) → Prop
  | .arr t l, k => k (.arr t l)
  | .var cs, k => fCells cs fun cs => k (.var cs)
  | .mp ka kt vt l, k => k (.mp ka kt vt l)
def fOB : Option Blk → (Option Blk → Prop) → Prop
  | none, k => k none
  | some b, k => fBlk b fun b => k (some b)
def fBlks : List Blk → (List Blk → Prop) → Prop
  | [], k => k []
  | c :: cs, k => fBlk c fun c => fBlks cs fun cs => k (c :: cs)
def fSets : List (Nat × Option Blk) → (List (Nat × Option Blk) → Prop) → Prop
  | [], k => k []
  | c :: cs, k => fNat c.1 (fun n => fOB c.2 fun o => fSets cs fun cs => k ((n, o) :: cs)) lits
def fL {α : Type} : List α → (List α → Prop) → Prop
  | [], k => k []
  | c :: cs, k => fL cs fun cs => k (c :: cs)
def fRes (r : Res) (k : AV → List Blk → List (Nat × Option Blk) → Prop) : Prop := fAV r.val fun v => fBlks r.add fun add => fSets r.set fun set => k v add set
def fSt (s : St) (k : St → Prop) : Prop := fL s.tmps fun t => fL s.heap fun h => k { tmps := t, heap := h }
/-- a name that no block has -/
def withName {α : Type} : List Nat → List α → Nat → (Nat → Prop) → Prop
  | [], _, d, k => k d
  | n :: _, [], _, k => k n
  | _ :: ns, _ :: h, d, k => withName ns h d k

theorem fNat_eq (n : Nat) (k : Nat → Prop) : ∀ l, fNat n k l = k n
  | [] => rfl
  | l :: ls => by
    unfold fNat
    cases h : Nat.beq n l with
    | true => rw [Nat.eq_of_beq_eq_true h]
    | false => exact fNat_eq n k ls
theorem fNats_eq : ∀ (l : List Nat) (k : List Nat → Prop), fNats l k = k l
  | [], k => rfl
  | n :: ns, k => by unfold fNats; rw [fNat_eq, fNats_eq ns]
theorem fVal_eq (v : Value) (k : Value → Prop) : fVal v k = k v := by cases v <;> rfl
theorem fCell_eq (c : Cell) (k : Cell → Prop) : fCell c k = k c := by
  cases c <;> simp only [fCell, fNat_eq, fVal_eq, fNats_eq]
theorem fCells_eq : ∀ (l : List Cell) (k : List Cell → Prop), fCells l k = k l
  | [], k => rfl
  | n :: ns, k => by unfold fCells; rw [fCell_eq, fCells_eq ns]
theorem fV1_eq (c : V1) (k : V1 → Prop) : fV1 c k = k c := by cases c <;> simp only [fV1, fCell_eq, fCells_eq]
theorem fV1s_eq : ∀ (l : List V1) (k : List V1 → Prop), fV1s l k = k l
  | [], k => rfl
  | n :: ns, k => by unfold fV1s; rw [fV1_eq, fV1s_eq ns]
theorem fAV_eq (c : AV) (k : AV → Prop) : fAV c k = k c := by cases c <;> simp only [fAV, fV1_eq, fV1s_eq]
theorem fBlk_eq (c : Blk) (k : Blk → Prop) : fBlk c k = k c := by cases c <;> simp only [fBlk, fCells_eq]
theorem fOB_eq (c : Option Blk) (k : Option Blk → Prop) : fOB c k = k c := by cases c <;> simp only [fOB, fBlk_eq]
theorem fBlks_eq : ∀ (l : List Blk) (k : List Blk → Prop), fBlks l k = k l
  | [], k => rfl
  | n :: ns, k => by unfold fBlks; rw [fBlk_eq, fBlks_eq ns]
theorem fSets_eq : ∀ (l : List (Nat × Option Blk)) (k : List (Nat × Option Blk) → Prop), fSets l k = k l
  | [], k => rfl
  | n :: ns, k => by unfold fSets; rw [fNat_eq, fOB_eq, fSets_eq ns]
theorem fL_eq {α : Type} : ∀ (l : List α) (k : List α → Prop), fL l k = k l
  | [], k => rfl
  | n :: ns, k => by unfold fL; rw [fL_eq ns]
theorem fRes_eq (r : Res) (k : AV → List Blk → List (Nat × Option Blk) → Prop) : fRes r k = k r.val r.add r.set := by unfold fRes; rw [fAV_eq, fBlks_eq, fSets_eq]
theorem fSt_eq (s : St) (k : St → Prop) : fSt s k = k s := by unfold fSt; rw [fL_eq, fL_eq]
theorem withName_out {α : Type} : ∀ (ns : List Nat) (h : List α) (c d : Nat) (k : Nat → Prop), (∀ (i n : Nat), ns[i]? = some n → c + i ≤ n) → c + h.length ≤ d → withName ns h d k → ∃ nm, c + h.length ≤ nm ∧ k nm
  | [], h, c, d, k, _, h2, h3 => ⟨d, h2, h3⟩
  | n :: ns, [], c, d, k, h1, _, h3 => ⟨n, h1 0 n rfl, h3⟩
  | n :: ns, x :: h, c, d, k, h1, h2, h3 => by
    obtain ⟨nm, h4, h5⟩ := withName_out ns h (c + 1) d k (fun i m hm => by have := h1 (i + 1) m (by simpa using hm); omega) (by simp only [List.length_cons] at h2; omega) h3
    exact ⟨nm, by simp only [List.length_cons]; omega, h5⟩
theorem lits_le (i n : Nat) (h : lits[i]? = some n) : 0 + i ≤ n := by
  have e : lits = List.range 128 := by decide +kernel
  rw [e] at h
  rw [List.getElem?_range] at h
  · injection h with h; omega
  · rcases Nat.lt_or_ge i 128 with h1 | h1
    · exact h1
    · rw [List.getElem?_eq_none (by simpa using h1)] at h; cases h
theorem named {α : Type} {h : List α} {k : Nat → Prop} (hk : withName lits h h.length k) : ∃ nm, h.length ≤ nm ∧ k nm := by
  obtain ⟨nm, h1, h2⟩ := withName_out lits h 0 h.length k lits_le (by omega) hk
  exact ⟨nm, by omega, h2⟩

/-- the guard of an operation: the slot, and what it must hold -/
def guardTmp (ops : Array Oper) (o : Oper) : Option (Option (Tmp × Bool)) :=
  match o.guard with
  | none => some none
  | some (j, want) => match ops[j]? with
    | some oj => match oj.dst with
      | some d => some (some (d, want))
      | none => none
    | none => none

/-- a slice compared with nil: where it is nil, A; where it isn't, B -/
inductive NilG (A X B Y : Prop) : Prop where
  | mk : (A → X) → (B → Y) → NilG A X B Y
def nilTest (T : Tab) (st : St) (o : Oper) : Option (Bool × Prop × Prop) := match o.op with
  | .binOp op t x (.const (.slice none 0 0)) _ => match T.ty t with
    | some ti => match ti.desc, op with
      | .slice _, .eql => match st.eval x with
        | .one (.c (.imm (.slice none 0 0))) => some (true, True, False)
        | .one (.c c) => match sliceOf st.look c with | some ⟨_, l⟩ => some (true, l.length = 0, True) | none => none
        | _ => none
      | .slice _, .neq => match st.eval x with
        | .one (.c (.imm (.slice none 0 0))) => some (false, True, False)
        | .one (.c c) => match sliceOf st.look c with | some ⟨_, l⟩ => some (false, l.length = 0, True) | none => none
        | _ => none
      | _, _ => none
    | none => none
  | _ => none

/-- one operation that is wanted -/
def doOp (T : Tab) (o : Oper) (nm : Nat) (st : St) (K : St → Prop) : Prop :=
  match nilTest T st o with
  | some (true, A, B) => NilG A (fSt (st.put o.dst (.cell (bv true))) K) B (fSt (st.put o.dst (.cell (bv false))) K)
  | some (false, A, B) => NilG A (fSt (st.put o.dst (.cell (bv false))) K) B (fSt (st.put o.dst (.cell (bv true))) K)
  | none => match dstep T st.eval st.look nm o with
    | some r => need r.pre (fRes r fun v add set => fSt ((st.act nm { pre := none, val := v, add := add, set := set }).put o.dst v) K)
    | none => False

/-- operations in the order of the text; one that is not wanted leaves nothing -/
def exOps (T : Tab) (ops : Array Oper) : List Oper → St → (St → Prop) → Prop
  | [], st, K => K st
  | o :: r, st, K => match guardTmp ops o with
    | none => False
    | some none => withName lits st.heap st.heap.length fun nm => doOp T o nm st fun st' => exOps T ops r st' K
    | some (some (d, want)) => match st.tmp d with
      | .one (.c (.imm (.bool b))) => Br b
          (match want with
            | true => fSt (st.put (some d) (.cell (bv true))) fun st => withName lits st.heap st.heap.length fun nm => doOp T o nm st fun st' => exOps T ops r st' K
            | false => fSt ((st.put (some d) (.cell (bv true))).put o.dst (.tup [])) fun st => exOps T ops r st K)
          (match want with
            | false => fSt (st.put (some d) (.cell (bv false))) fun st => withName lits st.heap st.heap.length fun nm => doOp T o nm st fun st' => exOps T ops r st' K
            | true => fSt ((st.put (some d) (.cell (bv false))).put o.dst (.tup [])) fun st => exOps T ops r st K)
      | .tup [] => fSt (st.put o.dst (.tup [])) fun st => exOps T ops r st K
      | _ => False

end Go.Fw

/- What abstract values stand for in a world, and that this stays while the world goes on. -/
namespace Go.Fw
set_option linter.unusedVariables false
set_option linter.unusedSimpArgs false

structure Env where
  w : World
  ρ : Nat → Option Nat
  S : Nat → Prop
  H : Nat → Option Blk
  U : Nat → Prop

def ListRel {α : Type} (R : α → List Value → Prop) : List α → List Value → Prop
  | [], vs => vs = []
  | d :: l, vs => ∃ r rest, vs = r ++ rest ∧ R d r ∧ ListRel R l rest

def SlR {α : Type} (w : World) (S : Nat → Prop) (R : α → List Value → Prop) (l : List α) (v : Value) : Prop :=
  ∃ a cap, v = .slice a l.length cap ∧ l.length ≤ cap ∧
    (l ≠ [] → ∃ (ad : Addr) (us : List Value), a = some ad ∧ S ad.block ∧ ListRel R l us ∧ ∀ k u, us[k]? = some u → w.cell? (ad.add k) = some u)

def CR (w : World) (S : Nat → Prop) : (t : Ty) → Den t → List Value → Prop
  | .int k, x, vs => vs = [.int k x]
  | .ints k n, l, vs => List.length l = n ∧ vs = List.map (.int k) l
  | .bool, b, vs => vs = [.bool b]
  | .str, s, vs => vs = [.string s]
  | .sl t, l, vs => ∃ v, vs = [v] ∧ SlR w S (CR w S t) l v
  | .pair a b, x, vs => ∃ r s, vs = r ++ s ∧ CR w S a x.1 r ∧ CR w S b x.2 s

theorem CR.len {w : World} {S : Nat → Prop} : {t : Ty} → {x : Den t} → {vs : List Value} → CR w S t x vs → vs.length = t.size
  | .int _, _, _, h => by simp only [CR] at h; subst h; rfl
  | .ints _ n, l, _, h => by simp only [CR] at h; obtain ⟨h, rfl⟩ := h; simp [Ty.size, h]
  | .bool, _, _, h => by simp only [CR] at h; subst h; rfl
  | .str, _, _, h => by simp only [CR] at h; subst h; rfl
  | .sl _, _, _, h => by obtain ⟨v, rfl, _⟩ := h; rfl
  | .pair a b, x, _, h => by
    obtain ⟨r, s, rfl, h1, h2⟩ := h
    simp [Ty.size, h1.len, h2.len]

theorem CR.flat {w w' : World} {S S' : Nat → Prop} : {t : Ty} → {x : Den t} → {vs : List Value} → t.flat = true → CR w S t x vs → CR w' S' t x vs
  | .int _, _, _, _, h => h
  | .ints _ _, _, _, _, h => h
  | .bool, _, _, _, h => h
  | .str, _, _, _, h => h
  | .sl _, _, _, hf, _ => by simp [Ty.flat] at hf
  | .pair a b, _, _, hf, ⟨r, s, e, h1, h2⟩ => by
    simp [Ty.flat] at hf
    exact ⟨r, s, e, CR.flat hf.1 h1, CR.flat hf.2 h2⟩

theorem ListRel.mono {α : Type} {R R' : α → List Value → Prop} (h : ∀ x vs, R x vs → R' x vs) : ∀ {l : List α} {vs : List Value}, ListRel R l vs → ListRel R' l vs
  | [], _, hl => hl
  | _ :: _, _, ⟨r, s, e, h1, h2⟩ => ⟨r, s, e, h _ _ h1, h2.mono h⟩

theorem ListRel.len {α : Type} {R : α → List Value → Prop} {n : Nat} (h : ∀ x vs, R x vs → vs.length = n) : ∀ {l : List α} {vs : List Value}, ListRel R l vs → vs.length = l.length * n
  | [], _, hl => by simp only [ListRel] at hl; subst hl; simp
  | _ :: l, _, ⟨r, s, e, h1, h2⟩ => by subst e; simp [h _ _ h1, h2.len h, Nat.add_mul, Nat.add_comm]

theorem ListRel.append {α : Type} {R : α → List Value → Prop} : ∀ {l l' : List α} {vs vs' : List Value}, ListRel R l vs → ListRel R l' vs' → ListRel R (l ++ l') (vs ++ vs')
  | [], _, _, _, h, h' => by simp only [ListRel] at h; subst h; exact h'
  | _ :: _, _, _, _, ⟨r, s, e, h1, h2⟩, h' => by subst e; exact ⟨r, _, by simp, h1, h2.append h'⟩

/-- the cells of element i -/
theorem ListRel.get {α : Type} {R : α → List Value → Prop} {n : Nat} (hn : ∀ x vs, R x vs → vs.length = n) : ∀ {l : List α} {vs : List Value} {i : Nat}, ListRel R l vs → (hi : i < l.length) →
    ∃ a r b, vs = a ++ r ++ b ∧ a.length = i * n ∧ R l[i] r
  | x :: l, _, 0, ⟨r, s, e, h1, h2⟩, _ => ⟨[], r, s, by simpa using e, by simp, h1⟩
  | x :: l, _, i + 1, ⟨r, s, e, h1, h2⟩, hi => by
    obtain ⟨a, r', b, rfl, ha, hr⟩ := h2.get hn (i := i) (by simpa using hi)
    exact ⟨r ++ a, r', b, by simp [e], by simp [ha, hn _ _ h1, Nat.add_mul, Nat.add_comm], by simpa using hr⟩

theorem ListRel.set {α : Type} {R : α → List Value → Prop} {n : Nat} (hn : ∀ x vs, R x vs → vs.length = n) {y : α} {ry : List Value} (hy : R y ry) : ∀ {l : List α} {a r b : List Value} {i : Nat}, ListRel R l (a ++ r ++ b) → i < l.length → a.length = i * n → r.length = n →
    ListRel R (l.set i y) (a ++ ry ++ b)
  | x :: l, a, r, b, 0, ⟨r0, s, e, h1, h2⟩, _, ha, hr => by
    have : a = [] := by simpa using ha
    subst this
    have h := List.append_inj (by simpa using e) (by rw [hr, hn _ _ h1])
    obtain ⟨rfl, rfl⟩ := h
    exact ⟨ry, b, by simp, hy, h2⟩
  | x :: l, a, r, b, i + 1, ⟨r0, s, e, h1, h2⟩, hi, ha, hr => by
    have hl := hn _ _ h1
    have h0 : r0 = a.take n := by
      have := congrArg (List.take n) e
      simp [List.take_append, hl, ha, Nat.add_mul] at this
      rw [← this]
    have hs : s = a.drop n ++ r ++ b := by
      have := congrArg (List.drop n) e
      simp [List.drop_append, hl, ha, Nat.add_mul] at this
      rw [← this]
      simp
    subst hs
    have hda : (a.drop n).length = i * n := by simp [ha, Nat.add_mul]
    have h3 := h2.set hn hy (i := i) (by simpa using hi) hda hr
    refine ⟨r0, a.drop n ++ ry ++ b, ?_, h1, h3⟩
    rw [h0, ← List.append_assoc, ← List.append_assoc, List.take_append_drop]

theorem SlR.mono {α : Type} {w w' : World} {S S' : Nat → Prop} {R R' : α → List Value → Prop} (hS : ∀ g, S g → S' g ∧ w'.heap[g]? = w.heap[g]?) (h : ∀ x vs, R x vs → R' x vs) {l : List α} {v : Value} (hh : SlR w S R l v) : SlR w' S' R' l v := by
  obtain ⟨a, cap, e, hc, h2⟩ := hh
  refine ⟨a, cap, e, hc, fun hne => ?_⟩
  obtain ⟨ad, us, ha, hs, hl, hcell⟩ := h2 hne
  refine ⟨ad, us, ha, (hS _ hs).1, hl.mono h, fun k u hu => ?_⟩
  have hb : (ad.add k).block = ad.block := by unfold Addr.add; split <;> rfl
  rw [Go.World.cell?_of_block (w := w) (by rw [hb]; exact (hS _ hs).2)]
  exact hcell k u hu

theorem CR.mono {w w' : World} {S S' : Nat → Prop} (hS : ∀ g, S g → S' g ∧ w'.heap[g]? = w.heap[g]?) : {t : Ty} → {x : Den t} → {vs : List Value} → CR w S t x vs → CR w' S' t x vs
  | .int _, _, _, h => h
  | .ints _ _, _, _, h => h
  | .bool, _, _, h => h
  | .str, _, _, h => h
  | .sl t, l, _, ⟨v, e, h⟩ => ⟨v, e, h.mono hS fun _ _ hx => CR.mono hS hx⟩
  | .pair a b, _, _, ⟨r, s, e, h1, h2⟩ => ⟨r, s, e, CR.mono hS h1, CR.mono hS h2⟩

def pt (g o : Nat) : Value := .pointer (some ⟨g, o, none⟩)

/-- what a block's slice is, as a value -/
def OwnV (E : Env) (b : Nat) (n sz : Nat) (v : Value) : Prop :=
  (E.ρ b = none ∧ v = .slice none 0 0) ∨
  ∃ g cs el cap, E.ρ b = some g ∧ E.w.heap[g]? = some (.cells cs el (0, 0)) ∧ v = .slice (some ⟨g, 0, none⟩) n cap ∧ n ≤ cap ∧ cap * sz ≤ cs.size

def SubV (E : Env) (b off len sz : Nat) (v : Value) : Prop :=
  (E.ρ b = none ∧ len = 0 ∧ v = .slice none 0 0) ∨
  ∃ (g : Nat) (ad : Addr) (cap : Nat), E.ρ b = some g ∧ v = .slice (some ad) len cap ∧ len ≤ cap ∧ (0 < len → ad = ⟨g, off * sz, none⟩)

def CellR (E : Env) : Cell → List Value → Prop
  | .imm v, vs => vs = [v] ∧ v.oneCell' = true
  | .run k n l, vs => l.length = n ∧ vs = l.map (.int k)
  | .ro t l, vs => ∃ v, vs = [v] ∧ SlR E.w E.S (CR E.w E.S t) l v
  | .rptr t l i j, vs => i < l.length ∧ ∃ (ad : Addr) (us : List Value), vs = [.pointer (some (ad.add (i * t.size + j)))] ∧ E.S ad.block ∧ ListRel (CR E.w E.S t) l us ∧ ∀ k u, us[k]? = some u → E.w.cell? (ad.add k) = some u
  | .own b, vs => ∃ v, (vs = [v] ∧ v.oneCell' = true) ∧ E.U b ∧ ∀ t l, E.H b = some (.arr t l) → OwnV E b l.length t.size v
  | .sub b off len, vs => ∃ v, (vs = [v] ∧ v.oneCell' = true) ∧ E.U b ∧ ∀ t l, E.H b = some (.arr t l) → off + len ≤ l.length ∧ SubV E b off len t.size v
  | .srun b j, vs => ∃ v, (vs = [v] ∧ v.oneCell' = true) ∧ E.U b ∧ ∀ cs c, E.H b = some (.var cs) → itemAt cs j = some c → ∃ g cap, E.ρ b = some g ∧ v = .slice (some ⟨g, j, none⟩) c.size cap ∧ c.size ≤ cap
  | .svar b j n, vs => ∃ v, (vs = [v] ∧ v.oneCell' = true) ∧ E.U b ∧ ∀ cs, E.H b = some (.var cs) → ∃ g cap, E.ρ b = some g ∧ v = .slice (some ⟨g, j, none⟩) n cap ∧ n ≤ cap
  | .ptr b j, vs => ∃ v, (vs = [v] ∧ v.oneCell' = true) ∧ E.U b ∧ ∀ cs, E.H b = some (.var cs) → ∃ g, E.ρ b = some g ∧ v = pt g j
  | .pel b i j, vs => ∃ v, (vs = [v] ∧ v.oneCell' = true) ∧ E.U b ∧ ∀ t l, E.H b = some (.arr t l) → i < l.length → ∃ g, E.ρ b = some g ∧ v = pt g (i * t.size + j)
  | .pidx b j i, vs => ∃ v, (vs = [v] ∧ v.oneCell' = true) ∧ E.U b ∧ ∀ cs, E.H b = some (.var cs) → ∃ g, E.ρ b = some g ∧ v = pt g (j + i)
  | .fn f bs, vs => ∃ caps : Array Value, vs = [.func (.func f) #[] caps] ∧ caps.size = bs.length ∧
      ∀ (i b : Nat), bs[i]? = some b → ∃ u, caps[i]? = some u ∧ u.oneCell' = true ∧ E.U b ∧ ∀ cs, E.H b = some (.var cs) → ∃ g, E.ρ b = some g ∧ u = pt g 0
  | .ifc t b, vs => ∃ v, (vs = [.iface t v] ∧ v.oneCell' = true) ∧ E.U b ∧ ∀ cs, E.H b = some (.var cs) → ∃ g, E.ρ b = some g ∧ v = pt g 0
  | .map b, vs => ∃ v, (vs = [v] ∧ v.oneCell' = true) ∧ E.U b ∧ ∀ ka kt vt l, E.H b = some (.mp ka kt vt l) → ∃ g, E.ρ b = some g ∧ v = .map (some g)

def IR (E : Env) : List Cell → List Value → Prop
  | [], vs => vs = []
  | c :: cs, vs => ∃ r rest, vs = r ++ rest ∧ CellR E c r ∧ IR E cs rest

def V1R (E : Env) : V1 → Value → Prop
  | .c x, v => CellR E x [v]
  | .agg cs, v => ∃ vals, v = .agg vals ∧ IR E cs vals.toList

def VsR (E : Env) : List V1 → List Value → Prop
  | [], vs => vs = []
  | x :: xs, vs => ∃ v r, vs = v :: r ∧ V1R E x v ∧ VsR E xs r

def AVR (E : Env) : AV → Value → Prop
  | .dead, _ => True
  | .one x, v => V1R E x v
  | .tup l, v => ∃ vs, v = .tuple vs ∧ VsR E l vs.toList

/-- a key as a value, a value of a map -/
def KV (ka : Bool) (kt : Ty) (d : Den kt) (v : Value) : Prop := ∃ vs, (∀ w S, CR w S kt d vs) ∧ ((ka = true ∧ v = .agg vs.toArray) ∨ (ka = false ∧ vs = [v]))
def MapR (ka : Bool) (kt vt : Ty) : List (Den kt × Den vt) → List MapEntry → Prop
  | [], [] => True
  | p :: l, e :: es => KV ka kt p.1 e.key ∧ (∀ w S, CR w S vt p.2 [e.val]) ∧ MapR ka kt vt l es
  | _, _ => False

def BlkR (E : Env) (b : Nat) : Blk → Prop
  | .arr t l => (E.ρ b = none ∧ l = []) ∨ ∃ g cs el us spare, E.ρ b = some g ∧ E.w.heap[g]? = some (.cells cs el (0, 0)) ∧ cs.toList = us ++ spare ∧ ListRel (CR E.w E.S t) l us
  | .var is => ∃ g cs el, E.ρ b = some g ∧ E.w.heap[g]? = some (.cells cs el (0, 0)) ∧ IR E is cs.toList
  | .mp ka kt vt l => ∃ g es clock, E.ρ b = some g ∧ E.w.heap[g]? = some (.map es clock) ∧ MapR ka kt vt l es.toList

structure HeapOk (E : Env) : Prop where
  blk : ∀ b x, E.H b = some x → E.U b ∧ BlkR E b x ∧ ∀ g, E.ρ b = some g → ¬ E.S g
  inj : ∀ b b' x x' g, E.H b = some x → E.H b' = some x' → E.ρ b = some g → E.ρ b' = some g → b = b'
  st : ∀ g, E.S g → g < E.w.heap.size

inductive Shp where
  | arr (t : Ty) (n : Nat)
  | var (l : List Nat)
  | mp (ka : Bool) (kt vt : Ty)
def shape : Blk → Shp
  | .arr t l => .arr t l.length
  | .var cs => .var (cs.map Cell.size)
  | .mp ka kt vt _ => .mp ka kt vt

structure Ext (E E' : Env) : Prop where
  S : ∀ g, E.S g → E'.S g ∧ E'.w.heap[g]? = E.w.heap[g]?
  U : ∀ b, E.U b → E'.U b
  H : ∀ b x', E.U b → E'.H b = some x' → ∃ x, E.H b = some x ∧ E'.ρ b = E.ρ b ∧ shape x' = shape x ∧
    ∀ g cs el, E.ρ b = some g → E.w.heap[g]? = some (.cells cs el (0, 0)) → ∃ cs', E'.w.heap[g]? = some (.cells cs' el (0, 0)) ∧ cs'.size = cs.size

theorem Ext.refl (E : Env) : Ext E E := ⟨fun g h => ⟨h, rfl⟩, fun _ h => h, fun b x' _ h => ⟨x', h, rfl, rfl, fun g cs el _ h => ⟨cs, h, rfl⟩⟩⟩

theorem Ext.trans {E E' E'' : Env} (h : Ext E E') (h' : Ext E' E'') : Ext E E'' := by
  refine ⟨fun g hg => ⟨(h'.S g (h.S g hg).1).1, ((h'.S g (h.S g hg).1).2).trans (h.S g hg).2⟩, fun b hb => h'.U b (h.U b hb), fun b x' hb hx => ?_⟩
  obtain ⟨x1, e1, r1, s1, c1⟩ := h'.H b x' (h.U b hb) hx
  obtain ⟨x2, e2, r2, s2, c2⟩ := h.H b x1 hb e1
  refine ⟨x2, e2, r1.trans r2, s1.trans s2, fun g cs el hr hc => ?_⟩
  obtain ⟨cs', hc', hs'⟩ := c2 g cs el hr hc
  obtain ⟨cs'', hc'', hs''⟩ := c1 g cs' el (r2.trans hr) hc'
  exact ⟨cs'', hc'', hs''.trans hs'⟩

theorem shape_arr {x : Blk} {t : Ty} {l : List (Den t)} (h : shape (.arr t l) = shape x) : ∃ l', x = .arr t l' ∧ l'.length = l.length := by
  cases x with
  | arr u l' =>
    simp only [shape] at h
    injection h with h1 h2
    subst h1
    exact ⟨l', rfl, h2.symm⟩
  | var cs => simp [shape] at h
  | mp ka kt vt l => simp [shape] at h

theorem shape_var {x : Blk} {cs : List Cell} (h : shape (.var cs) = shape x) : ∃ cs', x = .var cs' ∧ cs'.map Cell.size = cs.map Cell.size := by
  cases x with
  | arr u l' => simp [shape] at h
  | var cs' =>
    simp only [shape] at h
    injection h with h
    exact ⟨cs', rfl, h.symm⟩
  | mp ka kt vt l => simp [shape] at h
theorem shape_mp {x : Blk} {ka : Bool} {kt vt : Ty} {l : List (Den kt × Den vt)} (h : shape (.mp ka kt vt l) = shape x) : ∃ l', x = .mp ka kt vt l' := by
  cases x with
  | arr u l' => simp [shape] at h
  | var cs' => simp [shape] at h
  | mp ka' kt' vt' l' =>
    simp only [shape] at h
    injection h with h1 h2 h3
    subst h1; subst h2; subst h3
    exact ⟨l', rfl⟩

theorem itemAt_size : ∀ {cs cs' : List Cell} {j : Nat} {c : Cell}, cs'.map Cell.size = cs.map Cell.size → itemAt cs j = some c → ∃ c', itemAt cs' j = some c' ∧ c'.size = c.size
  | [], _, _, _, _, h => by simp [itemAt] at h
  | x :: xs, [], _, _, e, _ => by simp at e
  | x :: xs, y :: ys, j, c, e, h => by
    simp only [List.map_cons, List.cons.injEq] at e
    unfold itemAt at h ⊢
    cases h0 : Nat.beq j 0 with
    | true => rw [h0] at h; injection h with h; subst h; exact ⟨y, rfl, e.1⟩
    | false =>
      rw [h0] at h
      simp only at h ⊢
      rw [e.1]
      cases h1 : Nat.ble x.size j with
      | true => rw [h1] at h; exact itemAt_size e.2 h
      | false => rw [h1] at h; cases h

theorem CellR.ext {E E' : Env} (h : Ext E E') : {c : Cell} → {vs : List Value} → CellR E c vs → CellR E' c vs
  | .imm _, _, hc => hc
  | .run _ _ _, _, hc => hc
  | .ro t l, _, ⟨v, e, hs⟩ => ⟨v, e, hs.mono h.S fun _ _ hx => hx.mono h.S⟩
  | .rptr t l i j, _, ⟨hi, ad, us, e, hs, hl, hc⟩ => by
    refine ⟨hi, ad, us, e, (h.S _ hs).1, hl.mono fun _ _ hx => hx.mono h.S, fun k u hu => ?_⟩
    have hb : (ad.add k).block = ad.block := by unfold Addr.add; split <;> rfl
    rw [Go.World.cell?_of_block (w := E.w) (by rw [hb]; exact (h.S _ hs).2)]
    exact hc k u hu
  | .own b, _, ⟨v, e, hu, hh⟩ => by
    refine ⟨v, e, h.U b hu, fun t l hb => ?_⟩
    obtain ⟨x, hx, hr, hsh, hcs⟩ := h.H b _ hu hb
    obtain ⟨l', rfl, hl⟩ := shape_arr hsh
    rcases hh t l' hx with ⟨h1, h2⟩ | ⟨g, cs, el, cap, h1, h2, h3, h4, h5⟩
    · exact .inl ⟨hr.trans h1, h2⟩
    · obtain ⟨cs', h6, h7⟩ := hcs g cs el h1 h2
      exact .inr ⟨g, cs', el, cap, hr.trans h1, h6, by rw [h3, hl], by omega, by omega⟩
  | .sub b off len, _, ⟨v, e, hu, hh⟩ => by
    refine ⟨v, e, h.U b hu, fun t l hb => ?_⟩
    obtain ⟨x, hx, hr, hsh, hcs⟩ := h.H b _ hu hb
    obtain ⟨l', rfl, hl⟩ := shape_arr hsh
    obtain ⟨h0, h1⟩ := hh t l' hx
    refine ⟨by omega, ?_⟩
    rcases h1 with ⟨h1, h2, h3⟩ | ⟨g, ad, cap, h1, h2⟩
    · exact .inl ⟨hr.trans h1, h2, h3⟩
    · exact .inr ⟨g, ad, cap, hr.trans h1, h2⟩
  | .srun b j, _, ⟨v, e, hu, hh⟩ => by
    refine ⟨v, e, h.U b hu, fun cs c hb hi => ?_⟩
    obtain ⟨x, hx, hr, hsh, hcs⟩ := h.H b _ hu hb
    obtain ⟨cs', rfl, hm⟩ := shape_var hsh
    obtain ⟨c', hc', hs'⟩ := itemAt_size hm hi
    obtain ⟨g, cap, h1, h2, h3⟩ := hh cs' c' hx hc'
    exact ⟨g, cap, hr.trans h1, by rw [h2, hs'], by omega⟩
  | .svar b j n, _, ⟨v, e, hu, hh⟩ => by
    refine ⟨v, e, h.U b hu, fun cs hb => ?_⟩
    obtain ⟨x, hx, hr, hsh, hcs⟩ := h.H b _ hu hb
    obtain ⟨cs', rfl, hm⟩ := shape_var hsh
    obtain ⟨g, cap, h1, h2, h3⟩ := hh cs' hx
    exact ⟨g, cap, hr.trans h1, h2, h3⟩
  | .ptr b j, _, ⟨v, e, hu, hh⟩ => by
    refine ⟨v, e, h.U b hu, fun cs hb => ?_⟩
    obtain ⟨x, hx, hr, hsh, hcs⟩ := h.H b _ hu hb
    obtain ⟨cs', rfl, hm⟩ := shape_var hsh
    obtain ⟨g, h1, h2⟩ := hh cs' hx
    exact ⟨g, hr.trans h1, h2⟩
  | .pel b i j, _, ⟨v, e, hu, hh⟩ => by
    refine ⟨v, e, h.U b hu, fun t l hb hi => ?_⟩
    obtain ⟨x, hx, hr, hsh, hcs⟩ := h.H b _ hu hb
    obtain ⟨l', rfl, hl⟩ := shape_arr hsh
    obtain ⟨g, h1, h2⟩ := hh t l' hx (by omega)
    exact ⟨g, hr.trans h1, h2⟩
  | .pidx b j i, _, ⟨v, e, hu, hh⟩ => by
    refine ⟨v, e, h.U b hu, fun cs hb => ?_⟩
    obtain ⟨x, hx, hr, hsh, hcs⟩ := h.H b _ hu hb
    obtain ⟨cs', rfl, hm⟩ := shape_var hsh
    obtain ⟨g, h1, h2⟩ := hh cs' hx
    exact ⟨g, hr.trans h1, h2⟩
  | .fn f bs, _, ⟨caps, e, hs, hh⟩ => by
    refine ⟨caps, e, hs, fun i b hb => ?_⟩
    obtain ⟨u, hu1, hu2, hU, hh⟩ := hh i b hb
    refine ⟨u, hu1, hu2, h.U b hU, fun cs hx' => ?_⟩
    obtain ⟨x, hx, hr, hsh, hcs⟩ := h.H b _ hU hx'
    obtain ⟨cs', rfl, hm⟩ := shape_var hsh
    obtain ⟨g, h1, h2⟩ := hh cs' hx
    exact ⟨g, hr.trans h1, h2⟩
  | .ifc t b, _, ⟨v, e, hu, hh⟩ => by
    refine ⟨v, e, h.U b hu, fun cs hb => ?_⟩
    obtain ⟨x, hx, hr, hsh, hcs⟩ := h.H b _ hu hb
    obtain ⟨cs', rfl, hm⟩ := shape_var hsh
    obtain ⟨g, h1, h2⟩ := hh cs' hx
    exact ⟨g, hr.trans h1, h2⟩
  | .map b, _, ⟨v, e, hu, hh⟩ => by
    refine ⟨v, e, h.U b hu, fun ka kt vt l hb => ?_⟩
    obtain ⟨x, hx, hr, hsh, hcs⟩ := h.H b _ hu hb
    obtain ⟨l', rfl⟩ := shape_mp hsh
    obtain ⟨g, h1, h2⟩ := hh ka kt vt l' hx
    exact ⟨g, hr.trans h1, h2⟩

theorem IR.ext {E E' : Env} (h : Ext E E') : ∀ {cs : List Cell} {vs : List Value}, IR E cs vs → IR E' cs vs
  | [], _, hc => hc
  | _ :: _, _, ⟨r, s, e, h1, h2⟩ => ⟨r, s, e, h1.ext h, h2.ext h⟩

theorem V1R.ext {E E' : Env} (h : Ext E E') : {x : V1} → {v : Value} → V1R E x v → V1R E' x v
  | .c _, _, hc => CellR.ext h hc
  | .agg _, _, ⟨vals, e, hc⟩ => ⟨vals, e, hc.ext h⟩

theorem VsR.ext {E E' : Env} (h : Ext E E') : ∀ {xs : List V1} {vs : List Value}, VsR E xs vs → VsR E' xs vs
  | [], _, hc => hc
  | _ :: _, _, ⟨v, r, e, h1, h2⟩ => ⟨v, r, e, h1.ext h, h2.ext h⟩

theorem AVR.ext {E E' : Env} (h : Ext E E') : {x : AV} → {v : Value} → AVR E x v → AVR E' x v
  | .dead, _, _ => trivial
  | .one _, _, hc => V1R.ext h hc
  | .tup _, _, ⟨vs, e, hc⟩ => ⟨vs, e, hc.ext h⟩

theorem CellR.len {E : Env} : {c : Cell} → {vs : List Value} → CellR E c vs → vs.length = c.size
  | .imm _, _, h => by obtain ⟨rfl, _⟩ := h; rfl
  | .run k n l, _, h => by obtain ⟨h, rfl⟩ := h; simp [Cell.size, h]
  | .ro _ _, _, ⟨_, e, _⟩ => by subst e; rfl
  | .rptr _ _ _ _, _, ⟨_, _, _, e, _⟩ => by subst e; rfl
  | .own _, _, ⟨_, ⟨e, _⟩, _⟩ => by subst e; rfl
  | .sub _ _ _, _, ⟨_, ⟨e, _⟩, _⟩ => by subst e; rfl
  | .srun _ _, _, ⟨_, ⟨e, _⟩, _⟩ => by subst e; rfl
  | .svar _ _ _, _, ⟨_, ⟨e, _⟩, _⟩ => by subst e; rfl
  | .ptr _ _, _, ⟨_, ⟨e, _⟩, _⟩ => by subst e; rfl
  | .pel _ _ _, _, ⟨_, ⟨e, _⟩, _⟩ => by subst e; rfl
  | .pidx _ _ _, _, ⟨_, ⟨e, _⟩, _⟩ => by subst e; rfl
  | .fn _ _, _, ⟨_, e, _⟩ => by subst e; rfl
  | .ifc _ _, _, ⟨_, ⟨e, _⟩, _⟩ => by subst e; rfl
  | .map _, _, ⟨_, ⟨e, _⟩, _⟩ => by subst e; rfl

def sizes (cs : List Cell) : Nat := (cs.map Cell.size).sum

theorem IR.len {E : Env} : ∀ {cs : List Cell} {vs : List Value}, IR E cs vs → vs.length = sizes cs
  | [], _, h => by simp only [IR] at h; subst h; rfl
  | c :: cs, _, ⟨r, s, e, h1, h2⟩ => by subst e; simp [sizes, h1.len, h2.len]

theorem IR.append {E : Env} : ∀ {cs cs' : List Cell} {vs vs' : List Value}, IR E cs vs → IR E cs' vs' → IR E (cs ++ cs') (vs ++ vs')
  | [], _, _, _, h, h' => by simp only [IR] at h; subst h; exact h'
  | _ :: _, _, _, _, ⟨r, s, e, h1, h2⟩, h' => by subst e; exact ⟨r, _, by simp, h1, h2.append h'⟩

/-- data as items -/
theorem CR.items {E : Env} : {t : Ty} → {x : Den t} → {vs : List Value} → CR E.w E.S t x vs → IR E (cells t x) vs
  | .int k, x, _, h => by simp only [CR] at h; subst h; exact ⟨[_], [], rfl, ⟨rfl, rfl⟩, rfl⟩
  | .ints k n, l, vs, h => ⟨vs, [], by simp, h, rfl⟩
  | .bool, b, _, h => by simp only [CR] at h; subst h; exact ⟨[_], [], rfl, ⟨rfl, rfl⟩, rfl⟩
  | .str, s, _, h => by simp only [CR] at h; subst h; exact ⟨[_], [], rfl, ⟨rfl, rfl⟩, rfl⟩
  | .sl t, l, vs, h => ⟨vs, [], by simp, h, rfl⟩
  | .pair a b, x, _, ⟨r, s, e, h1, h2⟩ => by subst e; exact h1.items.append h2.items

theorem SlR.one {α : Type} {w : World} {S : Nat → Prop} {R : α → List Value → Prop} {l : List α} {v : Value} (h : SlR w S R l v) : v.oneCell' = true := by
  obtain ⟨a, cap, rfl, _⟩ := h; rfl

theorem CR.ones {w : World} {S : Nat → Prop} : {t : Ty} → {x : Den t} → {vs : List Value} → CR w S t x vs → ∀ u ∈ vs, u.oneCell' = true
  | .int _, _, _, h => by simp only [CR] at h; subst h; intro u hu; simp at hu; subst hu; rfl
  | .ints _ n, l, _, h => by simp only [CR] at h; obtain ⟨h, rfl⟩ := h; intro u hu; simp at hu; obtain ⟨y, _, rfl⟩ := hu; rfl
  | .bool, _, _, h => by simp only [CR] at h; subst h; intro u hu; simp at hu; subst hu; rfl
  | .str, _, _, h => by simp only [CR] at h; subst h; intro u hu; simp at hu; subst hu; rfl
  | .sl _, _, _, h => by obtain ⟨v, rfl, h⟩ := h; intro u hu; simp at hu; subst hu; exact h.one
  | .pair a b, x, _, h => by
    obtain ⟨r, s, rfl, h1, h2⟩ := h
    intro u hu
    rcases List.mem_append.1 hu with hu | hu
    · exact h1.ones u hu
    · exact h2.ones u hu

theorem CellR.ones {E : Env} : {c : Cell} → {vs : List Value} → CellR E c vs → ∀ u ∈ vs, u.oneCell' = true
  | .imm _, _, h => by obtain ⟨rfl, h⟩ := h; simpa using h
  | .run k n l, _, h => by obtain ⟨h, rfl⟩ := h; intro u hu; simp at hu; obtain ⟨y, _, rfl⟩ := hu; rfl
  | .ro _ _, _, ⟨_, e, h⟩ => by subst e; simpa using h.one
  | .rptr _ _ _ _, _, ⟨_, _, _, e, _⟩ => by subst e; simp [Value.oneCell']
  | .own _, _, ⟨_, ⟨e, h⟩, _⟩ => by subst e; simpa using h
  | .sub _ _ _, _, ⟨_, ⟨e, h⟩, _⟩ => by subst e; simpa using h
  | .srun _ _, _, ⟨_, ⟨e, h⟩, _⟩ => by subst e; simpa using h
  | .svar _ _ _, _, ⟨_, ⟨e, h⟩, _⟩ => by subst e; simpa using h
  | .ptr _ _, _, ⟨_, ⟨e, h⟩, _⟩ => by subst e; simpa using h
  | .pel _ _ _, _, ⟨_, ⟨e, h⟩, _⟩ => by subst e; simpa using h
  | .pidx _ _ _, _, ⟨_, ⟨e, h⟩, _⟩ => by subst e; simpa using h
  | .fn _ _, _, ⟨_, e, _⟩ => by subst e; simp [Value.oneCell']
  | .ifc _ _, _, ⟨_, ⟨e, _⟩, _⟩ => by subst e; simp [Value.oneCell']
  | .map _, _, ⟨_, ⟨e, h⟩, _⟩ => by subst e; simpa using h

theorem IR.ones {E : Env} : ∀ {cs : List Cell} {vs : List Value}, IR E cs vs → ∀ u ∈ vs, u.oneCell' = true
  | [], _, h => by simp only [IR] at h; subst h; simp
  | _ :: _, _, ⟨r, s, e, h1, h2⟩ => by
    subst e
    intro u hu
    rcases List.mem_append.1 hu with hu | hu
    · exact h1.ones u hu
    · exact h2.ones u hu

theorem ListRel.ones {α : Type} {R : α → List Value → Prop} (h : ∀ x vs, R x vs → ∀ u ∈ vs, u.oneCell' = true) : ∀ {l : List α} {vs : List Value}, ListRel R l vs → ∀ u ∈ vs, u.oneCell' = true
  | [], _, hl => by simp only [ListRel] at hl; subst hl; simp
  | _ :: _, _, ⟨r, s, e, h1, h2⟩ => by
    subst e
    intro u hu
    rcases List.mem_append.1 hu with hu | hu
    · exact h _ _ h1 u hu
    · exact h2.ones h u hu

end Go.Fw

/- Frames, steps of the abstract heap, slices and items as pure data. -/
namespace Go.Fw
set_option linter.unusedVariables false
set_option linter.unusedSimpArgs false

structure Frame where
  w0 : World
  own0 : Nat → Prop
  S0 : Nat → Prop

structure FrameOk (F : Frame) (E : Env) : Prop where
  os : E.w.os = F.w0.os
  tape : E.w.tape = F.w0.tape
  output : E.w.output = F.w0.output
  size : F.w0.heap.size ≤ E.w.heap.size
  old : ∀ g, g < F.w0.heap.size → ¬ F.own0 g → E.w.heap[g]? = F.w0.heap[g]?
  own : ∀ b x g, E.H b = some x → E.ρ b = some g → F.w0.heap.size ≤ g ∨ F.own0 g
  S : ∀ g, E.S g → F.S0 g ∨ F.w0.heap.size ≤ g ∨ F.own0 g

def setF : (Nat → Option Blk) → List (Nat × Option Blk) → Nat → Option Blk
  | H, [] => H
  | H, (b, o) :: r => setF (fun x => if x = b then o else H x) r
def addF : (Nat → Option Blk) → Nat → List Blk → Nat → Option Blk
  | H, _, [] => H
  | H, n, x :: r => addF (fun y => if y = n then some x else H y) (n + 1) r

structure Step (E : Env) (r : Res) (nm : Nat) (E' : Env) : Prop where
  ext : Ext E E'
  ok : HeapOk E'
  H : ∀ b, E'.H b = addF (setF E.H r.set) nm r.add b
  U : ∀ b, E'.U b ↔ (E.U b ∨ (nm ≤ b ∧ b < nm + r.add.length))
  fr : ∀ F, FrameOk F E → FrameOk F E'

theorem Step.same {E : Env} {r : Res} {nm : Nat} (hH : HeapOk E) (h1 : r.add = []) (h2 : r.set = []) : Step E r nm E :=
  ⟨.refl E, hH, fun b => by rw [h1, h2]; rfl, fun b => by rw [h1]; simp; omega, fun _ h => h⟩

/-- S, and the blocks of some names -/
def SU (E : Env) (us : List Nat) (g : Nat) : Prop := E.S g ∨ ∃ u x, u ∈ us ∧ E.H u = some x ∧ E.ρ u = some g

theorem SU.of {E : Env} {us : List Nat} {g : Nat} (h : E.S g) : SU E us g := .inl h
theorem SU.mono {E : Env} {us us' : List Nat} (hs : ∀ u, u ∈ us → u ∈ us') {g : Nat} (h : SU E us g) : SU E us' g :=
  h.imp id fun ⟨u, x, hu, hx, hr⟩ => ⟨u, x, hs u hu, hx, hr⟩

theorem CR.su {E : Env} {us : List Nat} {t : Ty} {x : Den t} {vs : List Value} (h : CR E.w E.S t x vs) : CR E.w (SU E us) t x vs :=
  h.mono fun _ hg => ⟨.inl hg, rfl⟩
theorem CR.su_mono {E : Env} {us us' : List Nat} (hs : ∀ u, u ∈ us → u ∈ us') {t : Ty} {x : Den t} {vs : List Value} (h : CR E.w (SU E us) t x vs) : CR E.w (SU E us') t x vs :=
  h.mono fun _ hg => ⟨hg.mono hs, rfl⟩

theorem cell_at {w : World} {g : Nat} {cs : Array Value} {el : TypeId} {fr : Nat × Nat} (h : w.heap[g]? = some (.cells cs el fr)) (o : Nat) : w.cell? ⟨g, o, none⟩ = cs[o]? := by
  simp [World.cell?, h]
theorem add_at (g o k : Nat) : (⟨g, o, none⟩ : Addr).add k = ⟨g, o + k, none⟩ := by
  unfold Addr.add; split <;> simp_all

theorem ListRel_ints {w : World} {S : Nat → Prop} {k : IntKind} : ∀ (l : List Int), ListRel (CR w S (.int k)) l (l.map (.int k))
  | [] => rfl
  | x :: l => ⟨[.int k x], l.map (.int k), rfl, rfl, ListRel_ints l⟩

theorem ListRel.take_drop {α : Type} {R : α → List Value → Prop} {n : Nat} (hn : ∀ x vs, R x vs → vs.length = n) : ∀ {l : List α} {vs : List Value} (k : Nat), ListRel R l vs →
    ListRel R (l.take k) (vs.take (k * n)) ∧ ListRel R (l.drop k) (vs.drop (k * n))
  | l, vs, 0, h => by simp; exact ⟨rfl, h⟩
  | [], vs, k + 1, h => by simp only [ListRel] at h; subst h; simp; exact rfl
  | x :: l, _, k + 1, ⟨r, s, e, h1, h2⟩ => by
    subst e
    have hl := hn _ _ h1
    obtain ⟨h3, h4⟩ := h2.take_drop hn k
    have e1 : (r ++ s).take ((k + 1) * n) = r ++ s.take (k * n) := by
      rw [List.take_append, hl, show (k + 1) * n - n = k * n from by rw [Nat.add_mul]; omega, List.take_of_length_le (by rw [hl, Nat.add_mul]; omega)]
    have e2 : (r ++ s).drop ((k + 1) * n) = s.drop (k * n) := by
      rw [List.drop_append, hl, show (k + 1) * n - n = k * n from by rw [Nat.add_mul]; omega, List.drop_of_length_le (by rw [hl, Nat.add_mul]; omega)]; simp
    rw [e1, e2]
    exact ⟨⟨r, _, rfl, h1, h3⟩, h4⟩

theorem castL_eq {t : Ty} (h : t = t) (l : List (Den t)) : castL h l = l := rfl

/-- what a slice is as data -/
theorem sliceOf_rel {E : Env} {look : Nat → Option Blk} (hH : HeapOk E) (hl : ∀ b x, look b = some x → E.H b = some x) {c : Cell} {v : Value} {t : Ty} {l : List (Den t)}
    (h : sliceOf look c = some ⟨t, l⟩) (hc : CellR E c [v]) : SlR E.w (SU E c.names) (CR E.w E.S t) l v := by
  cases c with
  | ro u l' =>
    simp only [sliceOf, Option.some.injEq, Sigma.mk.injEq] at h
    obtain ⟨rfl, h⟩ := h
    have h := eq_of_heq h
    subst h
    obtain ⟨v', e, hs⟩ := hc
    injection e with e
    subst e
    exact hs.mono (fun _ hg => ⟨.inl hg, rfl⟩) fun _ _ hx => hx
  | own b =>
    simp only [sliceOf] at h
    obtain ⟨v', ⟨e, _⟩, hu, hh⟩ := hc
    injection e with e
    subst e
    cases hb : look b with
    | none => rw [hb] at h; cases h
    | some x =>
      rw [hb] at h
      cases x with
      | var _ => cases h
      | mp _ _ _ _ => cases h
      | arr u l' =>
        simp only [Option.some.injEq, Sigma.mk.injEq] at h
        obtain ⟨rfl, h⟩ := h
        have h := eq_of_heq h
        subst h
        have hx := hl _ _ hb
        obtain ⟨_, hbr, _⟩ := hH.blk _ _ hx
        rcases hh _ _ hx with ⟨h1, rfl⟩ | ⟨g, cs, el, cap, h1, h2, rfl, h4, h5⟩
        · rcases hbr with ⟨_, rfl⟩ | ⟨g, _, _, _, _, h6, _⟩
          · exact ⟨none, 0, rfl, Nat.le_refl _, fun hne => absurd rfl hne⟩
          · rw [h1] at h6; cases h6
        · refine ⟨_, cap, rfl, h4, fun hne => ?_⟩
          rcases hbr with ⟨h6, rfl⟩ | ⟨g', cs', el', us, spare, h6, h7, h8, h9⟩
          · exact absurd rfl hne
          · rw [h1] at h6; injection h6 with h6; subst h6
            refine ⟨_, us, rfl, .inr ⟨b, _, by simp [Cell.names], hx, h1⟩, h9, fun k u hu => ?_⟩
            rw [add_at, cell_at h7, Nat.zero_add, ← Array.getElem?_toList, h8, List.getElem?_append_left (by exact (List.getElem?_eq_some_iff.1 hu).1)]
            exact hu
  | sub b off len =>
    simp only [sliceOf] at h
    obtain ⟨v', ⟨e, _⟩, hu, hh⟩ := hc
    injection e with e
    subst e
    cases hb : look b with
    | none => rw [hb] at h; cases h
    | some x =>
      rw [hb] at h
      cases x with
      | var _ => cases h
      | mp _ _ _ _ => cases h
      | arr u l' =>
        simp only [Option.some.injEq, Sigma.mk.injEq] at h
        obtain ⟨rfl, h⟩ := h
        have h := eq_of_heq h
        subst h
        have hx := hl _ _ hb
        obtain ⟨_, hbr, _⟩ := hH.blk _ _ hx
        obtain ⟨h0, hh⟩ := hh _ _ hx
        have hlen : ((l'.drop off).take len).length = len := by simp; omega
        rcases hh with ⟨h1, h2, rfl⟩ | ⟨g, ad, cap, h1, rfl, h4, h5⟩
        · subst h2
          exact ⟨none, 0, by simp, by simp, fun hne => absurd (by simp) hne⟩
        · refine ⟨_, cap, by rw [hlen], by rw [hlen]; exact h4, fun hne => ?_⟩
          have hpos : 0 < len := by
            rcases Nat.eq_zero_or_pos len with e | e
            · subst e; exact absurd (by simp) hne
            · exact e
          rcases hbr with ⟨h6, rfl⟩ | ⟨g', cs', el', us, spare, h6, h7, h8, h9⟩
          · simp at h0; omega
          · rw [h1] at h6; injection h6 with h6; subst h6
            have h10 := ((h9.take_drop (fun _ _ hx => hx.len) off).2.take_drop (fun _ _ hx => hx.len) len).1
            refine ⟨ad, _, rfl, .inr ⟨b, _, by simp [Cell.names], hx, by rw [h1, h5 hpos]⟩, h10, fun k u hu => ?_⟩
            rw [h5 hpos, add_at, cell_at h7, ← Array.getElem?_toList, h8]
            rw [List.getElem?_take] at hu
            split at hu
            · rw [List.getElem?_drop] at hu
              rw [List.getElem?_append_left (by exact (List.getElem?_eq_some_iff.1 hu).1)]
              exact hu
            · cases hu
  | srun b j =>
    simp only [sliceOf] at h
    obtain ⟨v', ⟨e, _⟩, hu, hh⟩ := hc
    injection e with e
    subst e
    cases hb : look b with
    | none => rw [hb] at h; cases h
    | some x =>
      rw [hb] at h
      cases x with
      | arr _ _ => cases h
      | mp _ _ _ _ => cases h
      | var cs =>
        simp only at h
        cases hi : itemAt cs j with
        | none => rw [hi] at h; cases h
        | some c =>
          rw [hi] at h
          cases c with
          | run k n l' =>
            simp only [Option.some.injEq, Sigma.mk.injEq] at h
            obtain ⟨rfl, h⟩ := h
            have h := eq_of_heq h
            subst h
            have hx := hl _ _ hb
            obtain ⟨_, ⟨g', cs', el', h6, h7, h8⟩, _⟩ := hH.blk _ _ hx
            obtain ⟨g, cap, h1, rfl, h3⟩ := hh _ _ hx hi
            rw [h1] at h6; injection h6 with h6; subst h6
            -- where the run lies
            have key : ∀ (cs : List Cell) (vs : List Value) (j : Nat), IR E cs vs → itemAt cs j = some (.run k n l') → l'.length = n ∧ ∀ i (u : Int), l'[i]? = some u → vs[j + i]? = some (.int k u) := by
              intro cs
              induction cs with
              | nil => intro vs j _ h; simp [itemAt] at h
              | cons c cs ih =>
                rintro vs j ⟨r, rest, rfl, hr, hrest⟩ h
                unfold itemAt at h
                cases h0 : Nat.beq j 0 with
                | true =>
                  rw [h0] at h
                  injection h with h
                  subst h
                  obtain ⟨hlen, rfl⟩ := hr
                  have : j = 0 := Nat.eq_of_beq_eq_true h0
                  subst this
                  refine ⟨hlen, fun i u hu => ?_⟩
                  rw [Nat.zero_add, List.getElem?_append_left (by simpa using (List.getElem?_eq_some_iff.1 hu).1)]
                  simp [hu]
                | false =>
                  rw [h0] at h
                  simp only at h
                  cases h1 : Nat.ble c.size j with
                  | true =>
                    rw [h1] at h
                    have hle := Nat.le_of_ble_eq_true h1
                    obtain ⟨hlen, hk⟩ := ih rest (j - c.size) hrest h
                    refine ⟨hlen, fun i u hu => ?_⟩
                    rw [List.getElem?_append_right (by rw [hr.len]; omega), hr.len, show j + i - c.size = j - c.size + i from by omega]
                    exact hk i u hu
                  | false => rw [h1] at h; cases h
            obtain ⟨hlen, hk⟩ := key cs cs'.toList j h8 hi
            refine ⟨_, cap, by rw [hlen]; rfl, by rw [hlen]; exact h3, fun hne => ⟨_, l'.map (.int k), rfl, .inr ⟨b, _, by simp [Cell.names], hx, h1⟩, ListRel_ints l', fun i u hu => ?_⟩⟩
            rw [add_at, cell_at h7, ← Array.getElem?_toList]
            rw [List.getElem?_map] at hu
            cases hi' : l'[i]? with
            | none => rw [hi'] at hu; cases hu
            | some y =>
              rw [hi'] at hu
              injection hu with hu
              subst hu
              exact hk i y hi'
          | _ => cases h
  | _ => simp [sliceOf] at h

theorem slAs_rel {E : Env} {look : Nat → Option Blk} (hH : HeapOk E) (hl : ∀ b x, look b = some x → E.H b = some x) {c : Cell} {v : Value} {t : Ty} {l : List (Den t)}
    (h : slAs look t c = some l) (hc : CellR E c [v]) : SlR E.w (SU E c.names) (CR E.w E.S t) l v := by
  unfold slAs at h
  split at h
  · injection h with h
    subst h
    obtain ⟨e, _⟩ := hc
    injection e with e
    subst e
    exact ⟨none, 0, rfl, Nat.le_refl _, fun hne => absurd rfl hne⟩
  · split at h
    · rename_i u l' hs
      split at h
      · rename_i he hq
        injection h with h
        obtain rfl := he.down
        subst h
        exact sliceOf_rel hH hl hs hc
      · cases h
    · cases h

theorem slAs_names {look : Nat → Option Blk} {c : Cell} {t : Ty} {l : List (Den t)} (h : slAs look t c = some l) :
    frzN c = c.names ∨ ∀ E v, CellR E c [v] → l = [] ∧ v = .slice none 0 0 := by
  unfold slAs at h
  split at h
  · refine .inr fun E v hc => ?_
    injection h with h
    obtain ⟨e, _⟩ := hc
    injection e with e
    exact ⟨h.symm, e⟩
  · cases c <;> first | exact .inl rfl | (simp [sliceOf] at h)

/-- cells as data -/
theorem dec_rel {E : Env} {look : Nat → Option Blk} (hH : HeapOk E) (hl : ∀ b x, look b = some x → E.H b = some x) : ∀ {t : Ty} {cs rest : List Cell} {vs : List Value} {d : Den t} {us : List Nat},
    dec look t cs = some (d, us, rest) → IR E cs vs → ∃ a b, vs = a ++ b ∧ CR E.w (SU E us) t d a ∧ IR E rest b := by
  intro t
  induction t with
  | int k =>
    intro cs rest vs d us h hr
    unfold dec at h
    split at h
    · split at h
      · rename_i hk
        simp only [Option.some.injEq, Prod.mk.injEq] at h
        obtain ⟨rfl, rfl, rfl⟩ := h
        obtain ⟨a, b, rfl, ⟨rfl, _⟩, hb⟩ := hr
        have := of_decide_eq_true hk
        subst this
        exact ⟨_, b, rfl, rfl, hb⟩
      · cases h
    · cases h
  | ints k n =>
    intro cs rest vs d us h hr
    unfold dec at h
    split at h
    · split at h
      · rename_i hk
        simp only [Option.some.injEq, Prod.mk.injEq] at h
        obtain ⟨rfl, rfl, rfl⟩ := h
        obtain ⟨a, b, rfl, ⟨hlen, rfl⟩, hb⟩ := hr
        rw [Bool.and_eq_true] at hk
        have h1 := of_decide_eq_true hk.1
        have h2 := Nat.eq_of_beq_eq_true hk.2
        subst h1 h2
        exact ⟨_, b, rfl, ⟨hlen, rfl⟩, hb⟩
      · cases h
    · cases h
  | bool =>
    intro cs rest vs d us h hr
    unfold dec at h
    split at h
    · simp only [Option.some.injEq, Prod.mk.injEq] at h
      obtain ⟨rfl, rfl, rfl⟩ := h
      obtain ⟨a, b, rfl, ⟨rfl, _⟩, hb⟩ := hr
      exact ⟨_, b, rfl, rfl, hb⟩
    · cases h
  | str =>
    intro cs rest vs d us h hr
    unfold dec at h
    split at h
    · simp only [Option.some.injEq, Prod.mk.injEq] at h
      obtain ⟨rfl, rfl, rfl⟩ := h
      obtain ⟨a, b, rfl, ⟨rfl, _⟩, hb⟩ := hr
      exact ⟨_, b, rfl, rfl, hb⟩
    · cases h
  | sl t ih =>
    intro cs rest vs d us h hr
    unfold dec at h
    cases cs with
    | nil => cases h
    | cons c r =>
      simp only at h
      cases hs : slAs look t c with
      | none => rw [hs] at h; cases h
      | some l =>
        rw [hs] at h
        simp only [Option.some.injEq, Prod.mk.injEq] at h
        obtain ⟨rfl, hus, rfl⟩ := h
        obtain ⟨a, b, rfl, ha, hb⟩ := hr
        have hone : ∃ v, a = [v] := by
          have hlen := ha.len
          have : c.size = 1 := by
            unfold slAs at hs
            cases c <;> first | rfl | (simp [sliceOf] at hs)
          rw [this] at hlen
          match a, hlen with
          | [v], _ => exact ⟨v, rfl⟩
        obtain ⟨v, rfl⟩ := hone
        refine ⟨[v], b, rfl, ⟨v, rfl, ?_⟩, hb⟩
        rcases slAs_names hs with hn | hn
        · rw [hn] at hus
          subst hus
          exact (slAs_rel hH hl hs ha).mono (fun _ hg => ⟨hg, rfl⟩) fun _ _ hx => hx.su
        · obtain ⟨rfl, rfl⟩ := hn E v ha
          exact ⟨none, 0, rfl, Nat.le_refl _, fun hne => absurd rfl hne⟩
  | pair t1 t2 ih1 ih2 =>
    intro cs rest vs d us h hr
    unfold dec at h
    cases h1 : dec look t1 cs with
    | none => rw [h1] at h; cases h
    | some x =>
      obtain ⟨x, u, r⟩ := x
      rw [h1] at h
      simp only at h
      cases h2 : dec look t2 r with
      | none => rw [h2] at h; cases h
      | some y =>
        obtain ⟨y, u', r'⟩ := y
        rw [h2] at h
        simp only [Option.some.injEq, Prod.mk.injEq] at h
        obtain ⟨rfl, rfl, rfl⟩ := h
        obtain ⟨a, b, rfl, ha, hb⟩ := ih1 h1 hr
        obtain ⟨a', b', rfl, ha', hb'⟩ := ih2 h2 hb
        exact ⟨a ++ a', b', by simp, ⟨a, a', rfl, ha.su_mono (by simp +contextual), ha'.su_mono (by simp +contextual)⟩, hb'⟩

theorem decAll_rel {E : Env} {look : Nat → Option Blk} (hH : HeapOk E) (hl : ∀ b x, look b = some x → E.H b = some x) {t : Ty} {cs : List Cell} {vs : List Value} {d : Den t} {us : List Nat}
    (h : decAll look t cs = some (d, us)) (hr : IR E cs vs) : CR E.w (SU E us) t d vs := by
  unfold decAll at h
  split at h
  · rename_i x u hd
    simp only [Option.some.injEq, Prod.mk.injEq] at h
    obtain ⟨rfl, rfl⟩ := h
    obtain ⟨a, b, rfl, ha, hb⟩ := dec_rel hH hl hd hr
    simp only [IR] at hb
    subst hb
    simpa using ha
  · cases h

end Go.Fw

/- How the abstract heap and the world go on together. -/
namespace Go.Fw
set_option linter.unusedVariables false
set_option linter.unusedSimpArgs false

theorem setF_kill (us : List Nat) : ∀ (H : Nat → Option Blk) (b : Nat), setF H (us.map fun u => (u, none)) b = if b ∈ us then none else H b := by
  induction us with
  | nil => intro H b; rfl
  | cons u us ih =>
    intro H b
    simp only [List.map_cons, setF, ih]
    by_cases h : b = u
    · subst h; simp
    · simp [h]

theorem setF_append (a c : List (Nat × Option Blk)) : ∀ (H : Nat → Option Blk), setF H (a ++ c) = setF (setF H a) c := by
  induction a with
  | nil => intro H; rfl
  | cons x a ih => intro H; obtain ⟨b, o⟩ := x; simp only [List.cons_append, setF]; exact ih _

def killE (E : Env) (us : List Nat) : Env := { E with S := SU E us, H := fun b => if b ∈ us then none else E.H b }

theorem killE_ext {E : Env} (us : List Nat) : Ext E (killE E us) := by
  refine ⟨fun g hg => ⟨.inl hg, rfl⟩, fun _ h => h, fun b x' _ hx => ?_⟩
  by_cases hb : b ∈ us
  · simp [killE, hb] at hx
  · simp only [killE, hb, if_false] at hx
    exact ⟨x', hx, rfl, rfl, fun g cs el _ h => ⟨cs, h, rfl⟩⟩

theorem live_lt {E : Env} (hH : HeapOk E) {b g : Nat} {x : Blk} (hx : E.H b = some x) (hr : E.ρ b = some g) : g < E.w.heap.size ∧ ∃ o, E.w.heap[g]? = some o := by
  have key : ∃ o, E.w.heap[g]? = some o := by
    obtain ⟨_, hb, _⟩ := hH.blk b x hx
    cases x with
    | arr t l =>
      rcases hb with ⟨h, _⟩ | ⟨g', cs, el, us, spare, h1, h2, _⟩
      · rw [hr] at h; cases h
      · rw [hr] at h1; injection h1 with h1; subst h1; exact ⟨_, h2⟩
    | var is =>
      obtain ⟨g', cs, el, h1, h2, _⟩ := hb
      rw [hr] at h1; injection h1 with h1; subst h1; exact ⟨_, h2⟩
    | mp ka kt vt l =>
      obtain ⟨g', es, c, h1, h2, _⟩ := hb
      rw [hr] at h1; injection h1 with h1; subst h1; exact ⟨_, h2⟩
  obtain ⟨o, h⟩ := key
  exact ⟨(Array.getElem?_eq_some_iff.1 h).1, o, h⟩

theorem BlkR.ext {E E' : Env} (h : Ext E E') {b : Nat} {x : Blk} (hr : E'.ρ b = E.ρ b) (hw : ∀ g, E.ρ b = some g → E'.w.heap[g]? = E.w.heap[g]?) (hb : BlkR E b x) : BlkR E' b x := by
  cases x with
  | arr t l =>
    rcases hb with ⟨h1, h2⟩ | ⟨g, cs, el, us, spare, h1, h2, h3, h4⟩
    · exact .inl ⟨hr.trans h1, h2⟩
    · exact .inr ⟨g, cs, el, us, spare, hr.trans h1, (hw g h1).trans h2, h3, h4.mono fun _ _ hx => hx.mono h.S⟩
  | var is =>
    obtain ⟨g, cs, el, h1, h2, h3⟩ := hb
    exact ⟨g, cs, el, hr.trans h1, (hw g h1).trans h2, h3.ext h⟩
  | mp ka kt vt l =>
    obtain ⟨g, es, c, h1, h2, h3⟩ := hb
    exact ⟨g, es, c, hr.trans h1, (hw g h1).trans h2, h3⟩

theorem killE_ok {E : Env} (hH : HeapOk E) (us : List Nat) : HeapOk (killE E us) := by
  have hx' : ∀ b x, (killE E us).H b = some x → b ∉ us ∧ E.H b = some x := by
    intro b x hx
    by_cases hb : b ∈ us
    · simp [killE, hb] at hx
    · exact ⟨hb, by simpa [killE, hb] using hx⟩
  refine ⟨fun b x hx => ?_, fun b b' x x' g hx hx'' hr hr' => ?_, fun g hg => ?_⟩
  · obtain ⟨hn, hx⟩ := hx' b x hx
    obtain ⟨h1, h2, h3⟩ := hH.blk b x hx
    refine ⟨h1, h2.ext (killE_ext us) rfl (fun _ _ => rfl), fun g hg hs => ?_⟩
    rcases hs with hs | ⟨u, y, hu, hy, hr⟩
    · exact h3 g hg hs
    · exact hn (hH.inj b u x y g hx hy hg hr ▸ hu)
  · exact hH.inj b b' x x' g (hx' b x hx).2 (hx' b' x' hx'').2 hr hr'
  · rcases hg with hg | ⟨u, y, hu, hy, hr⟩
    · exact hH.st g hg
    · exact (live_lt hH hy hr).1

theorem killE_fr {E : Env} (us : List Nat) {F : Frame} (h : FrameOk F E) : FrameOk F (killE E us) := by
  refine ⟨h.os, h.tape, h.output, h.size, h.old, fun b x g hx hr => ?_, fun g hg => ?_⟩
  · by_cases hb : b ∈ us
    · simp [killE, hb] at hx
    · exact h.own b x g (by simpa [killE, hb] using hx) hr
  · rcases hg with hg | ⟨u, y, hu, hy, hr⟩
    · exact h.S g hg
    · exact .inr (h.own u y g hy hr)

/-- a new block -/
def newE (E : Env) (nm : Nat) (blk : Blk) (w' : World) : Env :=
  { w := w', ρ := fun b => if b = nm then some E.w.heap.size else E.ρ b, S := E.S, H := fun b => if b = nm then some blk else E.H b, U := fun b => E.U b ∨ b = nm }

theorem push_old {w w' : World} {o : Obj} (hw : w'.heap = w.heap.push o) {g : Nat} (h : g < w.heap.size) : w'.heap[g]? = w.heap[g]? := by
  rw [hw, Array.getElem?_push, if_neg (by omega)]
theorem push_new {w w' : World} {o : Obj} (hw : w'.heap = w.heap.push o) : w'.heap[w.heap.size]? = some o := by
  rw [hw, Array.getElem?_push, if_pos rfl]

theorem newE_ext {E : Env} (hH : HeapOk E) {nm : Nat} (hnm : ¬ E.U nm) {blk : Blk} {w' : World} {o : Obj} (hw : w'.heap = E.w.heap.push o) : Ext E (newE E nm blk w') := by
  refine ⟨fun g hg => ⟨hg, push_old hw (hH.st g hg)⟩, fun b hb => .inl hb, fun b x' hb hx => ?_⟩
  have hne : b ≠ nm := fun e => hnm (e ▸ hb)
  simp only [newE, hne, if_false] at hx
  refine ⟨x', hx, by simp [newE, hne], rfl, fun g cs el hr hc => ⟨cs, ?_, rfl⟩⟩
  rw [show (newE E nm blk w').w = w' from rfl, push_old hw (Array.getElem?_eq_some_iff.1 hc).1]
  exact hc

/-- what the cells of a new block are -/
def Holds (E : Env) : Blk → List Value → Prop
  | .arr t l, vs => ∃ us spare, vs = us ++ spare ∧ ListRel (CR E.w E.S t) l us
  | .var is, vs => IR E is vs
  | .mp _ _ _ _, _ => False

theorem newE_ok {E : Env} (hH : HeapOk E) {nm : Nat} (hnm : ¬ E.U nm) {blk : Blk} {w' : World} {cs : Array Value} {el : TypeId} (hw : w'.heap = E.w.heap.push (.cells cs el)) (hb : Holds E blk cs.toList) : HeapOk (newE E nm blk w') := by
  have hext := newE_ext hH hnm (blk := blk) hw
  refine ⟨fun b x hx => ?_, fun b b' x x' g hx hx' hr hr' => ?_, fun g hg => ?_⟩
  · by_cases h : b = nm
    · subst h
      simp only [newE, if_true, Option.some.injEq] at hx
      subst hx
      refine ⟨.inr rfl, ?_, fun g hg hs => ?_⟩
      · cases blk with
        | arr t l =>
          obtain ⟨us, spare, h1, h2⟩ := hb
          exact .inr ⟨_, cs, el, us, spare, by simp [newE], push_new hw, h1, h2.mono fun _ _ hx => hx.mono hext.S⟩
        | var is => exact ⟨_, cs, el, by simp [newE], push_new hw, hb.ext hext⟩
        | mp ka kt vt l => exact hb.elim
      · simp only [newE, if_true, Option.some.injEq] at hg
        have := hH.st g hs
        omega
    · simp only [newE, h, if_false] at hx
      obtain ⟨h1, h2, h3⟩ := hH.blk b x hx
      refine ⟨.inl h1, h2.ext hext (by simp [newE, h]) (fun g hg => push_old hw (live_lt hH hx hg).1), fun g hg => h3 g (by simpa [newE, h] using hg)⟩
  · by_cases h : b = nm <;> by_cases h' : b' = nm
    · rw [h, h']
    · simp only [newE, h, h', if_true, if_false, Option.some.injEq] at hx hx' hr hr'
      have := (live_lt hH hx' hr').1
      omega
    · simp only [newE, h, h', if_true, if_false, Option.some.injEq] at hx hx' hr hr'
      have := (live_lt hH hx hr).1
      omega
    · simp only [newE, h, h', if_false] at hx hx' hr hr'
      exact hH.inj b b' x x' g hx hx' hr hr'
  · rw [show (newE E nm blk w').w = w' from rfl, hw]
    have := hH.st g hg
    simp
    omega

theorem newE_fr {E : Env} (hH : HeapOk E) {nm : Nat} {blk : Blk} {w' : World} {o : Obj} (hw : w'.heap = E.w.heap.push o) (h1 : w'.os = E.w.os) (h2 : w'.tape = E.w.tape) (h3 : w'.output = E.w.output) {F : Frame} (h : FrameOk F E) : FrameOk F (newE E nm blk w') := by
  refine ⟨h1.trans h.os, h2.trans h.tape, h3.trans h.output, ?_, fun g hg ho => ?_, fun b x g hx hr => ?_, h.S⟩
  · rw [show (newE E nm blk w').w = w' from rfl, hw]
    have := h.size
    simp
    omega
  · rw [show (newE E nm blk w').w = w' from rfl, push_old hw (by have := h.size; omega)]
    exact h.old g hg ho
  · by_cases hb : b = nm
    · subst hb
      simp only [newE, if_true, Option.some.injEq] at hr
      have := h.size
      exact .inl (by omega)
    · simp only [newE, hb, if_false] at hx hr
      exact h.own b x g hx hr

theorem Step.newK {E : Env} {r : Res} {nm : Nat} {us : List Nat} {blk : Blk} {w' : World} {cs : Array Value} {el : TypeId} (hH : HeapOk E) (hr1 : r.add = [blk]) (hr2 : r.set = us.map fun u => (u, none)) (hnm : ¬ E.U nm)
    (hw : w'.heap = E.w.heap.push (.cells cs el)) (h1 : w'.os = E.w.os) (h2 : w'.tape = E.w.tape) (h3 : w'.output = E.w.output) (hb : Holds (killE E us) blk cs.toList) : Step E r nm (newE (killE E us) nm blk w') := by
  have hk := killE_ok hH us
  refine ⟨(killE_ext us).trans (newE_ext hk hnm hw), newE_ok hk hnm hw hb, fun b => ?_, fun b => ?_, fun F hF => newE_fr hk hw h1 h2 h3 (killE_fr us hF)⟩
  · rw [hr1, hr2]
    simp only [addF, newE, killE, setF_kill]
  · rw [hr1]
    simp only [newE, killE, List.length_singleton]
    constructor
    · rintro (h | h)
      · exact .inl h
      · exact .inr (by omega)
    · rintro (h | h)
      · exact .inl h
      · exact .inr (by omega)

/-- a block that is written -/
def setE (E : Env) (b : Nat) (blk : Blk) (w' : World) : Env := { E with w := w', H := fun x => if x = b then some blk else E.H x }

structure Writes (E : Env) (g : Nat) (cs cs' : Array Value) (el : TypeId) (w' : World) : Prop where
  was : E.w.heap[g]? = some (.cells cs el (0, 0))
  is : w'.heap[g]? = some (.cells cs' el (0, 0))
  len : cs'.size = cs.size
  oth : ∀ i, i ≠ g → w'.heap[i]? = E.w.heap[i]?
  size : w'.heap.size = E.w.heap.size
  os : w'.os = E.w.os
  tape : w'.tape = E.w.tape
  output : w'.output = E.w.output

theorem setE_ext {E : Env} (hH : HeapOk E) {b g : Nat} {x blk : Blk} {cs cs' : Array Value} {el : TypeId} {w' : World} (hx : E.H b = some x) (hr : E.ρ b = some g) (hsh : shape blk = shape x) (hw : Writes E g cs cs' el w') : Ext E (setE E b blk w') := by
  have hns : ∀ i, E.S i → i ≠ g := fun i hi e => (hH.blk b x hx).2.2 g hr (e ▸ hi)
  refine ⟨fun i hi => ⟨hi, hw.oth i (hns i hi)⟩, fun _ h => h, fun c y hc hy => ?_⟩
  by_cases h : c = b
  · subst h
    simp only [setE, if_true, Option.some.injEq] at hy
    subst hy
    refine ⟨x, hx, rfl, hsh, fun g' cs0 el0 hr' hc0 => ?_⟩
    rw [hr] at hr'; injection hr' with hr'; subst hr'
    rw [hw.was] at hc0
    injection hc0 with hc0
    injection hc0 with e1 e2
    subst e1 e2
    exact ⟨cs', hw.is, hw.len⟩
  · simp only [setE, h, if_false] at hy
    refine ⟨y, hy, rfl, rfl, fun g' cs0 el0 hr' hc0 => ⟨cs0, ?_, rfl⟩⟩
    have : g' ≠ g := fun e => h (hH.inj c b y x g hy hx (e ▸ hr') hr)
    exact (hw.oth g' this).trans hc0

theorem setE_ok {E : Env} (hH : HeapOk E) {b g : Nat} {x blk : Blk} {cs cs' : Array Value} {el : TypeId} {w' : World} (hx : E.H b = some x) (hr : E.ρ b = some g) (hsh : shape blk = shape x) (hw : Writes E g cs cs' el w') (hb : Holds E blk cs'.toList) : HeapOk (setE E b blk w') := by
  have hext := setE_ext hH hx hr hsh hw
  have hlive : ∀ c y, (setE E b blk w').H c = some y → ∃ y0, E.H c = some y0 := by
    intro c y hy
    by_cases h : c = b
    · exact ⟨x, h ▸ hx⟩
    · exact ⟨y, by simpa [setE, h] using hy⟩
  refine ⟨fun c y hy => ?_, fun c c' y y' i hy hy' hr1 hr2 => ?_, fun i hi => ?_⟩
  · by_cases h : c = b
    · subst h
      simp only [setE, if_true, Option.some.injEq] at hy
      subst hy
      obtain ⟨h1, h2, h3⟩ := hH.blk c x hx
      refine ⟨h1, ?_, h3⟩
      cases blk with
      | arr t l =>
        obtain ⟨us, spare, e1, e2⟩ := hb
        exact .inr ⟨g, cs', el, us, spare, hr, hw.is, e1, e2.mono fun _ _ hx => hx.mono hext.S⟩
      | var is => exact ⟨g, cs', el, hr, hw.is, hb.ext hext⟩
      | mp ka kt vt l => exact hb.elim
    · simp only [setE, h, if_false] at hy
      obtain ⟨h1, h2, h3⟩ := hH.blk c y hy
      exact ⟨h1, h2.ext hext rfl (fun g' hg' => hw.oth g' fun e => h (hH.inj c b y x g hy hx (e ▸ hg') hr)), h3⟩
  · obtain ⟨y0, h0⟩ := hlive c y hy
    obtain ⟨y1, h1⟩ := hlive c' y' hy'
    exact hH.inj c c' y0 y1 i h0 h1 hr1 hr2
  · rw [show (setE E b blk w').w = w' from rfl, hw.size]
    exact hH.st i hi

theorem setE_fr {E : Env} (hH : HeapOk E) {b g : Nat} {x blk : Blk} {cs cs' : Array Value} {el : TypeId} {w' : World} (hx : E.H b = some x) (hr : E.ρ b = some g) (hw : Writes E g cs cs' el w') {F : Frame} (h : FrameOk F E) : FrameOk F (setE E b blk w') := by
  refine ⟨hw.os.trans h.os, hw.tape.trans h.tape, hw.output.trans h.output, ?_, fun i hi ho => ?_, fun c y i hy hr' => ?_, h.S⟩
  · rw [show (setE E b blk w').w = w' from rfl, hw.size]; exact h.size
  · have : i ≠ g := by
      rintro rfl
      rcases h.own b x i hx hr with e | e
      · omega
      · exact ho e
    exact (hw.oth i this).trans (h.old i hi ho)
  · by_cases hc : c = b
    · subst hc; exact h.own c x i hx hr'
    · exact h.own c y i (by simpa [setE, hc] using hy) hr'

theorem Step.setK {E : Env} {r : Res} {nm : Nat} {us : List Nat} {b g : Nat} {x blk : Blk} {w' : World} {cs cs' : Array Value} {el : TypeId} (hH : HeapOk E) (hr1 : r.add = []) (hr2 : r.set = (us.map fun u => (u, none)) ++ [(b, some blk)])
    (hbu : b ∉ us) (hx : E.H b = some x) (hr : E.ρ b = some g) (hsh : shape blk = shape x) (hw : Writes E g cs cs' el w') (hb : Holds (killE E us) blk cs'.toList) : Step E r nm (setE (killE E us) b blk w') := by
  have hk := killE_ok hH us
  have hx' : (killE E us).H b = some x := by simp [killE, hbu, hx]
  have hw' : Writes (killE E us) g cs cs' el w' := ⟨hw.was, hw.is, hw.len, hw.oth, hw.size, hw.os, hw.tape, hw.output⟩
  refine ⟨(killE_ext us).trans (setE_ext hk hx' hr hsh hw'), setE_ok hk hx' hr hsh hw' hb, fun c => ?_, fun c => ?_, fun F hF => setE_fr hk hx' hr hw' (killE_fr us hF)⟩
  · rw [hr1, hr2, setF_append]
    simp only [addF, setE, killE, setF, setF_kill]
  · rw [hr1]
    simp [setE, killE]
    omega

/-- a row that an append has lengthened in its place: the old name is dead, the new one has its block -/
def appE (E : Env) (b nm : Nat) (blk : Blk) (w' : World) : Env :=
  { w := w', ρ := fun x => if x = nm then E.ρ b else E.ρ x, S := E.S, H := fun x => if x = nm then some blk else if x = b then none else E.H x, U := fun x => E.U x ∨ x = nm }

theorem Step.app {E : Env} {r : Res} {nm b g : Nat} {x blk : Blk} {w' : World} {cs cs' : Array Value} {el : TypeId} (hH : HeapOk E) (hr1 : r.add = [blk]) (hr2 : r.set = [(b, none)]) (hnm : ¬ E.U nm)
    (hx : E.H b = some x) (hr : E.ρ b = some g) (hw : Writes E g cs cs' el w') (hb : ∃ t l us spare, blk = .arr t l ∧ cs'.toList = us ++ spare ∧ ListRel (CR E.w E.S t) l us) : Step E r nm (appE E b nm blk w') := by
  have hbn : b ≠ nm := fun e => hnm (e ▸ (hH.blk b x hx).1)
  have hns : ∀ i, E.S i → i ≠ g := fun i hi e => (hH.blk b x hx).2.2 g hr (e ▸ hi)
  have hS : ∀ i, E.S i → E.S i ∧ w'.heap[i]? = E.w.heap[i]? := fun i hi => ⟨hi, hw.oth i (hns i hi)⟩
  have hold : ∀ c y, c ≠ nm → (appE E b nm blk w').H c = some y → c ≠ b ∧ E.H c = some y := by
    intro c y hc hy
    by_cases h : c = b
    · subst h; simp [appE, hc] at hy
    · exact ⟨h, by simpa [appE, h, hc] using hy⟩
  have hext : Ext E (appE E b nm blk w') := by
    refine ⟨hS, fun _ h => .inl h, fun c y hc hy => ?_⟩
    have hcn : c ≠ nm := fun e => hnm (e ▸ hc)
    obtain ⟨hcb, hy⟩ := hold c y hcn hy
    refine ⟨y, hy, by simp [appE, hcn], rfl, fun g' cs0 el0 hr' hc0 => ⟨cs0, ?_, rfl⟩⟩
    exact (hw.oth g' fun e => hcb (hH.inj c b y x g hy hx (e ▸ hr') hr)).trans hc0
  refine ⟨hext, ⟨fun c y hy => ?_, fun c c' y y' i hy hy' h1 h2 => ?_, fun i hi => ?_⟩, fun c => ?_, fun c => ?_, fun F h => ⟨hw.os.trans h.os, hw.tape.trans h.tape, hw.output.trans h.output, ?_, fun i hi ho => ?_, fun c y i hy hr' => ?_, h.S⟩⟩
  · by_cases hc : c = nm
    · subst hc
      simp only [appE, if_true, Option.some.injEq] at hy
      subst hy
      obtain ⟨t, l, us, spare, rfl, e1, e2⟩ := hb
      refine ⟨.inr rfl, .inr ⟨g, cs', el, us, spare, by simp [appE, hr], hw.is, e1, e2.mono fun _ _ hx => hx.mono hS⟩, fun i hi => ?_⟩
      have : E.ρ b = some i := by simpa [appE] using hi
      exact (hH.blk b x hx).2.2 i this
    · obtain ⟨hcb, hy⟩ := hold c y hc hy
      obtain ⟨h1, h2, h3⟩ := hH.blk c y hy
      exact ⟨.inl h1, h2.ext hext (by simp [appE, hc]) (fun g' hg' => hw.oth g' fun e => hcb (hH.inj c b y x g hy hx (e ▸ hg') hr)), fun i hi => h3 i (by simpa [appE, hc] using hi)⟩
  · by_cases hc : c = nm <;> by_cases hc' : c' = nm
    · rw [hc, hc']
    · obtain ⟨hcb, hy'⟩ := hold c' y' hc' hy'
      simp only [appE, hc, hc', if_true, if_false] at h1 h2
      exact absurd (hH.inj c' b y' x i hy' hx h2 h1) hcb
    · obtain ⟨hcb, hy⟩ := hold c y hc hy
      simp only [appE, hc, hc', if_true, if_false] at h1 h2
      exact absurd (hH.inj c b y x i hy hx h1 h2) hcb
    · obtain ⟨_, hy⟩ := hold c y hc hy
      obtain ⟨_, hy'⟩ := hold c' y' hc' hy'
      simp only [appE, hc, hc', if_false] at h1 h2
      exact hH.inj c c' y y' i hy hy' h1 h2
  · rw [show (appE E b nm blk w').w = w' from rfl, hw.size]
    exact hH.st i hi
  · rw [hr1, hr2]
    simp only [addF, setF, appE]
  · rw [hr1]
    simp only [appE, List.length_singleton]
    constructor
    · rintro (h | h)
      · exact .inl h
      · exact .inr (by omega)
    · rintro (h | h)
      · exact .inl h
      · exact .inr (by omega)
  · rw [show (appE E b nm blk w').w = w' from rfl, hw.size]; exact h.size
  · have : i ≠ g := by
      rintro rfl
      rcases h.own b x i hx hr with e | e
      · omega
      · exact ho e
    exact (hw.oth i this).trans (h.old i hi ho)
  · by_cases hc : c = nm
    · subst hc
      exact h.own b x i hx (by simpa [appE] using hr')
    · obtain ⟨_, hy⟩ := hold c y hc hy
      exact h.own c y i hy (by simpa [appE, hc] using hr')

end Go.Fw

