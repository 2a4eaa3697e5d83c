/- Part 1 of the proof. Conditions: none. -/
import Derived.Calls
import Derived.Orders
import Derived.Laws.Sem
namespace Go.Fw
set_option linter.unusedVariables false
set_option linter.unusedSimpArgs false
inductive Ty where
 |int (k:IntKind)|ints (k:IntKind) (n:Nat)|bool|str|sl (t:Ty)|pair (a b:Ty)
 deriving DecidableEq
@[reducible] def Den:Ty→Type
  |.int _=>Int
  |.ints _ _=>List Int
  |.bool=>Bool
  |.str=>ByteArray
  |.sl t=>List (Den t)
  |.pair a b=>Den a×Den b
def Ty.size:Ty→Nat
 |.pair a b=>a.size+b.size
 |.ints _ n=>n
 |_=>1
def dflt:(t:Ty)→Den t
 |.int _=>(0:Int)
 |.ints _ n=>List.replicate n (0:Int)
 |.bool=>false
 |.str=>ByteArray.empty
 |.sl _=>[]
 |.pair a b=>(dflt a,dflt b)
inductive Cell where
 |imm (v:Value)
 |run (k:IntKind) (n:Nat) (l:List Int)
 |ro (t:Ty) (l:List (Den t))
 |rptr (t:Ty) (l:List (Den t)) (i j:Nat)
 |own (b:Nat)
 |sub (b off len:Nat)
 |srun (b j:Nat)
 |svar (b j n:Nat)
 |ptr (b j:Nat)
 |pel (b i j:Nat)
 |pidx (b j i:Nat)
 |fn (f:FuncId) (caps:List Nat)
 |ifc (t:TypeId) (b:Nat)
 |map (b:Nat)
inductive V1 where
 |c (x:Cell)
 |agg (cs:List Cell)
inductive AV where
 |dead
 |one (v:V1)
 |tup (l:List V1)
inductive Blk where
 |arr (t:Ty) (l:List (Den t))
 |var (cs:List Cell)
 |mp (ka:Bool) (kt vt:Ty) (l:List (Den kt×Den vt))
@[reducible] def AV.imm(v:Value):AV:=.one (.c (.imm v))
@[reducible] def AV.cell(x:Cell):AV:=.one (.c x)
@[reducible] def AV.agg(cs:List Cell):AV:=.one (.agg cs)
@[reducible] def iv(k:IntKind)(n:Int):Cell:=.imm (.int k n)
@[reducible] def bv(b:Bool):Cell:=.imm (.bool b)
structure St where
 tmps:List AV
 heap:List (Option Blk)
inductive TD where
 |int (k:IntKind)|bool|str|slice (e:TypeId)|struct (fs:List (TypeId×Nat))|array (n:Nat) (e:TypeId)|ptr (e:TypeId)|iface|map (k e:TypeId)|other
structure TI where
 desc:TD
 size:Nat
 bytes:Nat
 zero:List Cell
 ety:Option Ty
 cmp:Bool:=false
def TI.isAgg(t:TI):Bool:=match t.desc with|.struct _=>true|.array _ _=>true|_=>false
structure Res where
 pre:Option Prop
 val:AV
 add:List Blk
 set:List (Nat×Option Blk)
structure CSpec where
 wr:Bool
 run:List V1→List Blk→Option (Option Prop×AV×List (Option Blk)×List Blk)
 eat:Bool:=false
structure Tab where
 ty:TypeId→Option TI
 fn:FuncId→Option CSpec
 meth:TypeId→String→Option FuncId
def Cell.size:Cell→Nat
 |.run _ n _=>n
 |_=>1
def V1.items:V1→List Cell
 |.c x=>[x]
 |.agg cs=>cs
def QaW:List Cell→Nat→Option Cell
 | [],_=>none
 |c::cs,off=>match Nat.beq off 0 with
  |true=>some c
  |false=>match Nat.ble c.size off with
   |true=>QaW cs (off-c.size)
   |false=>none
def QcY:List Cell→Nat→Option (List Cell)
 | [],n=>match Nat.beq n 0 with|true=>some []|false=>none
 |c::cs,n=>match Nat.beq n 0 with
  |true=>some []
  |false=>match Nat.ble c.size n with
   |true=>match QcY cs (n-c.size) with
    |some r=>some (c::r)
    |none=>none
   |false=>none
def QaB:List Cell→Nat→Nat→Option (List Cell)
 |cs,off,n=>match Nat.beq off 0 with
  |true=>QcY cs n
  |false=>match cs with
   | []=>none
   |c::cs=>match Nat.ble c.size off with
    |true=>QaB cs (off-c.size) n
    |false=>none
def QcM:List Cell→Nat→Cell→Option (List Cell)
 | [],_,_=>none
 |c::cs,off,x=>match Nat.beq off 0 with
  |true=>match Nat.beq c.size x.size with
   |true=>some (x::cs)
   |false=>none
  |false=>match Nat.ble c.size off with
   |true=>match QcM cs (off-c.size) x with
    |some r=>some (c::r)
    |none=>none
   |false=>none
def Qbn:List Cell→Nat→List Cell→Option (List Cell)
 |cs,_,[]=>some cs
 |cs,off,x::xs=>match QcM cs off x with
  |some r=>Qbn r (off+x.size) xs
  |none=>none
def cells:(t:Ty)→Den t→List Cell
 |.int k,x=>[iv k x]
 |.ints k n,l=>[.run k n l]
 |.bool,b=>[bv b]
 |.str,s=>[.imm (.string s)]
 |.sl t,l=>[.ro t l]
 |.pair a b,x=>cells a x.1++cells b x.2
def QD2:(a b:Ty)→Option (PLift (a=b)):=fun a b=>if h:a=b then some ⟨h⟩ else none
def Qar(look:Nat→Option Blk):Cell→Option ((t:Ty)×List (Den t))
 |.ro t l=>some ⟨t,l⟩
 |.own b=>match look b with|some (.arr t l)=>some ⟨t,l⟩|_=>none
 |.sub b off len=>match look b with|some (.arr t l)=>some ⟨t,(l.drop off).take len⟩|_=>none
 |.srun b j=>match look b with
  |some (.var cs)=>match QaW cs j with|some (.run k _ l)=>some ⟨.int k,l⟩|_=>none
  |_=>none
 |_=>none
def Qf0{t u:Ty}(h:t=u)(l:List (Den t)):List (Den u):=h ▸ l
def Qsa(look:Nat→Option Blk)(t:Ty)(c:Cell):Option (List (Den t)) :=
 match c with
 |.imm (.slice none 0 0)=>some []
 |c=>match Qar look c with
  |some ⟨u,l⟩=>match QD2 u t with
   |some h=>some (Qf0 h.down l)
   |none=>none
  |none=>none
def QHA:Cell→List Nat
 |.own b=>[b]
 |.sub b _ _=>[b]
 |.srun b _=>[b]
 |_=>[]
def dec(look:Nat→Option Blk):(t:Ty)→List Cell→Option (Den t×List Nat×List Cell)
 |.int k,cs=>match cs with
  |.imm (.int k' x)::r=>match decide (k'=k) with|true=>some (x,[],r)|false=>none
  |_=>none
 |.ints k n,cs=>match cs with
  |.run k' n' l::r=>match decide (k'=k)&&Nat.beq n' n with|true=>some (l,[],r)|false=>none
  |_=>none
 |.bool,cs=>match cs with
  |.imm (.bool b)::r=>some (b,[],r)
  |_=>none
 |.str,cs=>match cs with
  |.imm (.string s)::r=>some (s,[],r)
  |_=>none
 |.sl t,cs=>match cs with
  |c::r=>match Qsa look t c with
   |some l=>some (l,QHA c,r)
   |none=>none
  | []=>none
 |.pair a b,cs=>match dec look a cs with
  |some (x,u,r)=>match dec look b r with
   |some (y,u',r')=>some ((x,y),u++u',r')
   |none=>none
  |none=>none
def Qb3(look:Nat→Option Blk)(t:Ty)(cs:List Cell):Option (Den t×List Nat) :=
 match dec look t cs with
 |some (x,u,[])=>some (x,u)
 |_=>none
def Qn3:Value→AV
 |.agg cs=>match cs.toList.all (·.oneCell') with|true=>.agg (cs.toList.map .imm)|false=>.dead
 |.tuple _=>.dead
 |v=>.imm v
def Qfg(s:ByteArray)(i:Nat):Int:=((s.data.toList.getD i 0).toNat:Int)
def QmO(l:List Int):ByteArray:=⟨(l.map fun n=>UInt8.ofNat n.toNat).toArray⟩
def bytesOf(s:ByteArray):List Int:=s.data.toList.map fun b=>(b.toNat:Int)
def over{α:Type}:List α→List α→Nat→List α
 | [],_,_=>[]
 |d::ds,src,i=>src.getD i d::over ds src (i+1)
def ok1(v:AV):Option Res:=some { pre:=none,val:=v,add:=[],set:=[] }
def okP(p:Prop)(v:AV):Option Res:=some { pre:=some p,val:=v,add:=[],set:=[] }
def land(k:IntKind)(x y:Int):Int:=k.wrap (BitVec.ofInt k.bits x &&& BitVec.ofInt k.bits y).toNat
def lor(k:IntKind)(x y:Int):Int:=k.wrap (BitVec.ofInt k.bits x ||| BitVec.ofInt k.bits y).toNat
def lxor(k:IntKind)(x y:Int):Int:=k.wrap (BitVec.ofInt k.bits x ^^^ BitVec.ofInt k.bits y).toNat
def Q3(k:IntKind)(x y:Int):Int:=k.wrap (BitVec.ofInt k.bits x &&& ~~~(BitVec.ofInt k.bits y)).toNat
def shl(k:IntKind)(x y:Int):Int:=k.wrap (x*2 ^ (min y.toNat k.bits))
def shr(k:IntKind)(x y:Int):Int:=x.fdiv (2 ^ (min y.toNat k.bits))
def QEb(op:BinOp)(k:IntKind)(x y:Int):Option Res :=
 match op with
 |.add=>ok1 (.cell (iv k (k.wrap (x+y))))
 |.sub=>ok1 (.cell (iv k (k.wrap (x-y))))
 |.mul=>ok1 (.cell (iv k (k.wrap (x*y))))
 |.quo=>okP (y≠0) (.cell (iv k (k.wrap (x.tdiv y))))
 |.rem=>okP (y≠0) (.cell (iv k (x.tmod y)))
 |.and=>ok1 (.cell (iv k (land k x y)))
 |.or=>ok1 (.cell (iv k (lor k x y)))
 |.xor=>ok1 (.cell (iv k (lxor k x y)))
 |.andNot=>ok1 (.cell (iv k (Q3 k x y)))
 |.eql=>ok1 (.cell (bv (x==y)))
 |.neq=>ok1 (.cell (bv (x != y)))
 |.lss=>ok1 (.cell (bv (decide (x<y))))
 |.leq=>ok1 (.cell (bv (decide (x≤y))))
 |.gtr=>ok1 (.cell (bv (decide (x>y))))
 |.geq=>ok1 (.cell (bv (decide (x≥y))))
 |_=>none
def Qm(s t:ByteArray):Bool:=s.toList==t.toList
def Qn4:IntKind→IntKind→Bool:=fun a b=>decide (a=b)
def unA(op:UnOp)(a:AV):Option Res :=
 match op,a with
 |.neg,.one (.c (.imm (.int k x)))=>ok1 (.cell (iv k (k.wrap (0-x))))
 |.xor,.one (.c (.imm (.int k x)))=>ok1 (.cell (iv k (lxor k (if k.signed then -1 else k.max) x)))
 |.not,.one (.c (.imm (.bool b)))=>ok1 (.cell (bv (!b)))
 |_,_=>none
end Go.Fw

