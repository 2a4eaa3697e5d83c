/- Part 1 of the proof: Fw1 Fw2 Fw3 Fw4 Fw5 Fw6. No statement is handed in here; conditions: none. -/
import Derived.Calls
import Derived.Orders
import Derived.Laws.Sem
import Derived.Below
import Derived.Laws.Cells
import Derived.Laws.Rows
import Derived.Laws.CopyRow
import Derived.Laws.Entries
import Derived.Laws.MakeOwn
namespace Go.Fw
set_option linter.unusedVariables false
set_option linter.unusedSimpArgs false
inductive Ty where
 |int (k:IntKind) |ints (k:IntKind) (n:Nat) |bool |str |sl (t:Ty) |pair (a b:Ty)
 deriving DecidableEq
@[reducible] def Den:Ty→Type
  |.int _=>Int
  |.ints _ _=>List Int
  |.bool=>Bool
  |.str=>ByteArray
  |.sl t=>List (Den t)
  |.pair a b=>Den a × Den b
def Ty.size:Ty→Nat
 |.pair a b=>a.size+b.size
 |.ints _ n=>n
 |_=>1
def dflt:(t:Ty)→Den t
 |.int _=>(0:Int)
 |.ints _ n=>List.replicate n (0:Int)
 |.bool=>false
 |.str=>ByteArray.empty
 |.sl _=>[]
 |.pair a b=>(dflt a,dflt b)
inductive QD where
 |imm (v:Value)
 |run (k:IntKind) (n:Nat) (l:List Int)
 |ro (t:Ty) (l:List (Den t))
 |rptr (t:Ty) (l:List (Den t)) (i j:Nat)
 |own (b:Nat)
 |sub (b off len:Nat)
 |srun (b j:Nat)
 |svar (b j n:Nat)
 |ptr (b j:Nat)
 |pel (b i j:Nat)
 |pidx (b j i:Nat)
 |fn (f:FuncId) (caps:List Nat)
 |ifc (t:TypeId) (b:Nat)
 |map (b:Nat)
inductive V1 where
 |c (x:QD)
 |agg (cs:List QD)
inductive AV where
 |dead
 |one (v:V1)
 |tup (l:List V1)
inductive Blk where
 |arr (t:Ty) (l:List (Den t))
 |var (cs:List QD)
 |mp (ka:Bool) (kt vt:Ty) (l:List (Den kt × Den vt))
@[reducible] def AV.imm (v:Value):AV:=.one (.c (.imm v))
@[reducible] def AV.cell (x:QD):AV:=.one (.c x)
@[reducible] def AV.agg (cs:List QD):AV:=.one (.agg cs)
@[reducible] def iv (k:IntKind) (n:Int):QD:=.imm (.int k n)
@[reducible] def bv (b:Bool):QD:=.imm (.bool b)
structure St where
 tmps:List AV
 heap:List (Option Blk)
inductive TD where
 |int (k:IntKind) |bool |str |slice (e:TypeId) |struct (fs:List (TypeId × Nat)) |array (n:Nat) (e:TypeId) |ptr (e:TypeId) |iface |map (k e:TypeId) |other
structure TI where
 desc:TD
 size:Nat
 bytes:Nat
 zero:List QD
 ety:Option Ty
 cmp:Bool:=false
def TI.isAgg (t:TI):Bool:=match t.desc with |.struct _=>true |.array _ _=>true |_=>false
structure Res where
 pre:Option Prop
 val:AV
 add:List Blk
 set:List (Nat × Option Blk)
structure Qcm where
 wr:Bool
 run:List V1→List Blk→Option (Option Prop × AV × List (Option Blk) × List Blk)
 eat:Bool:=false
structure Tab where
 ty:TypeId→Option TI
 fn:FuncId→Option Qcm
 meth:TypeId→String→Option FuncId
def QD.size:QD→Nat
 |.run _ n _=>n
 |_=>1
def V1.items:V1→List QD
 |.c x=>[x]
 |.agg cs=>cs
def QaJ:List QD→Nat→Option QD
 | [],_=>none
 |c :: cs,off=>match Nat.beq off 0 with
   |true=>some c
   |false=>match Nat.ble c.size off with
     |true=>QaJ cs (off-c.size)
     |false=>none
def QcD:List QD→Nat→Option (List QD)
 | [],n=>match Nat.beq n 0 with |true=>some [] |false=>none
 |c :: cs,n=>match Nat.beq n 0 with
   |true=>some []
   |false=>match Nat.ble c.size n with
     |true=>match QcD cs (n-c.size) with
       |some r=>some (c :: r)
       |none=>none
     |false=>none
def Qar:List QD→Nat→Nat→Option (List QD)
 |cs,off,n=>match Nat.beq off 0 with
   |true=>QcD cs n
   |false=>match cs with
     | []=>none
     |c :: cs=>match Nat.ble c.size off with
       |true=>Qar cs (off-c.size) n
       |false=>none
def Qcx:List QD→Nat→QD→Option (List QD)
 | [],_,_=>none
 |c :: cs,off,x=>match Nat.beq off 0 with
   |true=>match Nat.beq c.size x.size with
     |true=>some (x :: cs)
     |false=>none
   |false=>match Nat.ble c.size off with
     |true=>match Qcx cs (off-c.size) x with
       |some r=>some (c :: r)
       |none=>none
     |false=>none
def Qa5:List QD→Nat→List QD→Option (List QD)
 |cs,_,[]=>some cs
 |cs,off,x :: xs=>match Qcx cs off x with
   |some r=>Qa5 r (off+x.size) xs
   |none=>none
def cells:(t:Ty)→Den t→List QD
 |.int k,x=>[iv k x]
 |.ints k n,l=>[.run k n l]
 |.bool,b=>[bv b]
 |.str,s=>[.imm (.string s)]
 |.sl t,l=>[.ro t l]
 |.pair a b,x=>cells a x.1++cells b x.2
def QBr:(a b:Ty)→Option (PLift (a=b)):=fun a b=>if h:a=b then some ⟨h⟩ else none
def Qak (look:Nat→Option Blk):QD→Option ((t:Ty) × List (Den t))
 |.ro t l=>some ⟨t,l⟩
 |.own b=>match look b with |some (.arr t l)=>some ⟨t,l⟩ |_=>none
 |.sub b off len=>match look b with |some (.arr t l)=>some ⟨t,(l.drop off).take len⟩ |_=>none
 |.srun b j=>match look b with
   |some (.var cs)=>match QaJ cs j with |some (.run k _ l)=>some ⟨.int k,l⟩ |_=>none
   |_=>none
 |_=>none
def Qfn {t u:Ty} (h:t=u) (l:List (Den t)):List (Den u):=h ▸ l
def QqI (look:Nat→Option Blk) (t:Ty) (c:QD):Option (List (Den t)) :=
 match c with
 |.imm (.slice none 0 0)=>some []
 |c=>match Qak look c with
   |some ⟨u,l⟩=>match QBr u t with
     |some h=>some (Qfn h.down l)
     |none=>none
   |none=>none
def QEA:QD→List Nat
 |.own b=>[b]
 |.sub b _ _=>[b]
 |.srun b _=>[b]
 |_=>[]
def dec (look:Nat→Option Blk):(t:Ty)→List QD→Option (Den t × List Nat × List QD)
 |.int k,cs=>match cs with
   |.imm (.int k' x) :: r=>match decide (k'=k) with |true=>some (x,[],r) |false=>none
   |_=>none
 |.ints k n,cs=>match cs with
   |.run k' n' l :: r=>match decide (k'=k)&&Nat.beq n' n with |true=>some (l,[],r) |false=>none
   |_=>none
 |.bool,cs=>match cs with
   |.imm (.bool b) :: r=>some (b,[],r)
   |_=>none
 |.str,cs=>match cs with
   |.imm (.string s) :: r=>some (s,[],r)
   |_=>none
 |.sl t,cs=>match cs with
   |c :: r=>match QqI look t c with
     |some l=>some (l,QEA c,r)
     |none=>none
   | []=>none
 |.pair a b,cs=>match dec look a cs with
   |some (x,u,r)=>match dec look b r with
     |some (y,u',r')=>some ((x,y),u++u',r')
     |none=>none
   |none=>none
def QbJ (look:Nat→Option Blk) (t:Ty) (cs:List QD):Option (Den t × List Nat) :=
 match dec look t cs with
 |some (x,u,[])=>some (x,u)
 |_=>none
def QmX:Value→AV
 |.agg cs=>match cs.toList.all (·.oneCell') with |true=>.agg (cs.toList.map .imm) |false=>.dead
 |.tuple _=>.dead
 |v=>.imm v
def QeH (s:ByteArray) (i:Nat):Int:=((s.data.toList.getD i 0).toNat:Int)
def QlN (l:List Int):ByteArray:=⟨(l.map fun n=>UInt8.ofNat n.toNat).toArray⟩
def bytesOf (s:ByteArray):List Int:=s.data.toList.map fun b=>(b.toNat:Int)
def over {α:Type}:List α→List α→Nat→List α
 | [],_,_=>[]
 |d :: ds,src,i=>src.getD i d :: over ds src (i+1)
def ok1 (v:AV):Option Res:=some { pre:=none,val:=v,add:=[],set:=[] }
def okP (p:Prop) (v:AV):Option Res:=some { pre:=some p,val:=v,add:=[],set:=[] }
def land (k:IntKind) (x y:Int):Int:=k.wrap (BitVec.ofInt k.bits x &&& BitVec.ofInt k.bits y).toNat
def lor (k:IntKind) (x y:Int):Int:=k.wrap (BitVec.ofInt k.bits x ||| BitVec.ofInt k.bits y).toNat
def lxor (k:IntKind) (x y:Int):Int:=k.wrap (BitVec.ofInt k.bits x ^^^ BitVec.ofInt k.bits y).toNat
def Q3 (k:IntKind) (x y:Int):Int:=k.wrap (BitVec.ofInt k.bits x &&& ~~~(BitVec.ofInt k.bits y)).toNat
def shl (k:IntKind) (x y:Int):Int:=k.wrap (x*2 ^ (min y.toNat k.bits))
def shr (k:IntKind) (x y:Int):Int:=x.fdiv (2 ^ (min y.toNat k.bits))
def QBA (op:BinOp) (k:IntKind) (x y:Int):Option Res :=
 match op with
 |.add=>ok1 (.cell (iv k (k.wrap (x+y))))
 |.sub=>ok1 (.cell (iv k (k.wrap (x-y))))
 |.mul=>ok1 (.cell (iv k (k.wrap (x*y))))
 |.quo=>okP (y≠0) (.cell (iv k (k.wrap (x.tdiv y))))
 |.rem=>okP (y≠0) (.cell (iv k (x.tmod y)))
 |.and=>ok1 (.cell (iv k (land k x y)))
 |.or=>ok1 (.cell (iv k (lor k x y)))
 |.xor=>ok1 (.cell (iv k (lxor k x y)))
 |.andNot=>ok1 (.cell (iv k (Q3 k x y)))
 |.eql=>ok1 (.cell (bv (x == y)))
 |.neq=>ok1 (.cell (bv (x != y)))
 |.lss=>ok1 (.cell (bv (decide (x < y))))
 |.leq=>ok1 (.cell (bv (decide (x≤y))))
 |.gtr=>ok1 (.cell (bv (decide (x > y))))
 |.geq=>ok1 (.cell (bv (decide (x≥y))))
 |_=>none
def Qs (s t:ByteArray):Bool:=s.toList == t.toList
def QmY:IntKind→IntKind→Bool:=fun a b=>decide (a=b)
def unA (op:UnOp) (a:AV):Option Res :=
 match op,a with
 |.neg,.one (.c (.imm (.int k x)))=>ok1 (.cell (iv k (k.wrap (0-x))))
 |.xor,.one (.c (.imm (.int k x)))=>ok1 (.cell (iv k (lxor k (if k.signed then -1 else k.max) x)))
 |.not,.one (.c (.imm (.bool b)))=>ok1 (.cell (bv (!b)))
 |_,_=>none
def Ty.flat:Ty→Bool
 |.sl _=>false
 |.pair a b=>a.flat&&b.flat
 |_=>true
section
variable (T:Tab) (ev:Operand→AV) (look:Nat→Option Blk) (nm:Nat)
def QgB (t:TypeId):Option (Ty × Nat) :=
 match T.ty t with
 |some { desc:=.slice e,.. }=>match T.ty e with
   |some ti=>match ti.ety with
     |some u=>some (u,ti.bytes)
     |none=>none
   |none=>none
 |_=>none
def Qh1:AV→Option Int
 |.one (.c (.imm (.int _ n)))=>some n
 |_=>none
def QuK (t:TypeId) (a:AV):Option Res :=
 match T.ty t with
 |none=>none
 |some ti =>
   match a with
   |.one (.c (.ptr b j))=>match look b with
     |some (.var cs)=>match ti.isAgg with
       |true=>match Qar cs j ti.size with
         |some r=>ok1 (.agg r)
         |none=>none
       |false=>match QaJ cs j with
         |some (.run _ _ _)=>none
         |some c=>ok1 (.cell c)
         |none=>none
     |_=>none
   |.one (.c (.pidx b j i))=>match look b with
     |some (.var cs)=>match ti.isAgg with
       |true=>none
       |false=>match QaJ cs j with
         |some (.run k n l)=>okP (i < n) (.cell (iv k (l.getD i 0)))
         |_=>none
     |_=>none
   |.one (.c (.pel b i j))=>match look b with
     |some (.arr u l)=>match ti.isAgg with
       |true=>match Qar (cells u (l.getD i (dflt u))) j ti.size with
         |some r=>okP (i < l.length) (.agg r)
         |none=>none
       |false=>match QaJ (cells u (l.getD i (dflt u))) j with
         |some (.run _ _ _)=>none
         |some c=>okP (i < l.length) (.cell c)
         |none=>none
     |_=>none
   |.one (.c (.rptr u l i j))=>match ti.isAgg with
     |true=>match Qar (cells u (l.getD i (dflt u))) j ti.size with
       |some r=>ok1 (.agg r)
       |none=>none
     |false=>match QaJ (cells u (l.getD i (dflt u))) j with
       |some (.run _ _ _)=>none
       |some c=>ok1 (.cell c)
       |none=>none
   |_=>none
def QqJ (t:TypeId) (a:AV) (x:AV):Option Res :=
 match T.ty t with
 |none=>none
 |some ti =>
   match x with
   |.one v=>match Nat.beq (v.items.foldl (fun n c=>n+c.size) 0) ti.size&&Nat.blt 0 ti.size with
     |false=>none
     |true =>
     match a with
     |.one (.c (.ptr b j))=>match look b with
       |some (.var cs)=>match Qa5 cs j v.items with
         |some cs'=>some { pre:=none,val:=.dead,add:=[],set:=[(b,some (.var cs'))] }
         |none=>none
       |_=>none
     |.one (.c (.pidx b j i))=>match look b with
       |some (.var cs)=>match QaJ cs j,v with
         |some (.run k n l),.c (.imm (.int k' y))=>match QmY k' k with
           |true=>match Qcx cs j (.run k n (l.set i y)) with
             |some cs'=>some { pre:=some (i < n),val:=.dead,add:=[],set:=[(b,some (.var cs'))] }
             |none=>none
           |false=>none
         |_,_=>none
       |_=>none
     |.one (.c (.pel b i j))=>match look b with
       |some (.arr u l)=>match Qa5 (cells u (l.getD i (dflt u))) j v.items with
         |some cs'=>match QbJ look u cs' with
           |some (d,us)=>match us.contains b with
             |true=>none
             |false=>some { pre:=some (i < l.length),val:=.dead,add:=[],set:=us.map (fun n=>(n,none))++[(b,some (.arr u (l.set i d)))] }
           |none=>none
         |none=>none
       |_=>none
     |_=>none
   |_=>none
def Qfo (s:TypeId) (a:AV) (f:Nat):Option Res :=
 match T.ty s with
 |some { desc:=.struct fs,.. }=>match fs[f]? with
   |some (u,o)=>match T.ty u with
     |some ti=>match Nat.blt 0 ti.size with
       |true=>match a with
         |.one (.c (.ptr b j))=>match look b with
           |some (.var _)=>ok1 (.cell (.ptr b (j+o)))
           |_=>none
         |.one (.c (.pel b i j))=>match look b with
           |some (.arr _ l)=>okP (i < l.length) (.cell (.pel b i (j+o)))
           |_=>none
         |.one (.c (.rptr u l i j))=>ok1 (.cell (.rptr u l i (j+o)))
         |_=>none
       |false=>none
     |none=>none
   |none=>none
 |_=>none
def Qfp (t:TypeId) (x i:AV):Option Res :=
 match i with
 |.one (.c (.imm (.int k n)))=>match T.ty t with
   |some { desc:=.slice e,.. }=>match x with
     |.one (.c (.ro u l))=>match T.ty e with
       |some ti=>match Nat.beq ti.size u.size with
         |true=>okP (0≤n∧n < l.length) (.cell (.rptr u l n.toNat 0))
         |false=>none
       |none=>none
     |.one (.c (.own b))=>match look b,T.ty e with
       |some (.arr u l),some ti=>match Nat.beq ti.size u.size with
         |true=>okP (0≤n∧n < l.length) (.cell (.pel b n.toNat 0))
         |false=>none
       |_,_=>none
     |.one (.c (.sub b off len))=>match look b,T.ty e with
       |some (.arr u l),some ti=>match Nat.beq ti.size u.size with
         |true=>okP (0≤n∧n < len) (.cell (.pel b (off+n.toNat) 0))
         |false=>none
       |_,_=>none
     |.one (.c (.svar b j m))=>match look b,T.ty e with
       |some (.var _),some ti=>match Nat.beq ti.size 1 with
         |true=>okP (0≤n∧n < m) (.cell (.ptr b (j+n.toNat)))
         |false=>none
       |_,_=>none
     |_=>none
   |some { desc:=.array m e,.. }=>match x,T.ty e with
     |.one (.c (.ptr b j)),some ti=>match look b with
       |some (.var _)=>match Nat.beq ti.size 1 with
         |true=>okP (0≤n∧n < m) (.cell (.pidx b j n.toNat))
         |false=>none
       |_=>none
     |_,_=>none
   |_=>none
 |_=>none
def QqK (t:TypeId) (x i:AV):Option Res :=
 match i with
 |.one (.c (.imm (.int k n)))=>match T.ty t,x with
   |some { desc:=.array m e,.. },.one (.agg [.run k' m' l])=>match T.ty e with
     |some ti=>match Nat.beq ti.size 1&&Nat.beq m m'&&!ti.isAgg with
       |true=>okP (0≤n∧n < m) (.cell (iv k' (l.getD n.toNat 0)))
       |false=>none
     |none=>none
   |some { desc:=.str,.. },.one (.c (.imm (.string s)))=>okP (0≤n∧n < s.size) (.cell (iv .u8 (QeH s n.toNat)))
   |_,_=>none
 |_=>none
def QqL (t:TypeId) (x:AV) (f:Nat):Option Res :=
 match T.ty t with
 |some { desc:=.struct fs,.. }=>match fs[f]? with
   |some (u,o)=>match T.ty u,x with
     |some ti,.one (.agg cs)=>match ti.isAgg with
       |true=>match Qar cs o ti.size with
         |some r=>ok1 (.agg r)
         |none=>none
       |false=>match QaJ cs o with
         |some (.run _ _ _)=>none
         |some c=>ok1 (.cell c)
         |none=>none
     |_,_=>none
   |none=>none
 |_=>none
def Qj2 (fs:List (TypeId × Nat)):List (Nat × AV)→List QD→Option (List QD)
 | [],cs=>some cs
 |(i,.one v) :: r,cs=>match fs[i]? with
   |some (t,o)=>match T.ty t with
     |some ti=>match Nat.beq (v.items.foldl (fun n c=>n+c.size) 0) ti.size&&Nat.blt 0 ti.size with
       |true=>match Qa5 cs o v.items with
         |some cs'=>Qj2 fs r cs'
         |none=>none
       |false=>none
     |none=>none
   |none=>none
 |_,_=>none
def QmZ:AV→Option (IntKind × Int)
 |.one (.c (.imm (.int k n)))=>some (k,n)
 |_=>none
def Qfq (k:IntKind) (n:Nat):List (Nat × AV)→List Int→Option (List Int)
 | [],l=>some l
 |(i,a) :: r,l=>match QmZ a with
   |some (k',x)=>match QmY k' k&&Nat.blt i n with
     |true=>Qfq k n r (l.set i x)
     |false=>none
   |none=>none
def QqM (t:TypeId) (ps:List (Nat × AV)):Option Res :=
 match T.ty t with
 |some { desc:=.struct fs,zero:=z,.. }=>match Qj2 T fs ps z with
   |some cs=>ok1 (.agg cs)
   |none=>none
 |some { desc:=.array _ e,zero:=[.run k n l],.. }=>match T.ty e with
   |some ti=>match Nat.beq ti.size 1 with
     |true=>match Qfq k n ps l with
       |some l'=>ok1 (.agg [.run k n l'])
       |none=>none
     |false=>none
   |none=>none
 |_=>none
def QeI (u:Ty):Nat→List (Nat × AV)→Option (List (Den u) × List Nat)
 |_,[]=>some ([],[])
 |i,(j,.one v) :: r=>match Nat.beq i j with
   |true=>match QbJ look u v.items with
     |some (d,us)=>match QeI u (i+1) r with
       |some (ds,us')=>some (d :: ds,us++us')
       |none=>none
     |none=>none
   |false=>none
 |_,_=>none
def Qo7:Nat→List (Nat × AV)→Option (List QD)
 |_,[]=>some []
 |i,(j,.one (.c (.sub b o l))) :: r=>match Nat.beq i j with
   |true=>match Qo7 (i+1) r with
     |some cs=>some (.sub b o l :: cs)
     |none=>none
   |false=>none
 |_,_=>none
def Qm0:Ty→List (Nat × AV)→Option (List QD)
 |.sl _,p :: ps=>Qo7 0 (p :: ps)
 |_,_=>none
def QqN:Nat→List (Nat × AV)→Option (List QD)
 |_,[]=>some []
 |i,(j,.one (.c (.ptr b o))) :: r=>match Nat.beq i j with
   |true=>match QqN (i+1) r with
     |some cs=>some (.ptr b o :: cs)
     |none=>none
   |false=>none
 |_,_=>none
def QeJ (t:TypeId) (n:Nat) (ps:List (Nat × AV)):Option Res :=
 match T.ty t with
 |some { desc:=.slice e,.. }=>match T.ty e with
   |some { desc:=.ptr _,size:=sz,.. }=>match Nat.beq sz 1&&Nat.beq n ps.length&&Nat.blt n 16777216&&Nat.blt 0 n with
     |true=>match QqN 0 ps with
       |some cs=>some { pre:=none,val:=.cell (.svar nm 0 n),add:=[.var cs],set:=[] }
       |none=>none
     |false=>none
   |_=>none
 |_=>none
def Qc1 (t:TypeId) (n:Nat) (ps:List (Nat × AV)):Option Res :=
 match QgB T t with
 |some (u,_)=>match Nat.beq n ps.length&&Nat.blt (n*u.size) 16777216&&Nat.blt 0 u.size with
   |true=>match Qm0 u ps with
     |some cs=>some { pre:=none,val:=.cell (.svar nm 0 n),add:=[.var cs],set:=[] }
     |none=>match QeI look u 0 ps with
     |some (ds,us)=>some { pre:=none,val:=.cell (.own nm),add:=[.arr u ds],set:=us.map (fun n=>(n,none)) }
     |none=>none
   |false=>none
 |none=>QeJ T nm t n ps
def QdQ (t:TypeId) (l c:AV):Option Res :=
 match QgB T t,l,c with
 |some (u,by_),.one (.c (.imm (.int .i64 n))),.one (.c (.imm (.int .i64 m))) =>
   some { pre:=some (n=m∧0≤n∧n*by_≤281474976710656∧n≤281474976710656),val:=.cell (.own nm),add:=[.arr u (List.replicate n.toNat (dflt u))],set:=[] }
 |_,_,_=>none
def Qdt (len:Nat) (lo hi:Option AV):Option (Prop × Nat × Nat) :=
 match lo,hi with
 |none,none=>some (True,0,len)
 |some (.one (.c (.imm (.int _ a)))),none=>some (0≤a∧a≤len,a.toNat,len)
 |none,some (.one (.c (.imm (.int _ b))))=>some (0≤b∧b≤len,0,b.toNat)
 |some (.one (.c (.imm (.int _ a)))),some (.one (.c (.imm (.int _ b))))=>some (0≤a∧a≤b∧b≤len,a.toNat,b.toNat)
 |_,_=>none
def QqO (t:TypeId) (x:AV) (lo hi mx:Option AV):Option Res :=
 match mx with
 |some _=>none
 |none=>match T.ty t,x with
   |some { desc:=.str,.. },.one (.c (.imm (.string s)))=>match Qdt s.size lo hi with
     |some (p,a,b)=>okP p (.cell (.imm (.string (s.extract a b))))
     |none=>none
   |some { desc:=.slice e,.. },.one (.c (.ro u l))=>match Qdt l.length lo hi,T.ty e with
     |some (p,a,b),some ti=>match Nat.beq ti.size u.size with
       |true=>okP p (.cell (.ro u ((l.take b).drop a)))
       |false=>none
     |_,_=>none
   |some { desc:=.slice e,.. },.one (.c (.own b))=>match look b,T.ty e with
     |some (.arr u l),some ti=>match Nat.beq ti.size u.size with
       |true=>match lo,hi with
         |none,none=>ok1 (.cell (.own b))
         |lo,hi=>match Qdt l.length lo hi with
           |some (p,a,c)=>okP p (.cell (.sub b a (c-a)))
           |none=>none
       |false=>none
     |_,_=>none
   |some { desc:=.slice e,.. },.one (.c (.sub b off len))=>match look b,T.ty e with
     |some (.arr u l),some ti=>match Nat.beq ti.size u.size with
       |true=>match Qdt len lo hi with
         |some (p,a,c)=>okP p (.cell (.sub b (off+a) (c-a)))
         |none=>none
       |false=>none
     |_,_=>none
   |some { desc:=.slice e,.. },.one (.c (.imm (.slice none 0 0)))=>match Qdt 0 lo hi,T.ty e with
     |some (p,_,_),some _=>okP p (.cell (.imm (.slice none 0 0)))
     |_,_=>none
   |some { desc:=.array m e,.. },.one (.c (.ptr b j))=>match look b,lo,hi,T.ty e with
     |some (.var cs),none,none,some ti=>match QaJ cs j with
       |some (.run _ n _)=>match Nat.beq n m&&Nat.beq ti.size 1&&Nat.blt 0 n with
         |true=>ok1 (.cell (.srun b j))
         |false=>none
       |_=>none
     |_,_,_,_=>none
   |_,_=>none
def QiD (t:TypeId) (op:BinOp) (a b:AV):Option Res :=
 match b with
 |.one (.c (.imm (.pointer none)))=>match T.ty t with
   |some { desc:=.ptr _,.. }=>match a with
     |.one (.c (.imm (.pointer none)))=>match op with
       |.eql=>ok1 (.cell (bv true))
       |.neq=>ok1 (.cell (bv false))
       |_=>none
     |.one (.c (.ptr b _))=>match look b with
       |some (.var _)=>match op with
         |.eql=>ok1 (.cell (bv false))
         |.neq=>ok1 (.cell (bv true))
         |_=>none
       |_=>none
     |_=>none
   |_=>none
 |_=>none
def cutA (t:TypeId) (x:AV) (lo hi mx:Option AV):Option Res :=
 match x with
 |.one (.c (.own b))=>match lo,hi,mx with
   |none,some (.one (.c (.imm (.int _ n)))),none=>match T.ty t,look b with
     |some { desc:=.slice e,.. },some (.arr u l)=>match T.ty e with
       |some ti=>match Nat.beq ti.size u.size&&!u.flat with
         |true=>some { pre:=some (0≤n∧n≤l.length),val:=.cell (.own nm),add:=[.arr u (l.take n.toNat)],set:=[(b,none)] }
         |false=>none
       |none=>none
     |_,_=>none
   |_,_,_=>none
 |_=>none
def QD7 (t:TypeId) (x:AV):Option Int :=
 match T.ty t with
 |some { desc:=.str,.. }=>match x with
   |.one (.c (.imm (.string s)))=>some s.size
   |_=>none
 |some { desc:=.slice _,.. }=>match x with
   |.one (.c (.imm (.slice none 0 0)))=>some 0
   |.one (.c (.svar b _ n))=>match look b with
     |some (.var _)=>some (n:Int)
     |_=>none
   |.one (.c c)=>match Qak look c with
     |some ⟨_,l⟩=>some l.length
     |none=>none
   |_=>none
 |_=>none
def imax (x y:Int):Int:=if y > x then y else x
def imin (x y:Int):Int:=if y < x then y else x
def QBB (k:IntKind):Int→List AV→Option AV
 |x,[]=>some (.cell (iv k x))
 |x,a :: r=>match Qh1 a with
   |some y=>QBB k (imax x y) r
   |none=>none
def QBC (k:IntKind):Int→List AV→Option AV
 |x,[]=>some (.cell (iv k x))
 |x,a :: r=>match Qh1 a with
   |some y=>QBC k (imin x y) r
   |none=>none
def QD8:List AV→Option AV
 |.one (.c (.imm (.int k x))) :: r=>QBB k x r
 |_=>none
def QD9:List AV→Option AV
 |.one (.c (.imm (.int k x))) :: r=>QBC k x r
 |_=>none
def QBs (u:Ty) (x:AV):Option (List (Den u)) :=
 match x with
 |.one (.c (.imm (.string s)))=>match QBr (.int .u8) u with
   |some h=>some (Qfn h.down (bytesOf s))
   |none=>none
 |.one (.c c)=>QqI look u c
 |_=>none
def Qy0 (t:TypeId):Bool:=match T.ty t with |some { desc:=.slice _,.. }=>true |some { desc:=.str,.. }=>true |_=>false
def QiE (t t':TypeId) (s x:AV):Option Res :=
 match QgB T t with
 |some (u,by_)=>match Qy0 T t'&&Nat.blt 0 by_ with
   |false=>none
   |true=>match QBs look u x with
   |some l'=>match s with
     |.one (.c (.imm (.slice none 0 0))) =>
       some { pre:=some (l'.length*by_≤140737488355328),val:=.cell (.own nm),add:=[.arr u l'],set:=[] }
     |.one (.c (.own b))=>match look b with
       |some (.arr u' l)=>match QBr u' u with
         |some h=>some { pre:=some ((l.length+l'.length)*by_≤140737488355328),val:=.cell (.own nm),add:=[.arr u (Qfn h.down l++l')],set:=[(b,none)] }
         |none=>none
       |_=>none
     |_=>none
   |none=>none
 |none=>none
def Qy1 (t:TypeId) (s x:AV):Option Res :=
 match QgB T t with
 |some (u,_)=>match QBs look u x with
   |some l'=>match s with
     |.one (.c (.imm (.slice none 0 0)))=>ok1 (.cell (iv .i64 0))
     |.one (.c (.own b))=>match look b with
       |some (.arr u' l)=>match QBr u u' with
         |some h=>some { pre:=none,val:=.cell (iv .i64 (min l'.length l.length:Nat)),add:=[],set:=[(b,some (.arr u' (over l (Qfn h.down l') 0)))] }
         |none=>none
       |_=>none
     |.one (.c (.sub b off len))=>match look b with
       |some (.arr u' l)=>match QBr u u' with
         |some h=>some { pre:=none,val:=.cell (iv .i64 (min l'.length len:Nat)),add:=[],
                            set:=[(b,some (.arr u' (l.take off++over ((l.drop off).take len) (Qfn h.down l') 0++l.drop (off+len))))] }
         |none=>none
       |_=>none
     |_=>none
   |none=>none
 |none=>none
def Qm1 (b:Builtin) (tys:List TypeId) (args:List AV):Option Res :=
 match b,args,tys with
 |.len,[x],t :: _=>match QD7 T look t x with |some n=>ok1 (.cell (iv .i64 n)) |none=>none
 |.max,args,_=>match QD8 args with |some v=>ok1 v |none=>none
 |.min,args,_=>match QD9 args with |some v=>ok1 v |none=>none
 |.append,[s,x],[t,t']=>QiE T look nm t t' s x
 |.copy,[s,x],t :: _=>Qy1 T look t s x
 |_,_,_=>none
def QF:(u:Ty)→Den u→Den u→Bool
 |.int _,x,y=>decide ((x:Int)=y)
 |.ints _ _,x,y=>decide ((x:List Int)=y)
 |.bool,x,y=>(x:Bool) == y
 |.str,x,y=>Qs x y
 |.sl _,_,_=>false
 |.pair a b,x,y=>QF a x.1 y.1&&QF b x.2 y.2
def QEB (t:TypeId) (op:BinOp) (a b:AV):Option Res :=
 match a,b with
 |.one (.c (.imm (.int k x))),.one (.c (.imm (.int k' y))) =>
   match op with
   |.shl=>okP (0≤y) (.cell (iv k (shl k x y)))
   |.shr=>okP (0≤y) (.cell (iv k (shr k x y)))
   |op=>match QmY k k' with
     |true=>QBA op k x y
     |false=>none
 |.one (.c (.imm (.string s))),.one (.c (.imm (.string t))) =>
   match op with
   |.eql=>ok1 (.cell (bv (Qs s t)))
   |.neq=>ok1 (.cell (bv (!Qs s t)))
   |.add=>some { pre:=some (s.size+t.size < 4611686018427387904),val:=.cell (.imm (.string (s++t))),add:=[],set:=[] }
   |_=>none
 |.one (.c (.imm (.bool s))),.one (.c (.imm (.bool u))) =>
   match T.ty t with
   |some { desc:=.bool,.. }=>match op with
     |.eql=>ok1 (.cell (bv (s == u)))
     |.neq=>ok1 (.cell (bv (!(s == u))))
     |_=>none
   |_=>none
 |.one (.agg xs),.one (.agg ys) =>
   match T.ty t with
   |some ti=>match ti.cmp,ti.ety with
     |true,some u=>match QbJ (fun _=>none) u xs,QbJ (fun _=>none) u ys with
       |some (x,_),some (y,_)=>match op with
         |.eql=>ok1 (.cell (bv (QF u x y)))
         |.neq=>ok1 (.cell (bv (!QF u x y)))
         |_=>none
       |_,_=>none
     |_,_=>none
   |none=>none
 |_,_=>none
def Qgg:Ty→Bool
 |.int _=>true
 |.bool=>true
 |.str=>true
 |_=>false
def Qas:Ty→Bool
 |.ints _ _=>false
 |.sl _=>false
 |.pair a b=>Qas a&&Qas b
 |_=>true
def QBD (ti:TI) (kt:Ty):Bool:=match ti.desc,kt with
 |.int k,.int k'=>decide (k'=k)
 |.bool,.bool=>true
 |.str,.str=>true
 |.struct _,_=>ti.cmp
 |_,_=>false
def QlO (t:TypeId):Option (Bool × Ty × Ty):=match T.ty t with
 |some { desc:=.map k e,.. }=>match T.ty k,T.ty e with
   |some ki,some ei=>match ki.ety,ei.ety with
     |some kt,some vt=>match QBD ki kt&&Qas kt&&Qgg vt&&!ei.isAgg with
       |true=>some (ki.isAgg,kt,vt)
       |false=>none
     |_,_=>none
   |_,_=>none
 |_=>none
def Qm2 (t:TypeId) (ka:Bool) (kt vt:Ty):Bool:=match QlO T t with
 |some (ka',kt',vt')=>decide (ka'=ka)&&decide (kt'=kt)&&decide (vt'=vt)
 |none=>false
def Qh2 (ka:Bool) (kt:Ty) (x:AV):Option (Den kt):=match ka,x with
 |false,.one (.c c)=>match QbJ (fun _=>none) kt [c] with
   |some (d,_)=>some d
   |none=>none
 |true,.one (.agg cs)=>match QbJ (fun _=>none) kt cs with
   |some (d,_)=>some d
   |none=>none
 |_,_=>none
def Qaf {kt vt:Ty}:List (Den kt × Den vt)→Den kt→Option (Den vt)
 | [],_=>none
 |p :: r,k=>match QF kt k p.1 with |true=>some p.2 |false=>Qaf r k
def Qaj {kt vt:Ty}:List (Den kt × Den vt)→Den kt→Den vt→List (Den kt × Den vt)
 | [],k,v=>[(k,v)]
 |p :: r,k,v=>match QF kt k p.1 with |true=>(k,v) :: r |false=>p :: Qaj r k v
def QiF (t:TypeId) (m k x:AV):Option Res:=match m with
 |.one (.c (.map b))=>match look b with
   |some (.mp ka kt vt l)=>match Qm2 T t ka kt vt with
     |true=>match Qh2 ka kt k,Qh2 false vt x with
       |some d,some v=>some { pre:=none,val:=.dead,add:=[],set:=[(b,some (.mp ka kt vt (Qaj l d v)))] }
       |_,_=>none
     |false=>none
   |_=>none
 |_=>none
def QiG {α:Type}:Option α→Bool
 |some _=>true
 |none=>false
def Qf6 {α:Type}:Option α→α→α
 |some x,_=>x
 |none,d=>d
def QlP (t:TypeId) (m k:AV) (ok:Bool):Option Res:=match m with
 |.one (.c (.map b))=>match look b with
   |some (.mp ka kt vt l)=>match Qm2 T t ka kt vt with
     |true=>match Qh2 ka kt k with
       |some d=>match cells vt (Qf6 (Qaf l d) (dflt vt)) with
         | [c]=>(match ok with
           |true=>ok1 (.tup [.c c,.c (bv (QiG (Qaf l d)))])
           |false=>ok1 (.cell c))
         |_=>none
       |none=>none
     |false=>none
   |_=>none
 |_=>none
def Qdu (c:QD):Option QD :=
 match c with
 |.imm v=>some (.imm v)
 |.run k n l=>some (.run k n l)
 |.fn f []=>some (.fn f [])
 |c=>match Qak look c with
   |some ⟨t,l⟩=>some (.ro t l)
   |none=>none
def QeB {α β:Type} (f:α→Option β):List α→Option (List β)
 | []=>some []
 |x :: xs=>match f x with
   |some y=>match QeB f xs with
     |some ys=>some (y :: ys)
     |none=>none
   |none=>none
def QeK:V1→Option V1
 |.c x=>match Qdu look x with |some y=>some (.c y) |none=>none
 |.agg cs=>match QeB (Qdu look) cs with |some ys=>some (.agg ys) |none=>none
def Qo8 (b:Nat):List Nat→Nat→Option Nat
 | [],_=>none
 |x :: xs,i=>match Nat.beq x b with |true=>some i |false=>Qo8 b xs (i+1)
def QD.names:QD→List Nat
 |.own b=>[b]
 |.sub b _ _=>[b]
 |.srun b _=>[b]
 |.svar b _ _=>[b]
 |.ptr b _=>[b]
 |.pel b _ _=>[b]
 |.pidx b _ _=>[b]
 |.fn _ bs=>bs
 |.ifc _ b=>[b]
 |.map b=>[b]
 |_=>[]
def QD.rn (f:Nat→Nat):QD→QD
 |.own b=>.own (f b)
 |.sub b o l=>.sub (f b) o l
 |.srun b j=>.srun (f b) j
 |.svar b j n=>.svar (f b) j n
 |.ptr b j=>.ptr (f b) j
 |.pel b i j=>.pel (f b) i j
 |.pidx b j i=>.pidx (f b) j i
 |.fn g bs=>.fn g (bs.map f)
 |.ifc t b=>.ifc t (f b)
 |.map b=>.map (f b)
 |c=>c
def Blk.rn (f:Nat→Nat):Blk→Blk
 |.arr t l=>.arr t l
 |.var cs=>.var (cs.map (·.rn f))
 |.mp ka kt vt l=>.mp ka kt vt l
def V1.rn (f:Nat→Nat):V1→V1
 |.c x=>.c (x.rn f)
 |.agg cs=>.agg (cs.map (·.rn f))
def AV.rn (f:Nat→Nat):AV→AV
 |.dead=>.dead
 |.one v=>.one (v.rn f)
 |.tup l=>.tup (l.map (·.rn f))
def V1.names:V1→List Nat
 |.c x=>x.names
 |.agg cs=>cs.flatMap (·.names)
def Blk.names:Blk→List Nat
 |.arr _ _=>[]
 |.var cs=>cs.flatMap (·.names)
 |.mp _ _ _ _=>[]
def reach:Nat→List Nat→List Nat→Option (List Nat)
 |_,[],acc=>some acc
 |0,_ :: _,_=>none
 |f+1,b :: bs,acc=>match acc.contains b with
   |true=>reach f bs acc
   |false=>match look b with
     |some blk=>reach f (bs++blk.names) (acc++[b])
     |none=>none
def idx (acc:List Nat) (b:Nat):Nat:=match Qo8 b acc 0 with |some i=>i |none=>acc.length
def QD.isRo:QD→Bool
 |.ro _ _=>true
 |.rptr _ _ _ _=>true
 |_=>false
def Blk.plain:Blk→Bool
 |.arr t _=>t.flat
 |.var cs=>cs.all fun c=>!c.isRo
 |.mp _ _ _ _=>true
def V1.hasRo:V1→Bool
 |.c x=>x.isRo
 |.agg cs=>cs.any QD.isRo
def QD.isOwn:QD→Bool
 |.own _=>true
 |.sub _ _ _=>true
 |.srun _ _=>true
 |.svar _ _ _=>true
 |_=>false
def V1.hasOwn:V1→Bool
 |.c x=>x.isOwn
 |.agg cs=>cs.any QD.isOwn
def AV.hasRo:AV→Bool
 |.one v=>v.hasRo
 |.tup l=>l.any (·.hasRo)
 |.dead=>false
def ones:List AV→Option (List V1)
 | []=>some []
 |.one v :: r=>match ones r with |some vs=>some (v :: vs) |none=>none
 |_=>none
def QiH (s:Qcm) (args:List V1):Option Res :=
 match s.wr with
 |false=>match QeB (QeK look) args with
   |some vs=>match s.run vs [] with
     |some (p,r,[],fresh)=>match (r.hasRo||fresh.any (fun b=>!b.plain))&&args.any (·.hasOwn) with
       |true=>(match s.eat with
         |true=>some { pre:=p,val:=r.rn (fun i=>nm+i),add:=fresh.map (·.rn (fun i=>nm+i)),set:=(args.flatMap (·.names)).map (fun n=>(n,none)) }
         |false=>none)
       |false=>some { pre:=p,val:=r.rn (fun i=>nm+i),add:=fresh.map (·.rn (fun i=>nm+i)),set:=[] }
     |_=>none
   |none=>none
 |true=>match reach look 100 (args.flatMap (·.names)) [] with
   |some acc=>match QeB look acc with
     |some bl=>match s.run (args.map (·.rn (idx acc))) (bl.map (·.rn (idx acc))) with
       |some (p,r,upd,fresh)=>match Nat.beq upd.length acc.length with
         |true =>
           let back:Nat→Nat:=fun i=>match acc[i]? with |some b=>b |none=>nm+(i-acc.length)
           some { pre:=p,val:=r.rn back,add:=fresh.map (·.rn back),set:=acc.zip (upd.map fun o=>match o with |some b=>some (b.rn back) |none=>none) }
         |false=>none
       |none=>none
     |none=>none
   |none=>none
def Qm3 (f:FuncId) (args:List AV):Option Res :=
 match T.fn f with
 |some s=>match ones args with
   |some vs=>QiH look nm s vs
   |none=>none
 |none=>none
def Qy2 (c a b:AV):Option Res :=
 match c with
 |.one (.c (.imm (.bool t)))=>match a,b with
   |.one (.c (.imm (.bool x))),.one (.c (.imm (.bool y)))=>ok1 (.cell (bv (cond t x y)))
   |a,b=>match t with
     |true=>match a with |.dead=>none |a=>ok1 a
     |false=>match b with |.dead=>none |b=>ok1 b
 |_=>none
def Qh3:AV→Option Nat
 |.one (.c (.ptr b 0))=>some b
 |_=>none
def dstep (o:Oper):Option Res :=
 match o.op with
 |.move x=>match ev x with |.dead=>none |v=>ok1 v
 |.assign x=>match ev x with |.dead=>none |v=>ok1 v
 |.pick c a b=>Qy2 (ev c) (ev a) (ev b)
 |.alloc t=>match T.ty t with
   |some ti=>some { pre:=none,val:=.cell (.ptr nm 0),add:=[.var ti.zero],set:=[] }
   |none=>none
 |.box _ x=>match ev x with
   |.one v=>some { pre:=none,val:=.cell (.ptr nm 0),add:=[.var v.items],set:=[] }
   |_=>none
 |.build t ps=>QqM T t (ps.toList.map fun (i,x)=>(i,ev x))
 |.buildSlice t n ps=>Qc1 T look nm t n (ps.toList.map fun (i,x)=>(i,ev x))
 |.load t a=>QuK T look t (ev a)
 |.store t a x=>QqJ T look t (ev a) (ev x)
 |.nilCheck x=>match ev x with
   |.one (.c (.ptr b j))=>match look b with
     |some (.var _)=>ok1 (.cell (.ptr b j))
     |_=>none
   |.one (.c (.fn f cs))=>ok1 (.cell (.fn f cs))
   |_=>none
 |.binOp op t x y _=>(match QiD T look t op (ev x) (ev y) with
   |some r=>some r
   |none=>QEB T t op (ev x) (ev y))
 |.unOp op _ x=>unA op (ev x)
 |.convert s d x=>match T.ty s,T.ty d,ev x with
   |some _,some { desc:=.int k,.. },.one (.c (.imm (.int _ n)))=>ok1 (.cell (iv k (k.wrap n)))
   |some _,some { desc:=.str,.. },.one (.c (.imm (.string t)))=>ok1 (.cell (.imm (.string t)))
   |some { desc:=.slice e,.. },some { desc:=.str,.. },.one (.c c)=>(match T.ty e with
     |some { desc:=.int .u8,.. }=>(match QqI look (.int .u8) c with
       |some l=>ok1 (.cell (.imm (.string (QlN l))))
       |none=>none)
     |_=>none)
   |some { desc:=.str,.. },some { desc:=.slice e,.. },.one (.c (.imm (.string t)))=>(match T.ty e with
     |some { desc:=.int .u8,.. }=>ok1 (.cell (.ro (.int .u8) (bytesOf t)))
     |_=>none)
   |_,_,_=>none
 |.makeMap t none=>match QlO T t with
   |some (ka,kt,vt)=>some { pre:=none,val:=.cell (.map nm),add:=[.mp ka kt vt []],set:=[] }
   |none=>none
 |.mapUpdate t m k x=>QiF T look t (ev m) (ev k) (ev x)
 |.insert t m k x=>QiF T look t (ev m) (ev k) (ev x)
 |.lookup t m k ok=>QlP T look t (ev m) (ev k) ok
 |.makeInterface t x=>match T.ty t with
   |some { desc:=.ptr _,.. }=>match Qh3 (ev x) with
     |some b=>ok1 (.cell (.ifc t b))
     |none=>none
   |_=>none
 |.makeFunc (.func f) fs cs=>match Nat.beq fs.size 0 with
   |true=>match QeB (fun x=>Qh3 (ev x)) cs.toList with
     |some bs=>ok1 (.cell (.fn f bs))
     |none=>none
   |false=>none
 |.makeSlice t l c=>QdQ T nm t (ev l) (ev c)
 |.slice t x lo hi mx=>(match cutA T look nm t (ev x) (lo.map ev) (hi.map ev) (mx.map ev) with
   |some r=>some r
   |none=>QqO T look t (ev x) (lo.map ev) (hi.map ev) (mx.map ev))
 |.fieldAddr s x f=>Qfo T look s (ev x) f
 |.field t x f=>QqL T t (ev x) f
 |.indexAddr t x i=>Qfp T look t (ev x) (ev i)
 |.index t x i=>QqK T t (ev x) (ev i)
 |.extract t i=>match ev t with
   |.tup l=>match l[i]? with
     |some v=>ok1 (.one v)
     |none=>none
   |_=>none
 |.call c=>match c.callee with
   |.builtin b=>Qm1 T look nm b c.argTypes.toList (c.args.toList.map ev)
   |.value f=>match ev f with
     |.one (.c (.fn g caps))=>Qm3 T look nm g (c.args.toList.map ev++caps.map fun b=>.cell (.ptr b 0))
     |_=>none
   |.invoke r name=>match ev r with
     |.one (.c (.ifc t b))=>match T.meth t name with
       |some g=>Qm3 T look nm g (.cell (.ptr b 0) :: c.args.toList.map ev)
       |none=>none
     |_=>none
 |_=>none
end
def St.tmp (s:St) (t:Tmp):AV:=s.tmps.getD t .dead
def St.put (s:St) (d:Option Tmp) (v:AV):St:=match d with |some d=>{ s with tmps:=s.tmps.set d v } |none=>s
def St.look (s:St) (b:Nat):Option Blk:=match s.heap[b]? with |some o=>o |none=>none
def QaB:List (Option Blk)→Nat→Option Blk→List (Option Blk)
 | [],0,o=>[o]
 | [],n+1,o=>none :: QaB [] n o
 |_ :: r,0,o=>o :: r
 |x :: r,n+1,o=>x :: QaB r n o
def Qdv (h:List (Option Blk)):List (Nat × Option Blk)→List (Option Blk)
 | []=>h
 |(b,o) :: r=>Qdv (QaB h b o) r
def Qef (h:List (Option Blk)) (nm:Nat):List Blk→List (Option Blk)
 | []=>h
 |x :: r=>Qef (QaB h nm (some x)) (nm+1) r
def St.act (s:St) (nm:Nat) (r:Res):St:={ s with heap:=Qef (Qdv s.heap r.set) nm r.add }
def St.eval (s:St):Operand→AV
 |.tmp t=>s.tmp t
 |.const v=>QmX v
 |.func f=>.cell (.fn f [])
 |.global _=>.dead
inductive Ql (p q:Prop):Prop where
 |mk:p→q→Ql p q
theorem Ql.out {p q:Prop} (h:Ql p q):p∧q:=by cases h;exact ⟨‹_›,‹_›⟩
def need (p:Option Prop) (q:Prop):Prop:=match p with |none=>q |some p=>Ql p q
def Br (b:Bool) (x y:Prop):Prop:=match b with |true=>x |false=>y
theorem Br.mk {b:Bool} {x y:Prop} (h1:b=true→x) (h2:b=false→y):Br b x y:=by cases b<;>simp_all [Br]
def lits:List Nat:=[0,1,2,3,4,5,6,7,8,9,10,11,12,13,14,15,16,17,18,19,20,21,22,23,24,25,26,27,28,29,30,31,32,33,34,35,36,37,38,39,40,41,42,43,44,45,46,47,48,49,50,51,52,53,54,55,56,57,58,59,60,61,62,63,64,65,66,67,68,69,70,71,72,73,74,75,76,77,78,79,80,81,82,83,84,85,86,87,88,89,90,91,92,93,94,95,96,97,98,99,100,101,102,103,104,105,106,107,108,109,110,111,112,113,114,115,116,117,118,119,120,121,122,123,124,125,126,127]
def QhI (n:Nat) (k:Nat→Prop):List Nat→Prop
 | []=>k n
 |l :: ls=>match Nat.beq n l with |true=>k l |false=>QhI n k ls
def QqP:List Nat→(List Nat→Prop)→Prop
 | [],k=>k []
 |n :: ns,k=>QhI n (fun m=>QqP ns fun ms=>k (m :: ms)) lits
def QGk:Value→(Value→Prop)→Prop
 |.int t n,k=>k (.int t n)
 |.bool b,k=>k (.bool b)
 |.string s,k=>k (.string s)
 |v,k=>k v
def QuL:QD→(QD→Prop)→Prop
 |.imm v,k=>QGk v fun v=>k (.imm v)
 |.run a n l,k=>k (.run a n l)
 |.ro t l,k=>k (.ro t l)
 |.rptr t l i j,k=>QhI j (fun j=>k (.rptr t l i j)) lits
 |.own b,k=>QhI b (fun b=>k (.own b)) lits
 |.sub b o l,k=>QhI b (fun b=>k (.sub b o l)) lits
 |.srun b j,k=>QhI b (fun b=>QhI j (fun j=>k (.srun b j)) lits) lits
 |.svar b j n,k=>QhI b (fun b=>QhI j (fun j=>QhI n (fun n=>k (.svar b j n)) lits) lits) lits
 |.ptr b j,k=>QhI b (fun b=>QhI j (fun j=>k (.ptr b j)) lits) lits
 |.pel b i j,k=>QhI b (fun b=>QhI j (fun j=>k (.pel b i j)) lits) lits
 |.pidx b j i,k=>QhI b (fun b=>QhI j (fun j=>k (.pidx b j i)) lits) lits
 |.fn f bs,k=>QqP bs fun bs=>k (.fn f bs)
 |.ifc t b,k=>QhI b (fun b=>k (.ifc t b)) lits
 |.map b,k=>QhI b (fun b=>k (.map b)) lits
def Qj3:List QD→(List QD→Prop)→Prop
 | [],k=>k []
 |c :: cs,k=>QuL c fun c=>Qj3 cs fun cs=>k (c :: cs)
def fV1:V1→(V1→Prop)→Prop
 |.c x,k=>QuL x fun x=>k (.c x)
 |.agg cs,k=>Qj3 cs fun cs=>k (.agg cs)
def QBt:List V1→(List V1→Prop)→Prop
 | [],k=>k []
 |c :: cs,k=>fV1 c fun c=>QBt cs fun cs=>k (c :: cs)
def fAV:AV→(AV→Prop)→Prop
 |.dead,k=>k .dead
 |.one v,k=>fV1 v fun v=>k (.one v)
 |.tup l,k=>QBt l fun l=>k (.tup l)
def QEa:Blk→(Blk→Prop)→Prop
 |.arr t l,k=>k (.arr t l)
 |.var cs,k=>Qj3 cs fun cs=>k (.var cs)
 |.mp ka kt vt l,k=>k (.mp ka kt vt l)
def fOB:Option Blk→(Option Blk→Prop)→Prop
 |none,k=>k none
 |some b,k=>QEa b fun b=>k (some b)
def Qo9:List Blk→(List Blk→Prop)→Prop
 | [],k=>k []
 |c :: cs,k=>QEa c fun c=>Qo9 cs fun cs=>k (c :: cs)
def QuM:List (Nat × Option Blk)→(List (Nat × Option Blk)→Prop)→Prop
 | [],k=>k []
 |c :: cs,k=>QhI c.1 (fun n=>fOB c.2 fun o=>QuM cs fun cs=>k ((n,o) :: cs)) lits
def fL {α:Type}:List α→(List α→Prop)→Prop
 | [],k=>k []
 |c :: cs,k=>fL cs fun cs=>k (c :: cs)
def QEb (r:Res) (k:AV→List Blk→List (Nat × Option Blk)→Prop):Prop:=fAV r.val fun v=>Qo9 r.add fun add=>QuM r.set fun set=>k v add set
def fSt (s:St) (k:St→Prop):Prop:=fL s.tmps fun t=>fL s.heap fun h=>k { tmps:=t,heap:=h }
def Qam {α:Type}:List Nat→List α→Nat→(Nat→Prop)→Prop
 | [],_,d,k=>k d
 |n :: _,[],_,k=>k n
 |_ :: ns,_ :: h,d,k=>Qam ns h d k
theorem QiI (n:Nat) (k:Nat→Prop):∀ l,QhI n k l=k n
 | []=>rfl
 |l :: ls=>by
   unfold QhI
   cases h:Nat.beq n l with
   |true=>rw [Nat.eq_of_beq_eq_true h]
   |false=>exact QiI n k ls
theorem QiJ:∀ (l:List Nat) (k:List Nat→Prop),QqP l k=k l
 | [],k=>rfl
 |n :: ns,k=>by unfold QqP;rw [QiI,QiJ ns]
theorem Qy3 (v:Value) (k:Value→Prop):QGk v k=k v:=by cases v<;>rfl
theorem Qm4 (c:QD) (k:QD→Prop):QuL c k=k c:=by
 cases c<;>simp only [QuL,QiI,Qy3,QiJ]
theorem QgC:∀ (l:List QD) (k:List QD→Prop),Qj3 l k=k l
 | [],k=>rfl
 |n :: ns,k=>by unfold Qj3;rw [Qm4,QgC ns]
theorem QxB (c:V1) (k:V1→Prop):fV1 c k=k c:=by cases c<;>simp only [fV1,Qm4,QgC]
theorem QgD:∀ (l:List V1) (k:List V1→Prop),QBt l k=k l
 | [],k=>rfl
 |n :: ns,k=>by unfold QBt;rw [QxB,QgD ns]
theorem QxC (c:AV) (k:AV→Prop):fAV c k=k c:=by cases c<;>simp only [fAV,QxB,QgD]
theorem QqQ (c:Blk) (k:Blk→Prop):QEa c k=k c:=by cases c<;>simp only [QEa,QgC]
theorem QxD (c:Option Blk) (k:Option Blk→Prop):fOB c k=k c:=by cases c<;>simp only [fOB,QqQ]
theorem QeL:∀ (l:List Blk) (k:List Blk→Prop),Qo9 l k=k l
 | [],k=>rfl
 |n :: ns,k=>by unfold Qo9;rw [QqQ,QeL ns]
theorem Qm5:∀ (l:List (Nat × Option Blk)) (k:List (Nat × Option Blk)→Prop),QuM l k=k l
 | [],k=>rfl
 |n :: ns,k=>by unfold QuM;rw [QiI,QxD,Qm5 ns]
theorem QuN {α:Type}:∀ (l:List α) (k:List α→Prop),fL l k=k l
 | [],k=>rfl
 |n :: ns,k=>by unfold fL;rw [QuN ns]
theorem QqR (r:Res) (k:AV→List Blk→List (Nat × Option Blk)→Prop):QEb r k=k r.val r.add r.set:=by unfold QEb;rw [QxC,QeL,Qm5]
theorem QaW (s:St) (k:St→Prop):fSt s k=k s:=by unfold fSt;rw [QuN,QuN]
theorem QfT {α:Type}:∀ (ns:List Nat) (h:List α) (c d:Nat) (k:Nat→Prop),(∀ (i n:Nat),ns[i]?=some n→c+i≤n)→c+h.length≤d→Qam ns h d k→∃ nm,c+h.length≤nm∧k nm
 | [],h,c,d,k,_,h2,h3=>⟨d,h2,h3⟩
 |n :: ns,[],c,d,k,h1,_,h3=>⟨n,h1 0 n rfl,h3⟩
 |n :: ns,x :: h,c,d,k,h1,h2,h3=>by
   obtain ⟨nm,h4,h5⟩:=QfT ns h (c+1) d k (fun i m hm=>by have:=h1 (i+1) m (by simpa using hm);omega) (by simp only [List.length_cons] at h2;omega) h3
   exact ⟨nm,by simp only [List.length_cons];omega,h5⟩
theorem Qy4 (i n:Nat) (h:lits[i]?=some n):0+i≤n:=by
 have e:lits=List.range 128:=by decide +kernel
 rw [e] at h
 rw [List.getElem?_range] at h
 ·injection h with h;omega
 ·rcases Nat.lt_or_ge i 128 with h1 |h1
  ·exact h1
  ·rw [List.getElem?_eq_none (by simpa using h1)] at h;cases h
theorem named {α:Type} {h:List α} {k:Nat→Prop} (hk:Qam lits h h.length k):∃ nm,h.length≤nm∧k nm:=by
 obtain ⟨nm,h1,h2⟩:=QfT lits h 0 h.length k Qy4 (by omega) hk
 exact ⟨nm,by omega,h2⟩
def Qan (ops:Array Oper) (o:Oper):Option (Option (Tmp × Bool)) :=
 match o.guard with
 |none=>some none
 |some (j,want)=>match ops[j]? with
   |some oj=>match oj.dst with
     |some d=>some (some (d,want))
     |none=>none
   |none=>none
inductive Qm (A X B Y:Prop):Prop where
 |mk:(A→X)→(B→Y)→Qm A X B Y
def QlQ (T:Tab) (st:St) (o:Oper):Option (Bool × Prop × Prop):=match o.op with
 |.binOp op t x (.const (.slice none 0 0)) _=>match T.ty t with
   |some ti=>match ti.desc,op with
     |.slice _,.eql=>match st.eval x with
       |.one (.c (.imm (.slice none 0 0)))=>some (true,True,False)
       |.one (.c c)=>match Qak st.look c with |some ⟨_,l⟩=>some (true,l.length=0,True) |none=>none
       |_=>none
     |.slice _,.neq=>match st.eval x with
       |.one (.c (.imm (.slice none 0 0)))=>some (false,True,False)
       |.one (.c c)=>match Qak st.look c with |some ⟨_,l⟩=>some (false,l.length=0,True) |none=>none
       |_=>none
     |_,_=>none
   |none=>none
 |_=>none
def QuO (T:Tab) (o:Oper) (nm:Nat) (st:St) (K:St→Prop):Prop :=
 match QlQ T st o with
 |some (true,A,B)=>Qm A (fSt (st.put o.dst (.cell (bv true))) K) B (fSt (st.put o.dst (.cell (bv false))) K)
 |some (false,A,B)=>Qm A (fSt (st.put o.dst (.cell (bv false))) K) B (fSt (st.put o.dst (.cell (bv true))) K)
 |none=>match dstep T st.eval st.look nm o with
   |some r=>need r.pre (QEb r fun v add set=>fSt ((st.act nm { pre:=none,val:=v,add:=add,set:=set }).put o.dst v) K)
   |none=>False
def Qfr (T:Tab) (ops:Array Oper):List Oper→St→(St→Prop)→Prop
 | [],st,K=>K st
 |o :: r,st,K=>match Qan ops o with
   |none=>False
   |some none=>Qam lits st.heap st.heap.length fun nm=>QuO T o nm st fun st'=>Qfr T ops r st' K
   |some (some (d,want))=>match st.tmp d with
     |.one (.c (.imm (.bool b)))=>Br b
        (match want with
          |true=>fSt (st.put (some d) (.cell (bv true))) fun st=>Qam lits st.heap st.heap.length fun nm=>QuO T o nm st fun st'=>Qfr T ops r st' K
          |false=>fSt ((st.put (some d) (.cell (bv true))).put o.dst (.tup [])) fun st=>Qfr T ops r st K)
        (match want with
          |false=>fSt (st.put (some d) (.cell (bv false))) fun st=>Qam lits st.heap st.heap.length fun nm=>QuO T o nm st fun st'=>Qfr T ops r st' K
          |true=>fSt ((st.put (some d) (.cell (bv false))).put o.dst (.tup [])) fun st=>Qfr T ops r st K)
     |.tup []=>fSt (st.put o.dst (.tup [])) fun st=>Qfr T ops r st K
     |_=>False
structure Env where
 w:World
 ρ:Nat→Option Nat
 S:Nat→Prop
 H:Nat→Option Blk
 U:Nat→Prop
def QB {α:Type} (R:α→List Value→Prop):List α→List Value→Prop
 | [],vs=>vs=[]
 |d :: l,vs=>∃ r rest,vs=r++rest∧R d r∧QB R l rest
def SlR {α:Type} (w:World) (S:Nat→Prop) (R:α→List Value→Prop) (l:List α) (v:Value):Prop :=
 ∃ a cap,v=.slice a l.length cap∧l.length≤cap ∧
   (l≠[]→∃ (ad:Addr) (us:List Value),a=some ad∧S ad.block∧QB R l us∧∀ k u,us[k]?=some u→w.cell? (ad.add k)=some u)
def CR (w:World) (S:Nat→Prop):(t:Ty)→Den t→List Value→Prop
 |.int k,x,vs=>vs=[.int k x]
 |.ints k n,l,vs=>List.length l=n∧vs=List.map (.int k) l
 |.bool,b,vs=>vs=[.bool b]
 |.str,s,vs=>vs=[.string s]
 |.sl t,l,vs=>∃ v,vs=[v]∧SlR w S (CR w S t) l v
 |.pair a b,x,vs=>∃ r s,vs=r++s∧CR w S a x.1 r∧CR w S b x.2 s
theorem CR.len {w:World} {S:Nat→Prop}:{t:Ty}→{x:Den t}→{vs:List Value}→CR w S t x vs→vs.length=t.size
 |.int _,_,_,h=>by simp only [CR] at h;subst h;rfl
 |.ints _ n,l,_,h=>by simp only [CR] at h;obtain ⟨h,rfl⟩:=h;simp [Ty.size,h]
 |.bool,_,_,h=>by simp only [CR] at h;subst h;rfl
 |.str,_,_,h=>by simp only [CR] at h;subst h;rfl
 |.sl _,_,_,h=>by obtain ⟨v,rfl,_⟩:=h;rfl
 |.pair a b,x,_,h=>by
   obtain ⟨r,s,rfl,h1,h2⟩:=h
   simp [Ty.size,h1.len,h2.len]
theorem CR.flat {w w':World} {S S':Nat→Prop}:{t:Ty}→{x:Den t}→{vs:List Value}→t.flat=true→CR w S t x vs→CR w' S' t x vs
 |.int _,_,_,_,h=>h
 |.ints _ _,_,_,_,h=>h
 |.bool,_,_,_,h=>h
 |.str,_,_,_,h=>h
 |.sl _,_,_,hf,_=>by simp [Ty.flat] at hf
 |.pair a b,_,_,hf,⟨r,s,e,h1,h2⟩=>by
   simp [Ty.flat] at hf
   exact ⟨r,s,e,CR.flat hf.1 h1,CR.flat hf.2 h2⟩
theorem QB.mono {α:Type} {R R':α→List Value→Prop} (h:∀ x vs,R x vs→R' x vs):∀ {l:List α} {vs:List Value},QB R l vs→QB R' l vs
 | [],_,hl=>hl
 |_ :: _,_,⟨r,s,e,h1,h2⟩=>⟨r,s,e,h _ _ h1,h2.mono h⟩
theorem QB.len {α:Type} {R:α→List Value→Prop} {n:Nat} (h:∀ x vs,R x vs→vs.length=n):∀ {l:List α} {vs:List Value},QB R l vs→vs.length=l.length*n
 | [],_,hl=>by simp only [QB] at hl;subst hl;simp
 |_ :: l,_,⟨r,s,e,h1,h2⟩=>by subst e;simp [h _ _ h1,h2.len h,Nat.add_mul,Nat.add_comm]
theorem QB.append {α:Type} {R:α→List Value→Prop}:∀ {l l':List α} {vs vs':List Value},QB R l vs→QB R l' vs'→QB R (l++l') (vs++vs')
 | [],_,_,_,h,h'=>by simp only [QB] at h;subst h;exact h'
 |_ :: _,_,_,_,⟨r,s,e,h1,h2⟩,h'=>by subst e;exact ⟨r,_,by simp,h1,h2.append h'⟩
theorem QB.get {α:Type} {R:α→List Value→Prop} {n:Nat} (hn:∀ x vs,R x vs→vs.length=n):∀ {l:List α} {vs:List Value} {i:Nat},QB R l vs→(hi:i < l.length) →
 ∃ a r b,vs=a++r++b∧a.length=i*n∧R l[i] r
 |x :: l,_,0,⟨r,s,e,h1,h2⟩,_=>⟨[],r,s,by simpa using e,by simp,h1⟩
 |x :: l,_,i+1,⟨r,s,e,h1,h2⟩,hi=>by
   obtain ⟨a,r',b,rfl,ha,hr⟩:=h2.get hn (i:=i) (by simpa using hi)
   exact ⟨r++a,r',b,by simp [e],by simp [ha,hn _ _ h1,Nat.add_mul,Nat.add_comm],by simpa using hr⟩
theorem QB.set {α:Type} {R:α→List Value→Prop} {n:Nat} (hn:∀ x vs,R x vs→vs.length=n) {y:α} {ry:List Value} (hy:R y ry):∀ {l:List α} {a r b:List Value} {i:Nat},QB R l (a++r++b)→i < l.length→a.length=i*n→r.length=n →
 QB R (l.set i y) (a++ry++b)
 |x :: l,a,r,b,0,⟨r0,s,e,h1,h2⟩,_,ha,hr=>by
   have:a=[]:=by simpa using ha
   subst this
   have h:=List.append_inj (by simpa using e) (by rw [hr,hn _ _ h1])
   obtain ⟨rfl,rfl⟩:=h
   exact ⟨ry,b,by simp,hy,h2⟩
 |x :: l,a,r,b,i+1,⟨r0,s,e,h1,h2⟩,hi,ha,hr=>by
   have hl:=hn _ _ h1
   have h0:r0=a.take n:=by
    have:=congrArg (List.take n) e
    simp [List.take_append,hl,ha,Nat.add_mul] at this
    rw [← this]
   have hs:s=a.drop n++r++b:=by
    have:=congrArg (List.drop n) e
    simp [List.drop_append,hl,ha,Nat.add_mul] at this
    rw [← this]
    simp
   subst hs
   have hda:(a.drop n).length=i*n:=by simp [ha,Nat.add_mul]
   have h3:=h2.set hn hy (i:=i) (by simpa using hi) hda hr
   refine ⟨r0,a.drop n++ry++b,?_,h1,h3⟩
   rw [h0,← List.append_assoc,← List.append_assoc,List.take_append_drop]
theorem SlR.mono {α:Type} {w w':World} {S S':Nat→Prop} {R R':α→List Value→Prop} (hS:∀ g,S g→S' g∧w'.heap[g]?=w.heap[g]?) (h:∀ x vs,R x vs→R' x vs) {l:List α} {v:Value} (hh:SlR w S R l v):SlR w' S' R' l v:=by
 obtain ⟨a,cap,e,hc,h2⟩:=hh
 refine ⟨a,cap,e,hc,fun hne=>?_⟩
 obtain ⟨ad,us,ha,hs,hl,hcell⟩:=h2 hne
 refine ⟨ad,us,ha,(hS _ hs).1,hl.mono h,fun k u hu=>?_⟩
 have hb:(ad.add k).block=ad.block:=by unfold Addr.add;split<;>rfl
 rw [Go.World.cell?_of_block (w:=w) (by rw [hb];exact (hS _ hs).2)]
 exact hcell k u hu
theorem CR.mono {w w':World} {S S':Nat→Prop} (hS:∀ g,S g→S' g∧w'.heap[g]?=w.heap[g]?):{t:Ty}→{x:Den t}→{vs:List Value}→CR w S t x vs→CR w' S' t x vs
 |.int _,_,_,h=>h
 |.ints _ _,_,_,h=>h
 |.bool,_,_,h=>h
 |.str,_,_,h=>h
 |.sl t,l,_,⟨v,e,h⟩=>⟨v,e,h.mono hS fun _ _ hx=>CR.mono hS hx⟩
 |.pair a b,_,_,⟨r,s,e,h1,h2⟩=>⟨r,s,e,CR.mono hS h1,CR.mono hS h2⟩
def pt (g o:Nat):Value:=.pointer (some ⟨g,o,none⟩)
def QG5 (E:Env) (b:Nat) (n sz:Nat) (v:Value):Prop :=
 (E.ρ b=none∧v=.slice none 0 0) ∨
 ∃ g cs el cap,E.ρ b=some g∧E.w.heap[g]?=some (.cells cs el (0,0))∧v=.slice (some ⟨g,0,none⟩) n cap∧n≤cap∧cap*sz≤cs.size
def QG6 (E:Env) (b off len sz:Nat) (v:Value):Prop :=
 (E.ρ b=none∧len=0∧v=.slice none 0 0) ∨
 ∃ (g:Nat) (ad:Addr) (cap:Nat),E.ρ b=some g∧v=.slice (some ad) len cap∧len≤cap∧(0 < len→ad=⟨g,off*sz,none⟩)
def QaC (E:Env):QD→List Value→Prop
 |.imm v,vs=>vs=[v]∧v.oneCell'=true
 |.run k n l,vs=>l.length=n∧vs=l.map (.int k)
 |.ro t l,vs=>∃ v,vs=[v]∧SlR E.w E.S (CR E.w E.S t) l v
 |.rptr t l i j,vs=>i < l.length∧∃ (ad:Addr) (us:List Value),vs=[.pointer (some (ad.add (i*t.size+j)))]∧E.S ad.block∧QB (CR E.w E.S t) l us∧∀ k u,us[k]?=some u→E.w.cell? (ad.add k)=some u
 |.own b,vs=>∃ v,(vs=[v]∧v.oneCell'=true)∧E.U b∧∀ t l,E.H b=some (.arr t l)→QG5 E b l.length t.size v
 |.sub b off len,vs=>∃ v,(vs=[v]∧v.oneCell'=true)∧E.U b∧∀ t l,E.H b=some (.arr t l)→off+len≤l.length∧QG6 E b off len t.size v
 |.srun b j,vs=>∃ v,(vs=[v]∧v.oneCell'=true)∧E.U b∧∀ cs c,E.H b=some (.var cs)→QaJ cs j=some c→∃ g cap,E.ρ b=some g∧v=.slice (some ⟨g,j,none⟩) c.size cap∧c.size≤cap
 |.svar b j n,vs=>∃ v,(vs=[v]∧v.oneCell'=true)∧E.U b∧∀ cs,E.H b=some (.var cs)→∃ g cap,E.ρ b=some g∧v=.slice (some ⟨g,j,none⟩) n cap∧n≤cap
 |.ptr b j,vs=>∃ v,(vs=[v]∧v.oneCell'=true)∧E.U b∧∀ cs,E.H b=some (.var cs)→∃ g,E.ρ b=some g∧v=pt g j
 |.pel b i j,vs=>∃ v,(vs=[v]∧v.oneCell'=true)∧E.U b∧∀ t l,E.H b=some (.arr t l)→i < l.length→∃ g,E.ρ b=some g∧v=pt g (i*t.size+j)
 |.pidx b j i,vs=>∃ v,(vs=[v]∧v.oneCell'=true)∧E.U b∧∀ cs,E.H b=some (.var cs)→∃ g,E.ρ b=some g∧v=pt g (j+i)
 |.fn f bs,vs=>∃ caps:Array Value,vs=[.func (.func f) #[] caps]∧caps.size=bs.length ∧
    ∀ (i b:Nat),bs[i]?=some b→∃ u,caps[i]?=some u∧u.oneCell'=true∧E.U b∧∀ cs,E.H b=some (.var cs)→∃ g,E.ρ b=some g∧u=pt g 0
 |.ifc t b,vs=>∃ v,(vs=[.iface t v]∧v.oneCell'=true)∧E.U b∧∀ cs,E.H b=some (.var cs)→∃ g,E.ρ b=some g∧v=pt g 0
 |.map b,vs=>∃ v,(vs=[v]∧v.oneCell'=true)∧E.U b∧∀ ka kt vt l,E.H b=some (.mp ka kt vt l)→∃ g,E.ρ b=some g∧v=.map (some g)
def IR (E:Env):List QD→List Value→Prop
 | [],vs=>vs=[]
 |c :: cs,vs=>∃ r rest,vs=r++rest∧QaC E c r∧IR E cs rest
def V1R (E:Env):V1→Value→Prop
 |.c x,v=>QaC E x [v]
 |.agg cs,v=>∃ vals,v=.agg vals∧IR E cs vals.toList
def VsR (E:Env):List V1→List Value→Prop
 | [],vs=>vs=[]
 |x :: xs,vs=>∃ v r,vs=v :: r∧V1R E x v∧VsR E xs r
def AVR (E:Env):AV→Value→Prop
 |.dead,_=>True
 |.one x,v=>V1R E x v
 |.tup l,v=>∃ vs,v=.tuple vs∧VsR E l vs.toList
def KV (ka:Bool) (kt:Ty) (d:Den kt) (v:Value):Prop:=∃ vs,(∀ w S,CR w S kt d vs)∧((ka=true∧v=.agg vs.toArray)∨(ka=false∧vs=[v]))
def QlR (ka:Bool) (kt vt:Ty):List (Den kt × Den vt)→List MapEntry→Prop
 | [],[]=>True
 |p :: l,e :: es=>KV ka kt p.1 e.key∧(∀ w S,CR w S vt p.2 [e.val])∧QlR ka kt vt l es
 |_,_=>False
def Qm6 (E:Env) (b:Nat):Blk→Prop
 |.arr t l=>(E.ρ b=none∧l=[])∨∃ g cs el us spare,E.ρ b=some g∧E.w.heap[g]?=some (.cells cs el (0,0))∧cs.toList=us++spare∧QB (CR E.w E.S t) l us
 |.var is=>∃ g cs el,E.ρ b=some g∧E.w.heap[g]?=some (.cells cs el (0,0))∧IR E is cs.toList
 |.mp ka kt vt l=>∃ g es clock,E.ρ b=some g∧E.w.heap[g]?=some (.map es clock)∧QlR ka kt vt l es.toList
structure Qt (E:Env):Prop where
 blk:∀ b x,E.H b=some x→E.U b∧Qm6 E b x∧∀ g,E.ρ b=some g→¬ E.S g
 inj:∀ b b' x x' g,E.H b=some x→E.H b'=some x'→E.ρ b=some g→E.ρ b'=some g→b=b'
 st:∀ g,E.S g→g < E.w.heap.size
inductive Shp where
 |arr (t:Ty) (n:Nat)
 |var (l:List Nat)
 |mp (ka:Bool) (kt vt:Ty)
def shape:Blk→Shp
 |.arr t l=>.arr t l.length
 |.var cs=>.var (cs.map QD.size)
 |.mp ka kt vt _=>.mp ka kt vt
structure Ext (E E':Env):Prop where
 S:∀ g,E.S g→E'.S g∧E'.w.heap[g]?=E.w.heap[g]?
 U:∀ b,E.U b→E'.U b
 H:∀ b x',E.U b→E'.H b=some x'→∃ x,E.H b=some x∧E'.ρ b=E.ρ b∧shape x'=shape x ∧
   ∀ g cs el,E.ρ b=some g→E.w.heap[g]?=some (.cells cs el (0,0))→∃ cs',E'.w.heap[g]?=some (.cells cs' el (0,0))∧cs'.size=cs.size
theorem Ext.refl (E:Env):Ext E E:=⟨fun g h=>⟨h,rfl⟩,fun _ h=>h,fun b x' _ h=>⟨x',h,rfl,rfl,fun g cs el _ h=>⟨cs,h,rfl⟩⟩⟩
theorem Ext.trans {E E' E'':Env} (h:Ext E E') (h':Ext E' E''):Ext E E'':=by
 refine ⟨fun g hg=>⟨(h'.S g (h.S g hg).1).1,((h'.S g (h.S g hg).1).2).trans (h.S g hg).2⟩,fun b hb=>h'.U b (h.U b hb),fun b x' hb hx=>?_⟩
 obtain ⟨x1,e1,r1,s1,c1⟩:=h'.H b x' (h.U b hb) hx
 obtain ⟨x2,e2,r2,s2,c2⟩:=h.H b x1 hb e1
 refine ⟨x2,e2,r1.trans r2,s1.trans s2,fun g cs el hr hc=>?_⟩
 obtain ⟨cs',hc',hs'⟩:=c2 g cs el hr hc
 obtain ⟨cs'',hc'',hs''⟩:=c1 g cs' el (r2.trans hr) hc'
 exact ⟨cs'',hc'',hs''.trans hs'⟩
theorem QcE {x:Blk} {t:Ty} {l:List (Den t)} (h:shape (.arr t l)=shape x):∃ l',x=.arr t l'∧l'.length=l.length:=by
 cases x with
 |arr u l' =>
   simp only [shape] at h
   injection h with h1 h2
   subst h1
   exact ⟨l',rfl,h2.symm⟩
 |var cs=>simp [shape] at h
 |mp ka kt vt l=>simp [shape] at h
theorem QaD {x:Blk} {cs:List QD} (h:shape (.var cs)=shape x):∃ cs',x=.var cs'∧cs'.map QD.size=cs.map QD.size:=by
 cases x with
 |arr u l'=>simp [shape] at h
 |var cs' =>
   simp only [shape] at h
   injection h with h
   exact ⟨cs',rfl,h.symm⟩
 |mp ka kt vt l=>simp [shape] at h
theorem Qm7 {x:Blk} {ka:Bool} {kt vt:Ty} {l:List (Den kt × Den vt)} (h:shape (.mp ka kt vt l)=shape x):∃ l',x=.mp ka kt vt l':=by
 cases x with
 |arr u l'=>simp [shape] at h
 |var cs'=>simp [shape] at h
 |mp ka' kt' vt' l' =>
   simp only [shape] at h
   injection h with h1 h2 h3
   subst h1;subst h2;subst h3
   exact ⟨l',rfl⟩
theorem Qem:∀ {cs cs':List QD} {j:Nat} {c:QD},cs'.map QD.size=cs.map QD.size→QaJ cs j=some c→∃ c',QaJ cs' j=some c'∧c'.size=c.size
 | [],_,_,_,_,h=>by simp [QaJ] at h
 |x :: xs,[],_,_,e,_=>by simp at e
 |x :: xs,y :: ys,j,c,e,h=>by
   simp only [List.map_cons,List.cons.injEq] at e
   unfold QaJ at h ⊢
   cases h0:Nat.beq j 0 with
   |true=>rw [h0] at h;injection h with h;subst h;exact ⟨y,rfl,e.1⟩
   |false =>
     rw [h0] at h
     simp only at h ⊢
     rw [e.1]
     cases h1:Nat.ble x.size j with
     |true=>rw [h1] at h;exact Qem e.2 h
     |false=>rw [h1] at h;cases h
theorem QaC.ext {E E':Env} (h:Ext E E'):{c:QD}→{vs:List Value}→QaC E c vs→QaC E' c vs
 |.imm _,_,hc=>hc
 |.run _ _ _,_,hc=>hc
 |.ro t l,_,⟨v,e,hs⟩=>⟨v,e,hs.mono h.S fun _ _ hx=>hx.mono h.S⟩
 |.rptr t l i j,_,⟨hi,ad,us,e,hs,hl,hc⟩=>by
   refine ⟨hi,ad,us,e,(h.S _ hs).1,hl.mono fun _ _ hx=>hx.mono h.S,fun k u hu=>?_⟩
   have hb:(ad.add k).block=ad.block:=by unfold Addr.add;split<;>rfl
   rw [Go.World.cell?_of_block (w:=E.w) (by rw [hb];exact (h.S _ hs).2)]
   exact hc k u hu
 |.own b,_,⟨v,e,hu,hh⟩=>by
   refine ⟨v,e,h.U b hu,fun t l hb=>?_⟩
   obtain ⟨x,hx,hr,hsh,hcs⟩:=h.H b _ hu hb
   obtain ⟨l',rfl,hl⟩:=QcE hsh
   rcases hh t l' hx with ⟨h1,h2⟩ |⟨g,cs,el,cap,h1,h2,h3,h4,h5⟩
   ·exact .inl ⟨hr.trans h1,h2⟩
   ·obtain ⟨cs',h6,h7⟩:=hcs g cs el h1 h2
    exact .inr ⟨g,cs',el,cap,hr.trans h1,h6,by rw [h3,hl],by omega,by omega⟩
 |.sub b off len,_,⟨v,e,hu,hh⟩=>by
   refine ⟨v,e,h.U b hu,fun t l hb=>?_⟩
   obtain ⟨x,hx,hr,hsh,hcs⟩:=h.H b _ hu hb
   obtain ⟨l',rfl,hl⟩:=QcE hsh
   obtain ⟨h0,h1⟩:=hh t l' hx
   refine ⟨by omega,?_⟩
   rcases h1 with ⟨h1,h2,h3⟩ |⟨g,ad,cap,h1,h2⟩
   ·exact .inl ⟨hr.trans h1,h2,h3⟩
   ·exact .inr ⟨g,ad,cap,hr.trans h1,h2⟩
 |.srun b j,_,⟨v,e,hu,hh⟩=>by
   refine ⟨v,e,h.U b hu,fun cs c hb hi=>?_⟩
   obtain ⟨x,hx,hr,hsh,hcs⟩:=h.H b _ hu hb
   obtain ⟨cs',rfl,hm⟩:=QaD hsh
   obtain ⟨c',hc',hs'⟩:=Qem hm hi
   obtain ⟨g,cap,h1,h2,h3⟩:=hh cs' c' hx hc'
   exact ⟨g,cap,hr.trans h1,by rw [h2,hs'],by omega⟩
 |.svar b j n,_,⟨v,e,hu,hh⟩=>by
   refine ⟨v,e,h.U b hu,fun cs hb=>?_⟩
   obtain ⟨x,hx,hr,hsh,hcs⟩:=h.H b _ hu hb
   obtain ⟨cs',rfl,hm⟩:=QaD hsh
   obtain ⟨g,cap,h1,h2,h3⟩:=hh cs' hx
   exact ⟨g,cap,hr.trans h1,h2,h3⟩
 |.ptr b j,_,⟨v,e,hu,hh⟩=>by
   refine ⟨v,e,h.U b hu,fun cs hb=>?_⟩
   obtain ⟨x,hx,hr,hsh,hcs⟩:=h.H b _ hu hb
   obtain ⟨cs',rfl,hm⟩:=QaD hsh
   obtain ⟨g,h1,h2⟩:=hh cs' hx
   exact ⟨g,hr.trans h1,h2⟩
 |.pel b i j,_,⟨v,e,hu,hh⟩=>by
   refine ⟨v,e,h.U b hu,fun t l hb hi=>?_⟩
   obtain ⟨x,hx,hr,hsh,hcs⟩:=h.H b _ hu hb
   obtain ⟨l',rfl,hl⟩:=QcE hsh
   obtain ⟨g,h1,h2⟩:=hh t l' hx (by omega)
   exact ⟨g,hr.trans h1,h2⟩
 |.pidx b j i,_,⟨v,e,hu,hh⟩=>by
   refine ⟨v,e,h.U b hu,fun cs hb=>?_⟩
   obtain ⟨x,hx,hr,hsh,hcs⟩:=h.H b _ hu hb
   obtain ⟨cs',rfl,hm⟩:=QaD hsh
   obtain ⟨g,h1,h2⟩:=hh cs' hx
   exact ⟨g,hr.trans h1,h2⟩
 |.fn f bs,_,⟨caps,e,hs,hh⟩=>by
   refine ⟨caps,e,hs,fun i b hb=>?_⟩
   obtain ⟨u,hu1,hu2,hU,hh⟩:=hh i b hb
   refine ⟨u,hu1,hu2,h.U b hU,fun cs hx'=>?_⟩
   obtain ⟨x,hx,hr,hsh,hcs⟩:=h.H b _ hU hx'
   obtain ⟨cs',rfl,hm⟩:=QaD hsh
   obtain ⟨g,h1,h2⟩:=hh cs' hx
   exact ⟨g,hr.trans h1,h2⟩
 |.ifc t b,_,⟨v,e,hu,hh⟩=>by
   refine ⟨v,e,h.U b hu,fun cs hb=>?_⟩
   obtain ⟨x,hx,hr,hsh,hcs⟩:=h.H b _ hu hb
   obtain ⟨cs',rfl,hm⟩:=QaD hsh
   obtain ⟨g,h1,h2⟩:=hh cs' hx
   exact ⟨g,hr.trans h1,h2⟩
 |.map b,_,⟨v,e,hu,hh⟩=>by
   refine ⟨v,e,h.U b hu,fun ka kt vt l hb=>?_⟩
   obtain ⟨x,hx,hr,hsh,hcs⟩:=h.H b _ hu hb
   obtain ⟨l',rfl⟩:=Qm7 hsh
   obtain ⟨g,h1,h2⟩:=hh ka kt vt l' hx
   exact ⟨g,hr.trans h1,h2⟩
theorem IR.ext {E E':Env} (h:Ext E E'):∀ {cs:List QD} {vs:List Value},IR E cs vs→IR E' cs vs
 | [],_,hc=>hc
 |_ :: _,_,⟨r,s,e,h1,h2⟩=>⟨r,s,e,h1.ext h,h2.ext h⟩
theorem V1R.ext {E E':Env} (h:Ext E E'):{x:V1}→{v:Value}→V1R E x v→V1R E' x v
 |.c _,_,hc=>QaC.ext h hc
 |.agg _,_,⟨vals,e,hc⟩=>⟨vals,e,hc.ext h⟩
theorem VsR.ext {E E':Env} (h:Ext E E'):∀ {xs:List V1} {vs:List Value},VsR E xs vs→VsR E' xs vs
 | [],_,hc=>hc
 |_ :: _,_,⟨v,r,e,h1,h2⟩=>⟨v,r,e,h1.ext h,h2.ext h⟩
theorem AVR.ext {E E':Env} (h:Ext E E'):{x:AV}→{v:Value}→AVR E x v→AVR E' x v
 |.dead,_,_=>trivial
 |.one _,_,hc=>V1R.ext h hc
 |.tup _,_,⟨vs,e,hc⟩=>⟨vs,e,hc.ext h⟩
theorem QaC.len {E:Env}:{c:QD}→{vs:List Value}→QaC E c vs→vs.length=c.size
 |.imm _,_,h=>by obtain ⟨rfl,_⟩:=h;rfl
 |.run k n l,_,h=>by obtain ⟨h,rfl⟩:=h;simp [QD.size,h]
 |.ro _ _,_,⟨_,e,_⟩=>by subst e;rfl
 |.rptr _ _ _ _,_,⟨_,_,_,e,_⟩=>by subst e;rfl
 |.own _,_,⟨_,⟨e,_⟩,_⟩=>by subst e;rfl
 |.sub _ _ _,_,⟨_,⟨e,_⟩,_⟩=>by subst e;rfl
 |.srun _ _,_,⟨_,⟨e,_⟩,_⟩=>by subst e;rfl
 |.svar _ _ _,_,⟨_,⟨e,_⟩,_⟩=>by subst e;rfl
 |.ptr _ _,_,⟨_,⟨e,_⟩,_⟩=>by subst e;rfl
 |.pel _ _ _,_,⟨_,⟨e,_⟩,_⟩=>by subst e;rfl
 |.pidx _ _ _,_,⟨_,⟨e,_⟩,_⟩=>by subst e;rfl
 |.fn _ _,_,⟨_,e,_⟩=>by subst e;rfl
 |.ifc _ _,_,⟨_,⟨e,_⟩,_⟩=>by subst e;rfl
 |.map _,_,⟨_,⟨e,_⟩,_⟩=>by subst e;rfl
def sizes (cs:List QD):Nat:=(cs.map QD.size).sum
theorem IR.len {E:Env}:∀ {cs:List QD} {vs:List Value},IR E cs vs→vs.length=sizes cs
 | [],_,h=>by simp only [IR] at h;subst h;rfl
 |c :: cs,_,⟨r,s,e,h1,h2⟩=>by subst e;simp [sizes,h1.len,h2.len]
theorem IR.append {E:Env}:∀ {cs cs':List QD} {vs vs':List Value},IR E cs vs→IR E cs' vs'→IR E (cs++cs') (vs++vs')
 | [],_,_,_,h,h'=>by simp only [IR] at h;subst h;exact h'
 |_ :: _,_,_,_,⟨r,s,e,h1,h2⟩,h'=>by subst e;exact ⟨r,_,by simp,h1,h2.append h'⟩
theorem CR.items {E:Env}:{t:Ty}→{x:Den t}→{vs:List Value}→CR E.w E.S t x vs→IR E (cells t x) vs
 |.int k,x,_,h=>by simp only [CR] at h;subst h;exact ⟨[_],[],rfl,⟨rfl,rfl⟩,rfl⟩
 |.ints k n,l,vs,h=>⟨vs,[],by simp,h,rfl⟩
 |.bool,b,_,h=>by simp only [CR] at h;subst h;exact ⟨[_],[],rfl,⟨rfl,rfl⟩,rfl⟩
 |.str,s,_,h=>by simp only [CR] at h;subst h;exact ⟨[_],[],rfl,⟨rfl,rfl⟩,rfl⟩
 |.sl t,l,vs,h=>⟨vs,[],by simp,h,rfl⟩
 |.pair a b,x,_,⟨r,s,e,h1,h2⟩=>by subst e;exact h1.items.append h2.items
theorem SlR.one {α:Type} {w:World} {S:Nat→Prop} {R:α→List Value→Prop} {l:List α} {v:Value} (h:SlR w S R l v):v.oneCell'=true:=by
 obtain ⟨a,cap,rfl,_⟩:=h;rfl
theorem CR.ones {w:World} {S:Nat→Prop}:{t:Ty}→{x:Den t}→{vs:List Value}→CR w S t x vs→∀ u ∈ vs,u.oneCell'=true
 |.int _,_,_,h=>by simp only [CR] at h;subst h;intro u hu;simp at hu;subst hu;rfl
 |.ints _ n,l,_,h=>by simp only [CR] at h;obtain ⟨h,rfl⟩:=h;intro u hu;simp at hu;obtain ⟨y,_,rfl⟩:=hu;rfl
 |.bool,_,_,h=>by simp only [CR] at h;subst h;intro u hu;simp at hu;subst hu;rfl
 |.str,_,_,h=>by simp only [CR] at h;subst h;intro u hu;simp at hu;subst hu;rfl
 |.sl _,_,_,h=>by obtain ⟨v,rfl,h⟩:=h;intro u hu;simp at hu;subst hu;exact h.one
 |.pair a b,x,_,h=>by
   obtain ⟨r,s,rfl,h1,h2⟩:=h
   intro u hu
   rcases List.mem_append.1 hu with hu |hu
   ·exact h1.ones u hu
   ·exact h2.ones u hu
theorem QaC.ones {E:Env}:{c:QD}→{vs:List Value}→QaC E c vs→∀ u ∈ vs,u.oneCell'=true
 |.imm _,_,h=>by obtain ⟨rfl,h⟩:=h;simpa using h
 |.run k n l,_,h=>by obtain ⟨h,rfl⟩:=h;intro u hu;simp at hu;obtain ⟨y,_,rfl⟩:=hu;rfl
 |.ro _ _,_,⟨_,e,h⟩=>by subst e;simpa using h.one
 |.rptr _ _ _ _,_,⟨_,_,_,e,_⟩=>by subst e;simp [Value.oneCell']
 |.own _,_,⟨_,⟨e,h⟩,_⟩=>by subst e;simpa using h
 |.sub _ _ _,_,⟨_,⟨e,h⟩,_⟩=>by subst e;simpa using h
 |.srun _ _,_,⟨_,⟨e,h⟩,_⟩=>by subst e;simpa using h
 |.svar _ _ _,_,⟨_,⟨e,h⟩,_⟩=>by subst e;simpa using h
 |.ptr _ _,_,⟨_,⟨e,h⟩,_⟩=>by subst e;simpa using h
 |.pel _ _ _,_,⟨_,⟨e,h⟩,_⟩=>by subst e;simpa using h
 |.pidx _ _ _,_,⟨_,⟨e,h⟩,_⟩=>by subst e;simpa using h
 |.fn _ _,_,⟨_,e,_⟩=>by subst e;simp [Value.oneCell']
 |.ifc _ _,_,⟨_,⟨e,_⟩,_⟩=>by subst e;simp [Value.oneCell']
 |.map _,_,⟨_,⟨e,h⟩,_⟩=>by subst e;simpa using h
theorem IR.ones {E:Env}:∀ {cs:List QD} {vs:List Value},IR E cs vs→∀ u ∈ vs,u.oneCell'=true
 | [],_,h=>by simp only [IR] at h;subst h;simp
 |_ :: _,_,⟨r,s,e,h1,h2⟩=>by
   subst e
   intro u hu
   rcases List.mem_append.1 hu with hu |hu
   ·exact h1.ones u hu
   ·exact h2.ones u hu
theorem QB.ones {α:Type} {R:α→List Value→Prop} (h:∀ x vs,R x vs→∀ u ∈ vs,u.oneCell'=true):∀ {l:List α} {vs:List Value},QB R l vs→∀ u ∈ vs,u.oneCell'=true
 | [],_,hl=>by simp only [QB] at hl;subst hl;simp
 |_ :: _,_,⟨r,s,e,h1,h2⟩=>by
   subst e
   intro u hu
   rcases List.mem_append.1 hu with hu |hu
   ·exact h _ _ h1 u hu
   ·exact h2.ones h u hu
structure QuD where
 w0:World
 own0:Nat→Prop
 S0:Nat→Prop
structure Qcd (F:QuD) (E:Env):Prop where
 os:E.w.os=F.w0.os
 tape:E.w.tape=F.w0.tape
 output:E.w.output=F.w0.output
 size:F.w0.heap.size≤E.w.heap.size
 old:∀ g,g < F.w0.heap.size→¬ F.own0 g→E.w.heap[g]?=F.w0.heap[g]?
 own:∀ b x g,E.H b=some x→E.ρ b=some g→F.w0.heap.size≤g∨F.own0 g
 S:∀ g,E.S g→F.S0 g∨F.w0.heap.size≤g∨F.own0 g
def Qfs:(Nat→Option Blk)→List (Nat × Option Blk)→Nat→Option Blk
 |H,[]=>H
 |H,(b,o) :: r=>Qfs (fun x=>if x=b then o else H x) r
def addF:(Nat→Option Blk)→Nat→List Blk→Nat→Option Blk
 |H,_,[]=>H
 |H,n,x :: r=>addF (fun y=>if y=n then some x else H y) (n+1) r
structure QaI (E:Env) (r:Res) (nm:Nat) (E':Env):Prop where
 ext:Ext E E'
 ok:Qt E'
 H:∀ b,E'.H b=addF (Qfs E.H r.set) nm r.add b
 U:∀ b,E'.U b ↔ (E.U b∨(nm≤b∧b < nm+r.add.length))
 fr:∀ F,Qcd F E→Qcd F E'
theorem QaI.same {E:Env} {r:Res} {nm:Nat} (hH:Qt E) (h1:r.add=[]) (h2:r.set=[]):QaI E r nm E :=
 ⟨.refl E,hH,fun b=>by rw [h1,h2];rfl,fun b=>by rw [h1];simp;omega,fun _ h=>h⟩
def SU (E:Env) (us:List Nat) (g:Nat):Prop:=E.S g∨∃ u x,u ∈ us∧E.H u=some x∧E.ρ u=some g
theorem SU.of {E:Env} {us:List Nat} {g:Nat} (h:E.S g):SU E us g:=.inl h
theorem SU.mono {E:Env} {us us':List Nat} (hs:∀ u,u ∈ us→u ∈ us') {g:Nat} (h:SU E us g):SU E us' g :=
 h.imp id fun ⟨u,x,hu,hx,hr⟩=>⟨u,x,hs u hu,hx,hr⟩
theorem CR.su {E:Env} {us:List Nat} {t:Ty} {x:Den t} {vs:List Value} (h:CR E.w E.S t x vs):CR E.w (SU E us) t x vs :=
 h.mono fun _ hg=>⟨.inl hg,rfl⟩
theorem CR.su_mono {E:Env} {us us':List Nat} (hs:∀ u,u ∈ us→u ∈ us') {t:Ty} {x:Den t} {vs:List Value} (h:CR E.w (SU E us) t x vs):CR E.w (SU E us') t x vs :=
 h.mono fun _ hg=>⟨hg.mono hs,rfl⟩
theorem cell_at {w:World} {g:Nat} {cs:Array Value} {el:TypeId} {fr:Nat × Nat} (h:w.heap[g]?=some (.cells cs el fr)) (o:Nat):w.cell? ⟨g,o,none⟩=cs[o]?:=by
 simp [World.cell?,h]
theorem Qbd (g o k:Nat):(⟨g,o,none⟩:Addr).add k=⟨g,o+k,none⟩:=by
 unfold Addr.add;split<;>simp_all
theorem QfU {w:World} {S:Nat→Prop} {k:IntKind}:∀ (l:List Int),QB (CR w S (.int k)) l (l.map (.int k))
 | []=>rfl
 |x :: l=>⟨[.int k x],l.map (.int k),rfl,rfl,QfU l⟩
theorem QB.take_drop {α:Type} {R:α→List Value→Prop} {n:Nat} (hn:∀ x vs,R x vs→vs.length=n):∀ {l:List α} {vs:List Value} (k:Nat),QB R l vs →
 QB R (l.take k) (vs.take (k*n))∧QB R (l.drop k) (vs.drop (k*n))
 |l,vs,0,h=>by simp;exact ⟨rfl,h⟩
 | [],vs,k+1,h=>by simp only [QB] at h;subst h;simp;exact rfl
 |x :: l,_,k+1,⟨r,s,e,h1,h2⟩=>by
   subst e
   have hl:=hn _ _ h1
   obtain ⟨h3,h4⟩:=h2.take_drop hn k
   have e1:(r++s).take ((k+1)*n)=r++s.take (k*n):=by
    rw [List.take_append,hl,show (k+1)*n-n=k*n from by rw [Nat.add_mul];omega,List.take_of_length_le (by rw [hl,Nat.add_mul];omega)]
   have e2:(r++s).drop ((k+1)*n)=s.drop (k*n):=by
    rw [List.drop_append,hl,show (k+1)*n-n=k*n from by rw [Nat.add_mul];omega,List.drop_of_length_le (by rw [hl,Nat.add_mul];omega)];simp
   rw [e1,e2]
   exact ⟨⟨r,_,rfl,h1,h3⟩,h4⟩
theorem Qj {t:Ty} (h:t=t) (l:List (Den t)):Qfn h l=l:=rfl
theorem QbU {E:Env} {look:Nat→Option Blk} (hH:Qt E) (hl:∀ b x,look b=some x→E.H b=some x) {c:QD} {v:Value} {t:Ty} {l:List (Den t)}
 (h:Qak look c=some ⟨t,l⟩) (hc:QaC E c [v]):SlR E.w (SU E c.names) (CR E.w E.S t) l v:=by
 cases c with
 |ro u l' =>
   simp only [Qak,Option.some.injEq,Sigma.mk.injEq] at h
   obtain ⟨rfl,h⟩:=h
   have h:=eq_of_heq h
   subst h
   obtain ⟨v',e,hs⟩:=hc
   injection e with e
   subst e
   exact hs.mono (fun _ hg=>⟨.inl hg,rfl⟩) fun _ _ hx=>hx
 |own b =>
   simp only [Qak] at h
   obtain ⟨v',⟨e,_⟩,hu,hh⟩:=hc
   injection e with e
   subst e
   cases hb:look b with
   |none=>rw [hb] at h;cases h
   |some x =>
     rw [hb] at h
     cases x with
     |var _=>cases h
     |mp _ _ _ _=>cases h
     |arr u l' =>
       simp only [Option.some.injEq,Sigma.mk.injEq] at h
       obtain ⟨rfl,h⟩:=h
       have h:=eq_of_heq h
       subst h
       have hx:=hl _ _ hb
       obtain ⟨_,hbr,_⟩:=hH.blk _ _ hx
       rcases hh _ _ hx with ⟨h1,rfl⟩ |⟨g,cs,el,cap,h1,h2,rfl,h4,h5⟩
       ·rcases hbr with ⟨_,rfl⟩ |⟨g,_,_,_,_,h6,_⟩
        ·exact ⟨none,0,rfl,Nat.le_refl _,fun hne=>absurd rfl hne⟩
        ·rw [h1] at h6;cases h6
       ·refine ⟨_,cap,rfl,h4,fun hne=>?_⟩
        rcases hbr with ⟨h6,rfl⟩ |⟨g',cs',el',us,spare,h6,h7,h8,h9⟩
        ·exact absurd rfl hne
        ·rw [h1] at h6;injection h6 with h6;subst h6
         refine ⟨_,us,rfl,.inr ⟨b,_,by simp [QD.names],hx,h1⟩,h9,fun k u hu=>?_⟩
         rw [Qbd,cell_at h7,Nat.zero_add,← Array.getElem?_toList,h8,List.getElem?_append_left (by exact (List.getElem?_eq_some_iff.1 hu).1)]
         exact hu
 |sub b off len =>
   simp only [Qak] at h
   obtain ⟨v',⟨e,_⟩,hu,hh⟩:=hc
   injection e with e
   subst e
   cases hb:look b with
   |none=>rw [hb] at h;cases h
   |some x =>
     rw [hb] at h
     cases x with
     |var _=>cases h
     |mp _ _ _ _=>cases h
     |arr u l' =>
       simp only [Option.some.injEq,Sigma.mk.injEq] at h
       obtain ⟨rfl,h⟩:=h
       have h:=eq_of_heq h
       subst h
       have hx:=hl _ _ hb
       obtain ⟨_,hbr,_⟩:=hH.blk _ _ hx
       obtain ⟨h0,hh⟩:=hh _ _ hx
       have hlen:((l'.drop off).take len).length=len:=by simp;omega
       rcases hh with ⟨h1,h2,rfl⟩ |⟨g,ad,cap,h1,rfl,h4,h5⟩
       ·subst h2
        exact ⟨none,0,by simp,by simp,fun hne=>absurd (by simp) hne⟩
       ·refine ⟨_,cap,by rw [hlen],by rw [hlen];exact h4,fun hne=>?_⟩
        have hpos:0 < len:=by
         rcases Nat.eq_zero_or_pos len with e |e
         ·subst e;exact absurd (by simp) hne
         ·exact e
        rcases hbr with ⟨h6,rfl⟩ |⟨g',cs',el',us,spare,h6,h7,h8,h9⟩
        ·simp at h0;omega
        ·rw [h1] at h6;injection h6 with h6;subst h6
         have h10:=((h9.take_drop (fun _ _ hx=>hx.len) off).2.take_drop (fun _ _ hx=>hx.len) len).1
         refine ⟨ad,_,rfl,.inr ⟨b,_,by simp [QD.names],hx,by rw [h1,h5 hpos]⟩,h10,fun k u hu=>?_⟩
         rw [h5 hpos,Qbd,cell_at h7,← Array.getElem?_toList,h8]
         rw [List.getElem?_take] at hu
         split at hu
         ·rw [List.getElem?_drop] at hu
          rw [List.getElem?_append_left (by exact (List.getElem?_eq_some_iff.1 hu).1)]
          exact hu
         ·cases hu
 |srun b j =>
   simp only [Qak] at h
   obtain ⟨v',⟨e,_⟩,hu,hh⟩:=hc
   injection e with e
   subst e
   cases hb:look b with
   |none=>rw [hb] at h;cases h
   |some x =>
     rw [hb] at h
     cases x with
     |arr _ _=>cases h
     |mp _ _ _ _=>cases h
     |var cs =>
       simp only at h
       cases hi:QaJ cs j with
       |none=>rw [hi] at h;cases h
       |some c =>
         rw [hi] at h
         cases c with
         |run k n l' =>
           simp only [Option.some.injEq,Sigma.mk.injEq] at h
           obtain ⟨rfl,h⟩:=h
           have h:=eq_of_heq h
           subst h
           have hx:=hl _ _ hb
           obtain ⟨_,⟨g',cs',el',h6,h7,h8⟩,_⟩:=hH.blk _ _ hx
           obtain ⟨g,cap,h1,rfl,h3⟩:=hh _ _ hx hi
           rw [h1] at h6;injection h6 with h6;subst h6
           have key:∀ (cs:List QD) (vs:List Value) (j:Nat),IR E cs vs→QaJ cs j=some (.run k n l')→l'.length=n∧∀ i (u:Int),l'[i]?=some u→vs[j+i]?=some (.int k u):=by
            intro cs
            induction cs with
            |nil=>intro vs j _ h;simp [QaJ] at h
            |cons c cs ih =>
              rintro vs j ⟨r,rest,rfl,hr,hrest⟩ h
              unfold QaJ at h
              cases h0:Nat.beq j 0 with
              |true =>
                rw [h0] at h
                injection h with h
                subst h
                obtain ⟨hlen,rfl⟩:=hr
                have:j=0:=Nat.eq_of_beq_eq_true h0
                subst this
                refine ⟨hlen,fun i u hu=>?_⟩
                rw [Nat.zero_add,List.getElem?_append_left (by simpa using (List.getElem?_eq_some_iff.1 hu).1)]
                simp [hu]
              |false =>
                rw [h0] at h
                simp only at h
                cases h1:Nat.ble c.size j with
                |true =>
                  rw [h1] at h
                  have hle:=Nat.le_of_ble_eq_true h1
                  obtain ⟨hlen,hk⟩:=ih rest (j-c.size) hrest h
                  refine ⟨hlen,fun i u hu=>?_⟩
                  rw [List.getElem?_append_right (by rw [hr.len];omega),hr.len,show j+i-c.size=j-c.size+i from by omega]
                  exact hk i u hu
                |false=>rw [h1] at h;cases h
           obtain ⟨hlen,hk⟩:=key cs cs'.toList j h8 hi
           refine ⟨_,cap,by rw [hlen];rfl,by rw [hlen];exact h3,fun hne=>⟨_,l'.map (.int k),rfl,.inr ⟨b,_,by simp [QD.names],hx,h1⟩,QfU l',fun i u hu=>?_⟩⟩
           rw [Qbd,cell_at h7,← Array.getElem?_toList]
           rw [List.getElem?_map] at hu
           cases hi':l'[i]? with
           |none=>rw [hi'] at hu;cases hu
           |some y =>
             rw [hi'] at hu
             injection hu with hu
             subst hu
             exact hk i y hi'
         |_=>cases h
 |_=>simp [Qak] at h
theorem QiK {E:Env} {look:Nat→Option Blk} (hH:Qt E) (hl:∀ b x,look b=some x→E.H b=some x) {c:QD} {v:Value} {t:Ty} {l:List (Den t)}
 (h:QqI look t c=some l) (hc:QaC E c [v]):SlR E.w (SU E c.names) (CR E.w E.S t) l v:=by
 unfold QqI at h
 split at h
 ·injection h with h
  subst h
  obtain ⟨e,_⟩:=hc
  injection e with e
  subst e
  exact ⟨none,0,rfl,Nat.le_refl _,fun hne=>absurd rfl hne⟩
 ·split at h
  ·rename_i u l' hs
   split at h
   ·rename_i he hq
    injection h with h
    obtain rfl:=he.down
    subst h
    exact QbU hH hl hs hc
   ·cases h
  ·cases h
theorem Qpa {look:Nat→Option Blk} {c:QD} {t:Ty} {l:List (Den t)} (h:QqI look t c=some l) :
 QEA c=c.names∨∀ E v,QaC E c [v]→l=[]∧v=.slice none 0 0:=by
 unfold QqI at h
 split at h
 ·refine .inr fun E v hc=>?_
  injection h with h
  obtain ⟨e,_⟩:=hc
  injection e with e
  exact ⟨h.symm,e⟩
 ·cases c<;>first |exact .inl rfl |(simp [Qak] at h)
theorem Qy5 {E:Env} {look:Nat→Option Blk} (hH:Qt E) (hl:∀ b x,look b=some x→E.H b=some x):∀ {t:Ty} {cs rest:List QD} {vs:List Value} {d:Den t} {us:List Nat},
 dec look t cs=some (d,us,rest)→IR E cs vs→∃ a b,vs=a++b∧CR E.w (SU E us) t d a∧IR E rest b:=by
 intro t
 induction t with
 |int k =>
   intro cs rest vs d us h hr
   unfold dec at h
   split at h
   ·split at h
    ·rename_i hk
     simp only [Option.some.injEq,Prod.mk.injEq] at h
     obtain ⟨rfl,rfl,rfl⟩:=h
     obtain ⟨a,b,rfl,⟨rfl,_⟩,hb⟩:=hr
     have:=of_decide_eq_true hk
     subst this
     exact ⟨_,b,rfl,rfl,hb⟩
    ·cases h
   ·cases h
 |ints k n =>
   intro cs rest vs d us h hr
   unfold dec at h
   split at h
   ·split at h
    ·rename_i hk
     simp only [Option.some.injEq,Prod.mk.injEq] at h
     obtain ⟨rfl,rfl,rfl⟩:=h
     obtain ⟨a,b,rfl,⟨hlen,rfl⟩,hb⟩:=hr
     rw [Bool.and_eq_true] at hk
     have h1:=of_decide_eq_true hk.1
     have h2:=Nat.eq_of_beq_eq_true hk.2
     subst h1 h2
     exact ⟨_,b,rfl,⟨hlen,rfl⟩,hb⟩
    ·cases h
   ·cases h
 |bool =>
   intro cs rest vs d us h hr
   unfold dec at h
   split at h
   ·simp only [Option.some.injEq,Prod.mk.injEq] at h
    obtain ⟨rfl,rfl,rfl⟩:=h
    obtain ⟨a,b,rfl,⟨rfl,_⟩,hb⟩:=hr
    exact ⟨_,b,rfl,rfl,hb⟩
   ·cases h
 |str =>
   intro cs rest vs d us h hr
   unfold dec at h
   split at h
   ·simp only [Option.some.injEq,Prod.mk.injEq] at h
    obtain ⟨rfl,rfl,rfl⟩:=h
    obtain ⟨a,b,rfl,⟨rfl,_⟩,hb⟩:=hr
    exact ⟨_,b,rfl,rfl,hb⟩
   ·cases h
 |sl t ih =>
   intro cs rest vs d us h hr
   unfold dec at h
   cases cs with
   |nil=>cases h
   |cons c r =>
     simp only at h
     cases hs:QqI look t c with
     |none=>rw [hs] at h;cases h
     |some l =>
       rw [hs] at h
       simp only [Option.some.injEq,Prod.mk.injEq] at h
       obtain ⟨rfl,hus,rfl⟩:=h
       obtain ⟨a,b,rfl,ha,hb⟩:=hr
       have hone:∃ v,a=[v]:=by
        have hlen:=ha.len
        have:c.size=1:=by
         unfold QqI at hs
         cases c<;>first |rfl |(simp [Qak] at hs)
        rw [this] at hlen
        match a,hlen with
        | [v],_=>exact ⟨v,rfl⟩
       obtain ⟨v,rfl⟩:=hone
       refine ⟨[v],b,rfl,⟨v,rfl,?_⟩,hb⟩
       rcases Qpa hs with hn |hn
       ·rw [hn] at hus
        subst hus
        exact (QiK hH hl hs ha).mono (fun _ hg=>⟨hg,rfl⟩) fun _ _ hx=>hx.su
       ·obtain ⟨rfl,rfl⟩:=hn E v ha
        exact ⟨none,0,rfl,Nat.le_refl _,fun hne=>absurd rfl hne⟩
 |pair t1 t2 ih1 ih2 =>
   intro cs rest vs d us h hr
   unfold dec at h
   cases h1:dec look t1 cs with
   |none=>rw [h1] at h;cases h
   |some x =>
     obtain ⟨x,u,r⟩:=x
     rw [h1] at h
     simp only at h
     cases h2:dec look t2 r with
     |none=>rw [h2] at h;cases h
     |some y =>
       obtain ⟨y,u',r'⟩:=y
       rw [h2] at h
       simp only [Option.some.injEq,Prod.mk.injEq] at h
       obtain ⟨rfl,rfl,rfl⟩:=h
       obtain ⟨a,b,rfl,ha,hb⟩:=ih1 h1 hr
       obtain ⟨a',b',rfl,ha',hb'⟩:=ih2 h2 hb
       exact ⟨a++a',b',by simp,⟨a,a',rfl,ha.su_mono (by simp +contextual),ha'.su_mono (by simp +contextual)⟩,hb'⟩
theorem Qbp {E:Env} {look:Nat→Option Blk} (hH:Qt E) (hl:∀ b x,look b=some x→E.H b=some x) {t:Ty} {cs:List QD} {vs:List Value} {d:Den t} {us:List Nat}
 (h:QbJ look t cs=some (d,us)) (hr:IR E cs vs):CR E.w (SU E us) t d vs:=by
 unfold QbJ at h
 split at h
 ·rename_i x u hd
  simp only [Option.some.injEq,Prod.mk.injEq] at h
  obtain ⟨rfl,rfl⟩:=h
  obtain ⟨a,b,rfl,ha,hb⟩:=Qy5 hH hl hd hr
  simp only [IR] at hb
  subst hb
  simpa using ha
 ·cases h
theorem QeM (us:List Nat):∀ (H:Nat→Option Blk) (b:Nat),Qfs H (us.map fun u=>(u,none)) b=if b ∈ us then none else H b:=by
 induction us with
 |nil=>intro H b;rfl
 |cons u us ih =>
   intro H b
   simp only [List.map_cons,Qfs,ih]
   by_cases h:b=u
   ·subst h;simp
   ·simp [h]
theorem QlS (a c:List (Nat × Option Blk)):∀ (H:Nat→Option Blk),Qfs H (a++c)=Qfs (Qfs H a) c:=by
 induction a with
 |nil=>intro H;rfl
 |cons x a ih=>intro H;obtain ⟨b,o⟩:=x;simp only [List.cons_append,Qfs];exact ih _
def QM (E:Env) (us:List Nat):Env:={ E with S:=SU E us,H:=fun b=>if b ∈ us then none else E.H b }
theorem Q8 {E:Env} (us:List Nat):Ext E (QM E us):=by
 refine ⟨fun g hg=>⟨.inl hg,rfl⟩,fun _ h=>h,fun b x' _ hx=>?_⟩
 by_cases hb:b ∈ us
 ·simp [QM,hb] at hx
 ·simp only [QM,hb,if_false] at hx
  exact ⟨x',hx,rfl,rfl,fun g cs el _ h=>⟨cs,h,rfl⟩⟩
theorem QaG {E:Env} (hH:Qt E) {b g:Nat} {x:Blk} (hx:E.H b=some x) (hr:E.ρ b=some g):g < E.w.heap.size∧∃ o,E.w.heap[g]?=some o:=by
 have key:∃ o,E.w.heap[g]?=some o:=by
  obtain ⟨_,hb,_⟩:=hH.blk b x hx
  cases x with
  |arr t l =>
    rcases hb with ⟨h,_⟩ |⟨g',cs,el,us,spare,h1,h2,_⟩
    ·rw [hr] at h;cases h
    ·rw [hr] at h1;injection h1 with h1;subst h1;exact ⟨_,h2⟩
  |var is =>
    obtain ⟨g',cs,el,h1,h2,_⟩:=hb
    rw [hr] at h1;injection h1 with h1;subst h1;exact ⟨_,h2⟩
  |mp ka kt vt l =>
    obtain ⟨g',es,c,h1,h2,_⟩:=hb
    rw [hr] at h1;injection h1 with h1;subst h1;exact ⟨_,h2⟩
 obtain ⟨o,h⟩:=key
 exact ⟨(Array.getElem?_eq_some_iff.1 h).1,o,h⟩
theorem Qm6.ext {E E':Env} (h:Ext E E') {b:Nat} {x:Blk} (hr:E'.ρ b=E.ρ b) (hw:∀ g,E.ρ b=some g→E'.w.heap[g]?=E.w.heap[g]?) (hb:Qm6 E b x):Qm6 E' b x:=by
 cases x with
 |arr t l =>
   rcases hb with ⟨h1,h2⟩ |⟨g,cs,el,us,spare,h1,h2,h3,h4⟩
   ·exact .inl ⟨hr.trans h1,h2⟩
   ·exact .inr ⟨g,cs,el,us,spare,hr.trans h1,(hw g h1).trans h2,h3,h4.mono fun _ _ hx=>hx.mono h.S⟩
 |var is =>
   obtain ⟨g,cs,el,h1,h2,h3⟩:=hb
   exact ⟨g,cs,el,hr.trans h1,(hw g h1).trans h2,h3.ext h⟩
 |mp ka kt vt l =>
   obtain ⟨g,es,c,h1,h2,h3⟩:=hb
   exact ⟨g,es,c,hr.trans h1,(hw g h1).trans h2,h3⟩
theorem QeN {E:Env} (hH:Qt E) (us:List Nat):Qt (QM E us):=by
 have hx':∀ b x,(QM E us).H b=some x→b ∉ us∧E.H b=some x:=by
  intro b x hx
  by_cases hb:b ∈ us
  ·simp [QM,hb] at hx
  ·exact ⟨hb,by simpa [QM,hb] using hx⟩
 refine ⟨fun b x hx=>?_,fun b b' x x' g hx hx'' hr hr'=>?_,fun g hg=>?_⟩
 ·obtain ⟨hn,hx⟩:=hx' b x hx
  obtain ⟨h1,h2,h3⟩:=hH.blk b x hx
  refine ⟨h1,h2.ext (Q8 us) rfl (fun _ _=>rfl),fun g hg hs=>?_⟩
  rcases hs with hs |⟨u,y,hu,hy,hr⟩
  ·exact h3 g hg hs
  ·exact hn (hH.inj b u x y g hx hy hg hr ▸ hu)
 ·exact hH.inj b b' x x' g (hx' b x hx).2 (hx' b' x' hx'').2 hr hr'
 ·rcases hg with hg |⟨u,y,hu,hy,hr⟩
  ·exact hH.st g hg
  ·exact (QaG hH hy hr).1
theorem QeO {E:Env} (us:List Nat) {F:QuD} (h:Qcd F E):Qcd F (QM E us):=by
 refine ⟨h.os,h.tape,h.output,h.size,h.old,fun b x g hx hr=>?_,fun g hg=>?_⟩
 ·by_cases hb:b ∈ us
  ·simp [QM,hb] at hx
  ·exact h.own b x g (by simpa [QM,hb] using hx) hr
 ·rcases hg with hg |⟨u,y,hu,hy,hr⟩
  ·exact h.S g hg
  ·exact .inr (h.own u y g hy hr)
def Qbx (E:Env) (nm:Nat) (blk:Blk) (w':World):Env :=
 { w:=w',ρ:=fun b=>if b=nm then some E.w.heap.size else E.ρ b,S:=E.S,H:=fun b=>if b=nm then some blk else E.H b,U:=fun b=>E.U b∨b=nm }
theorem QbN {w w':World} {o:Obj} (hw:w'.heap=w.heap.push o) {g:Nat} (h:g < w.heap.size):w'.heap[g]?=w.heap[g]?:=by
 rw [hw,Array.getElem?_push,if_neg (by omega)]
theorem Qgh {w w':World} {o:Obj} (hw:w'.heap=w.heap.push o):w'.heap[w.heap.size]?=some o:=by
 rw [hw,Array.getElem?_push,if_pos rfl]
theorem QiL {E:Env} (hH:Qt E) {nm:Nat} (hnm:¬ E.U nm) {blk:Blk} {w':World} {o:Obj} (hw:w'.heap=E.w.heap.push o):Ext E (Qbx E nm blk w'):=by
 refine ⟨fun g hg=>⟨hg,QbN hw (hH.st g hg)⟩,fun b hb=>.inl hb,fun b x' hb hx=>?_⟩
 have hne:b≠nm:=fun e=>hnm (e ▸ hb)
 simp only [Qbx,hne,if_false] at hx
 refine ⟨x',hx,by simp [Qbx,hne],rfl,fun g cs el hr hc=>⟨cs,?_,rfl⟩⟩
 rw [show (Qbx E nm blk w').w=w' from rfl,QbN hw (Array.getElem?_eq_some_iff.1 hc).1]
 exact hc
def Holds (E:Env):Blk→List Value→Prop
 |.arr t l,vs=>∃ us spare,vs=us++spare∧QB (CR E.w E.S t) l us
 |.var is,vs=>IR E is vs
 |.mp _ _ _ _,_=>False
theorem Qy6 {E:Env} (hH:Qt E) {nm:Nat} (hnm:¬ E.U nm) {blk:Blk} {w':World} {cs:Array Value} {el:TypeId} (hw:w'.heap=E.w.heap.push (.cells cs el)) (hb:Holds E blk cs.toList):Qt (Qbx E nm blk w'):=by
 have hext:=QiL hH hnm (blk:=blk) hw
 refine ⟨fun b x hx=>?_,fun b b' x x' g hx hx' hr hr'=>?_,fun g hg=>?_⟩
 ·by_cases h:b=nm
  ·subst h
   simp only [Qbx,if_true,Option.some.injEq] at hx
   subst hx
   refine ⟨.inr rfl,?_,fun g hg hs=>?_⟩
   ·cases blk with
    |arr t l =>
      obtain ⟨us,spare,h1,h2⟩:=hb
      exact .inr ⟨_,cs,el,us,spare,by simp [Qbx],Qgh hw,h1,h2.mono fun _ _ hx=>hx.mono hext.S⟩
    |var is=>exact ⟨_,cs,el,by simp [Qbx],Qgh hw,hb.ext hext⟩
    |mp ka kt vt l=>exact hb.elim
   ·simp only [Qbx,if_true,Option.some.injEq] at hg
    have:=hH.st g hs
    omega
  ·simp only [Qbx,h,if_false] at hx
   obtain ⟨h1,h2,h3⟩:=hH.blk b x hx
   refine ⟨.inl h1,h2.ext hext (by simp [Qbx,h]) (fun g hg=>QbN hw (QaG hH hx hg).1),fun g hg=>h3 g (by simpa [Qbx,h] using hg)⟩
 ·by_cases h:b=nm<;>by_cases h':b'=nm
  ·rw [h,h']
  ·simp only [Qbx,h,h',if_true,if_false,Option.some.injEq] at hx hx' hr hr'
   have:=(QaG hH hx' hr').1
   omega
  ·simp only [Qbx,h,h',if_true,if_false,Option.some.injEq] at hx hx' hr hr'
   have:=(QaG hH hx hr).1
   omega
  ·simp only [Qbx,h,h',if_false] at hx hx' hr hr'
   exact hH.inj b b' x x' g hx hx' hr hr'
 ·rw [show (Qbx E nm blk w').w=w' from rfl,hw]
  have:=hH.st g hg
  simp
  omega
theorem QqS {E:Env} (hH:Qt E) {nm:Nat} {blk:Blk} {w':World} {o:Obj} (hw:w'.heap=E.w.heap.push o) (h1:w'.os=E.w.os) (h2:w'.tape=E.w.tape) (h3:w'.output=E.w.output) {F:QuD} (h:Qcd F E):Qcd F (Qbx E nm blk w'):=by
 refine ⟨h1.trans h.os,h2.trans h.tape,h3.trans h.output,?_,fun g hg ho=>?_,fun b x g hx hr=>?_,h.S⟩
 ·rw [show (Qbx E nm blk w').w=w' from rfl,hw]
  have:=h.size
  simp
  omega
 ·rw [show (Qbx E nm blk w').w=w' from rfl,QbN hw (by have:=h.size;omega)]
  exact h.old g hg ho
 ·by_cases hb:b=nm
  ·subst hb
   simp only [Qbx,if_true,Option.some.injEq] at hr
   have:=h.size
   exact .inl (by omega)
  ·simp only [Qbx,hb,if_false] at hx hr
   exact h.own b x g hx hr
theorem QaI.newK {E:Env} {r:Res} {nm:Nat} {us:List Nat} {blk:Blk} {w':World} {cs:Array Value} {el:TypeId} (hH:Qt E) (hr1:r.add=[blk]) (hr2:r.set=us.map fun u=>(u,none)) (hnm:¬ E.U nm)
 (hw:w'.heap=E.w.heap.push (.cells cs el)) (h1:w'.os=E.w.os) (h2:w'.tape=E.w.tape) (h3:w'.output=E.w.output) (hb:Holds (QM E us) blk cs.toList):QaI E r nm (Qbx (QM E us) nm blk w'):=by
 have hk:=QeN hH us
 refine ⟨(Q8 us).trans (QiL hk hnm hw),Qy6 hk hnm hw hb,fun b=>?_,fun b=>?_,fun F hF=>QqS hk hw h1 h2 h3 (QeO us hF)⟩
 ·rw [hr1,hr2]
  simp only [addF,Qbx,QM,QeM]
 ·rw [hr1]
  simp only [Qbx,QM,List.length_singleton]
  constructor
  ·rintro (h |h)
   ·exact .inl h
   ·exact .inr (by omega)
  ·rintro (h |h)
   ·exact .inl h
   ·exact .inr (by omega)
def QdR (E:Env) (b:Nat) (blk:Blk) (w':World):Env:={ E with w:=w',H:=fun x=>if x=b then some blk else E.H x }
structure Qfl (E:Env) (g:Nat) (cs cs':Array Value) (el:TypeId) (w':World):Prop where
 was:E.w.heap[g]?=some (.cells cs el (0,0))
 is:w'.heap[g]?=some (.cells cs' el (0,0))
 len:cs'.size=cs.size
 oth:∀ i,i≠g→w'.heap[i]?=E.w.heap[i]?
 size:w'.heap.size=E.w.heap.size
 os:w'.os=E.w.os
 tape:w'.tape=E.w.tape
 output:w'.output=E.w.output
theorem QdS {E:Env} (hH:Qt E) {b g:Nat} {x blk:Blk} {cs cs':Array Value} {el:TypeId} {w':World} (hx:E.H b=some x) (hr:E.ρ b=some g) (hsh:shape blk=shape x) (hw:Qfl E g cs cs' el w'):Ext E (QdR E b blk w'):=by
 have hns:∀ i,E.S i→i≠g:=fun i hi e=>(hH.blk b x hx).2.2 g hr (e ▸ hi)
 refine ⟨fun i hi=>⟨hi,hw.oth i (hns i hi)⟩,fun _ h=>h,fun c y hc hy=>?_⟩
 by_cases h:c=b
 ·subst h
  simp only [QdR,if_true,Option.some.injEq] at hy
  subst hy
  refine ⟨x,hx,rfl,hsh,fun g' cs0 el0 hr' hc0=>?_⟩
  rw [hr] at hr';injection hr' with hr';subst hr'
  rw [hw.was] at hc0
  injection hc0 with hc0
  injection hc0 with e1 e2
  subst e1 e2
  exact ⟨cs',hw.is,hw.len⟩
 ·simp only [QdR,h,if_false] at hy
  refine ⟨y,hy,rfl,rfl,fun g' cs0 el0 hr' hc0=>⟨cs0,?_,rfl⟩⟩
  have:g'≠g:=fun e=>h (hH.inj c b y x g hy hx (e ▸ hr') hr)
  exact (hw.oth g' this).trans hc0
theorem QlT {E:Env} (hH:Qt E) {b g:Nat} {x blk:Blk} {cs cs':Array Value} {el:TypeId} {w':World} (hx:E.H b=some x) (hr:E.ρ b=some g) (hsh:shape blk=shape x) (hw:Qfl E g cs cs' el w') (hb:Holds E blk cs'.toList):Qt (QdR E b blk w'):=by
 have hext:=QdS hH hx hr hsh hw
 have hlive:∀ c y,(QdR E b blk w').H c=some y→∃ y0,E.H c=some y0:=by
  intro c y hy
  by_cases h:c=b
  ·exact ⟨x,h ▸ hx⟩
  ·exact ⟨y,by simpa [QdR,h] using hy⟩
 refine ⟨fun c y hy=>?_,fun c c' y y' i hy hy' hr1 hr2=>?_,fun i hi=>?_⟩
 ·by_cases h:c=b
  ·subst h
   simp only [QdR,if_true,Option.some.injEq] at hy
   subst hy
   obtain ⟨h1,h2,h3⟩:=hH.blk c x hx
   refine ⟨h1,?_,h3⟩
   cases blk with
   |arr t l =>
     obtain ⟨us,spare,e1,e2⟩:=hb
     exact .inr ⟨g,cs',el,us,spare,hr,hw.is,e1,e2.mono fun _ _ hx=>hx.mono hext.S⟩
   |var is=>exact ⟨g,cs',el,hr,hw.is,hb.ext hext⟩
   |mp ka kt vt l=>exact hb.elim
  ·simp only [QdR,h,if_false] at hy
   obtain ⟨h1,h2,h3⟩:=hH.blk c y hy
   exact ⟨h1,h2.ext hext rfl (fun g' hg'=>hw.oth g' fun e=>h (hH.inj c b y x g hy hx (e ▸ hg') hr)),h3⟩
 ·obtain ⟨y0,h0⟩:=hlive c y hy
  obtain ⟨y1,h1⟩:=hlive c' y' hy'
  exact hH.inj c c' y0 y1 i h0 h1 hr1 hr2
 ·rw [show (QdR E b blk w').w=w' from rfl,hw.size]
  exact hH.st i hi
theorem QlU {E:Env} (hH:Qt E) {b g:Nat} {x blk:Blk} {cs cs':Array Value} {el:TypeId} {w':World} (hx:E.H b=some x) (hr:E.ρ b=some g) (hw:Qfl E g cs cs' el w') {F:QuD} (h:Qcd F E):Qcd F (QdR E b blk w'):=by
 refine ⟨hw.os.trans h.os,hw.tape.trans h.tape,hw.output.trans h.output,?_,fun i hi ho=>?_,fun c y i hy hr'=>?_,h.S⟩
 ·rw [show (QdR E b blk w').w=w' from rfl,hw.size];exact h.size
 ·have:i≠g:=by
   rintro rfl
   rcases h.own b x i hx hr with e |e
   ·omega
   ·exact ho e
  exact (hw.oth i this).trans (h.old i hi ho)
 ·by_cases hc:c=b
  ·subst hc;exact h.own c x i hx hr'
  ·exact h.own c y i (by simpa [QdR,hc] using hy) hr'
theorem QaI.setK {E:Env} {r:Res} {nm:Nat} {us:List Nat} {b g:Nat} {x blk:Blk} {w':World} {cs cs':Array Value} {el:TypeId} (hH:Qt E) (hr1:r.add=[]) (hr2:r.set=(us.map fun u=>(u,none))++[(b,some blk)])
 (hbu:b ∉ us) (hx:E.H b=some x) (hr:E.ρ b=some g) (hsh:shape blk=shape x) (hw:Qfl E g cs cs' el w') (hb:Holds (QM E us) blk cs'.toList):QaI E r nm (QdR (QM E us) b blk w'):=by
 have hk:=QeN hH us
 have hx':(QM E us).H b=some x:=by simp [QM,hbu,hx]
 have hw':Qfl (QM E us) g cs cs' el w':=⟨hw.was,hw.is,hw.len,hw.oth,hw.size,hw.os,hw.tape,hw.output⟩
 refine ⟨(Q8 us).trans (QdS hk hx' hr hsh hw'),QlT hk hx' hr hsh hw' hb,fun c=>?_,fun c=>?_,fun F hF=>QlU hk hx' hr hw' (QeO us hF)⟩
 ·rw [hr1,hr2,QlS]
  simp only [addF,QdR,QM,Qfs,QeM]
 ·rw [hr1]
  simp [QdR,QM]
  omega
def QgE (E:Env) (b nm:Nat) (blk:Blk) (w':World):Env :=
 { w:=w',ρ:=fun x=>if x=nm then E.ρ b else E.ρ x,S:=E.S,H:=fun x=>if x=nm then some blk else if x=b then none else E.H x,U:=fun x=>E.U x∨x=nm }
theorem QaI.app {E:Env} {r:Res} {nm b g:Nat} {x blk:Blk} {w':World} {cs cs':Array Value} {el:TypeId} (hH:Qt E) (hr1:r.add=[blk]) (hr2:r.set=[(b,none)]) (hnm:¬ E.U nm)
 (hx:E.H b=some x) (hr:E.ρ b=some g) (hw:Qfl E g cs cs' el w') (hb:∃ t l us spare,blk=.arr t l∧cs'.toList=us++spare∧QB (CR E.w E.S t) l us):QaI E r nm (QgE E b nm blk w'):=by
 have hbn:b≠nm:=fun e=>hnm (e ▸ (hH.blk b x hx).1)
 have hns:∀ i,E.S i→i≠g:=fun i hi e=>(hH.blk b x hx).2.2 g hr (e ▸ hi)
 have hS:∀ i,E.S i→E.S i∧w'.heap[i]?=E.w.heap[i]?:=fun i hi=>⟨hi,hw.oth i (hns i hi)⟩
 have hold:∀ c y,c≠nm→(QgE E b nm blk w').H c=some y→c≠b∧E.H c=some y:=by
  intro c y hc hy
  by_cases h:c=b
  ·subst h;simp [QgE,hc] at hy
  ·exact ⟨h,by simpa [QgE,h,hc] using hy⟩
 have hext:Ext E (QgE E b nm blk w'):=by
  refine ⟨hS,fun _ h=>.inl h,fun c y hc hy=>?_⟩
  have hcn:c≠nm:=fun e=>hnm (e ▸ hc)
  obtain ⟨hcb,hy⟩:=hold c y hcn hy
  refine ⟨y,hy,by simp [QgE,hcn],rfl,fun g' cs0 el0 hr' hc0=>⟨cs0,?_,rfl⟩⟩
  exact (hw.oth g' fun e=>hcb (hH.inj c b y x g hy hx (e ▸ hr') hr)).trans hc0
 refine ⟨hext,⟨fun c y hy=>?_,fun c c' y y' i hy hy' h1 h2=>?_,fun i hi=>?_⟩,fun c=>?_,fun c=>?_,fun F h=>⟨hw.os.trans h.os,hw.tape.trans h.tape,hw.output.trans h.output,?_,fun i hi ho=>?_,fun c y i hy hr'=>?_,h.S⟩⟩
 ·by_cases hc:c=nm
  ·subst hc
   simp only [QgE,if_true,Option.some.injEq] at hy
   subst hy
   obtain ⟨t,l,us,spare,rfl,e1,e2⟩:=hb
   refine ⟨.inr rfl,.inr ⟨g,cs',el,us,spare,by simp [QgE,hr],hw.is,e1,e2.mono fun _ _ hx=>hx.mono hS⟩,fun i hi=>?_⟩
   have:E.ρ b=some i:=by simpa [QgE] using hi
   exact (hH.blk b x hx).2.2 i this
  ·obtain ⟨hcb,hy⟩:=hold c y hc hy
   obtain ⟨h1,h2,h3⟩:=hH.blk c y hy
   exact ⟨.inl h1,h2.ext hext (by simp [QgE,hc]) (fun g' hg'=>hw.oth g' fun e=>hcb (hH.inj c b y x g hy hx (e ▸ hg') hr)),fun i hi=>h3 i (by simpa [QgE,hc] using hi)⟩
 ·by_cases hc:c=nm<;>by_cases hc':c'=nm
  ·rw [hc,hc']
  ·obtain ⟨hcb,hy'⟩:=hold c' y' hc' hy'
   simp only [QgE,hc,hc',if_true,if_false] at h1 h2
   exact absurd (hH.inj c' b y' x i hy' hx h2 h1) hcb
  ·obtain ⟨hcb,hy⟩:=hold c y hc hy
   simp only [QgE,hc,hc',if_true,if_false] at h1 h2
   exact absurd (hH.inj c b y x i hy hx h1 h2) hcb
  ·obtain ⟨_,hy⟩:=hold c y hc hy
   obtain ⟨_,hy'⟩:=hold c' y' hc' hy'
   simp only [QgE,hc,hc',if_false] at h1 h2
   exact hH.inj c c' y y' i hy hy' h1 h2
 ·rw [show (QgE E b nm blk w').w=w' from rfl,hw.size]
  exact hH.st i hi
 ·rw [hr1,hr2]
  simp only [addF,Qfs,QgE]
 ·rw [hr1]
  simp only [QgE,List.length_singleton]
  constructor
  ·rintro (h |h)
   ·exact .inl h
   ·exact .inr (by omega)
  ·rintro (h |h)
   ·exact .inl h
   ·exact .inr (by omega)
 ·rw [show (QgE E b nm blk w').w=w' from rfl,hw.size];exact h.size
 ·have:i≠g:=by
   rintro rfl
   rcases h.own b x i hx hr with e |e
   ·omega
   ·exact ho e
  exact (hw.oth i this).trans (h.old i hi ho)
 ·by_cases hc:c=nm
  ·subst hc
   exact h.own b x i hx (by simpa [QgE] using hr')
  ·obtain ⟨_,hy⟩:=hold c y hc hy
   exact h.own c y i hy (by simpa [QgE,hc] using hr')
theorem Qpb (c:QD) (cs:List QD):sizes (c :: cs)=c.size+sizes cs:=rfl
theorem QcF {E:Env}:∀ {cs:List QD} {vs:List Value} {j:Nat} {c:QD},IR E cs vs→QaJ cs j=some c→∃ a r b,vs=a++r++b∧a.length=j∧QaC E c r
 | [],_,_,_,_,h=>by simp [QaJ] at h
 |x :: xs,_,j,c,⟨r,rest,e,h1,h2⟩,h=>by
   subst e
   unfold QaJ at h
   cases h0:Nat.beq j 0 with
   |true =>
     rw [h0] at h;injection h with h;subst h
     exact ⟨[],r,rest,rfl,(Nat.eq_of_beq_eq_true h0).symm,h1⟩
   |false =>
     rw [h0] at h
     simp only at h
     cases h3:Nat.ble x.size j with
     |true =>
       rw [h3] at h
       have hle:=Nat.le_of_ble_eq_true h3
       obtain ⟨a,r',b,rfl,ha,hc⟩:=QcF h2 h
       exact ⟨r++a,r',b,by simp,by simp [h1.len,ha];omega,hc⟩
     |false=>rw [h3] at h;cases h
theorem QeP {E:Env}:∀ {cs:List QD} {vs:List Value} {n:Nat} {r:List QD},IR E cs vs→QcD cs n=some r→∃ a b,vs=a++b∧a.length=n∧IR E r a
 | [],vs,n,r,h1,h=>by
   unfold QcD at h
   cases h0:Nat.beq n 0 with
   |true=>rw [h0] at h;injection h with h;subst h;exact ⟨[],vs,rfl,(Nat.eq_of_beq_eq_true h0).symm,rfl⟩
   |false=>rw [h0] at h;cases h
 |x :: xs,_,n,r,⟨v,rest,e,h1,h2⟩,h=>by
   subst e
   unfold QcD at h
   cases h0:Nat.beq n 0 with
   |true=>rw [h0] at h;injection h with h;subst h;exact ⟨[],_,rfl,(Nat.eq_of_beq_eq_true h0).symm,rfl⟩
   |false =>
     rw [h0] at h
     simp only at h
     cases h3:Nat.ble x.size n with
     |true =>
       rw [h3] at h
       have hle:=Nat.le_of_ble_eq_true h3
       cases h4:QcD xs (n-x.size) with
       |none=>rw [h4] at h;cases h
       |some r' =>
         rw [h4] at h
         injection h with h
         subst h
         obtain ⟨a,b,rfl,ha,hr⟩:=QeP h2 h4
         exact ⟨v++a,b,by simp,by simp [h1.len,ha];omega,v,a,rfl,h1,hr⟩
     |false=>rw [h3] at h;cases h
theorem Qc2 {E:Env}:∀ {cs:List QD} {vs:List Value} {j n:Nat} {r:List QD},IR E cs vs→Qar cs j n=some r→∃ a m b,vs=a++m++b∧a.length=j∧m.length=n∧IR E r m
 |cs,vs,j,n,r,h1,h=>by
   unfold Qar at h
   cases h0:Nat.beq j 0 with
   |true =>
     rw [h0] at h
     obtain ⟨a,b,rfl,ha,hr⟩:=QeP h1 h
     exact ⟨[],a,b,rfl,(Nat.eq_of_beq_eq_true h0).symm,ha,hr⟩
   |false =>
     rw [h0] at h
     simp only at h
     cases cs with
     |nil=>cases h
     |cons x xs =>
       simp only at h
       obtain ⟨v,rest,rfl,h2,h3⟩:=h1
       cases h4:Nat.ble x.size j with
       |true =>
         rw [h4] at h
         have hle:=Nat.le_of_ble_eq_true h4
         obtain ⟨a,m,b,rfl,ha,hm,hr⟩:=Qc2 h3 h
         exact ⟨v++a,m,b,by simp,by simp [h2.len,ha];omega,hm,hr⟩
       |false=>rw [h4] at h;cases h
theorem Qc3 {E:Env} {x:QD} {xv:List Value} (hx:QaC E x xv):∀ {cs cs':List QD} {vs:List Value} {j:Nat},IR E cs vs→Qcx cs j x=some cs' →
 ∃ a r b,vs=a++r++b∧a.length=j∧r.length=x.size∧IR E cs' (a++xv++b)∧cs'.map QD.size=cs.map QD.size
 | [],_,_,_,_,h=>by simp [Qcx] at h
 |c :: cs,cs',_,j,⟨v,rest,e,h1,h2⟩,h=>by
   subst e
   unfold Qcx at h
   cases h0:Nat.beq j 0 with
   |true =>
     rw [h0] at h
     simp only at h
     cases h3:Nat.beq c.size x.size with
     |true =>
       rw [h3] at h
       injection h with h
       subst h
       have:=Nat.eq_of_beq_eq_true h3
       exact ⟨[],v,rest,rfl,(Nat.eq_of_beq_eq_true h0).symm,by rw [h1.len,this],⟨xv,rest,by simp,hx,h2⟩,by simp [this]⟩
     |false=>rw [h3] at h;cases h
   |false =>
     rw [h0] at h
     simp only at h
     cases h3:Nat.ble c.size j with
     |true =>
       rw [h3] at h
       have hle:=Nat.le_of_ble_eq_true h3
       cases h4:Qcx cs (j-c.size) x with
       |none=>rw [h4] at h;cases h
       |some r' =>
         rw [h4] at h
         injection h with h
         subst h
         obtain ⟨a,r,b,rfl,ha,hr,hi,hs⟩:=Qc3 hx h2 h4
         exact ⟨v++a,r,b,by simp,by simp [h1.len,ha];omega,hr,⟨v,a++xv++b,by simp,h1,hi⟩,by simp [hs]⟩
     |false=>rw [h3] at h;cases h
theorem QlV {a a' r r' b b':List Value} (h:a++r++b=a'++r'++b') (h1:a.length=a'.length) (h2:r.length=r'.length):a=a'∧r=r'∧b=b':=by
 rw [List.append_assoc,List.append_assoc] at h
 obtain ⟨e1,e2⟩:=List.append_inj h h1
 obtain ⟨e3,e4⟩:=List.append_inj e2 h2
 exact ⟨e1,e3,e4⟩
theorem Qcn {E:Env}:∀ {xs:List QD} {xvs:List Value} {cs cs':List QD} {vs:List Value} {j:Nat},IR E xs xvs→IR E cs vs→Qa5 cs j xs=some cs'→j≤vs.length →
 ∃ a r b,vs=a++r++b∧a.length=j∧r.length=xvs.length∧IR E cs' (a++xvs++b)∧cs'.map QD.size=cs.map QD.size
 | [],_,cs,cs',vs,j,hx,h1,h,hj=>by
   simp only [IR] at hx
   subst hx
   simp only [Qa5,Option.some.injEq] at h
   subst h
   exact ⟨vs.take j,[],vs.drop j,by simp,by simp [hj],rfl,by simpa using h1,rfl⟩
 |x :: xs,_,cs,cs',vs,j,⟨xv,xvs,e,hx,hxs⟩,h1,h,hj=>by
   subst e
   unfold Qa5 at h
   cases h2:Qcx cs j x with
   |none=>rw [h2] at h;cases h
   |some cs1 =>
     rw [h2] at h
     simp only at h
     obtain ⟨a,r,b,rfl,ha,hr,hi,hs⟩:=Qc3 hx h1 h2
     obtain ⟨a',r',b',e,ha',hr',hi',hs'⟩:=Qcn hxs hi h (by simp [ha,hx.len])
     have hxl:=hx.len
     have hlen:(a++xv).length=a'.length:=by simp [ha,ha',hxl]
     obtain ⟨e0,e1⟩:=List.append_inj (show (a++xv)++b=a'++(r'++b') by rw [e,List.append_assoc]) hlen
     subst e0 e1
     refine ⟨a,r++r',b',by simp,ha,by simp [hr,hxl,hr'],by simpa using hi',hs'.trans hs⟩
theorem Qen:∀ (cs:List QD) (n:Nat),cs.foldl (fun n c=>n+c.size) n=n+sizes cs
 | [],n=>rfl
 |c :: cs,n=>by rw [List.foldl_cons,Qen cs,Qpb];omega
def QqT:TypeDesc→Bool
 |.struct _ |.array _ _=>true
 |_=>false
def QY (P:Program):TD→TypeId→Prop
 |.int k,t=>P.underlying t=some (.int k)
 |.bool,t=>P.underlying t=some .bool
 |.str,t=>P.underlying t=some .string
 |.slice e,t=>P.underlying t=some (.slice e)
 |.struct fs,t=>∃ F,P.underlying t=some (.struct F)∧(∀ (i:Nat) u o,fs[i]?=some (u,o)→∃ f:Field,F[i]?=some f∧f.type=u∧f.offset=o)∧(∀ f ∈ F,∃ i,P.info? f.type=some i)
 |.array n e,t=>P.underlying t=some (.array n e)
 |.ptr e,t=>P.underlying t=some (.pointer e)
 |.iface,t=>∃ ms,P.underlying t=some (.interface ms)
 |.map k e,t=>P.underlying t=some (.map k e)
 |.other,t=>∃ d,P.underlying t=some d∧QqT d=false
def Ty.by_:Ty→Nat
 |.int k=>k.bits/8
 |.ints k n=>n*(k.bits/8)
 |.bool=>1
 |.str=>16
 |.sl _=>24
 |.pair a b=>a.by_+b.by_
def Qd9 (P:Program) (g:Ty→TypeId→Bool):Ty→List Field→Nat→Bool
 |_,[],_=>false
 |u,[f],off=>g u f.type&&Nat.beq f.offset off&&Nat.beq (P.cellsOf f.type) u.size
 |u,f :: fs,off=>match u with
   |.pair a b=>g a f.type&&Nat.beq f.offset off&&Nat.beq (P.cellsOf f.type) a.size&&Qd9 P g b fs (off+a.size)
   |_=>false
def QaX (P:Program):Nat→Ty→TypeId→Bool
 |0,_,_=>false
 |n+1,u,t=>match P.underlying t,u with
   |some .bool,.bool=>true
   |some (.int k),.int k'=>decide (k'=k)
   |some .string,.str=>true
   |some (.slice e),.sl v=>QaX P n v e&&Nat.beq (P.cellsOf e) v.size&&Nat.ble 1 v.size&&Nat.ble v.by_ (P.bytesOf e)
   |some (.struct F),u=>Qd9 P (QaX P n) u F.toList 0&&Nat.beq (P.cellsOf t) u.size
   |some (.array m e),.ints k m'=>match P.underlying e with
     |some (.int k')=>decide (k'=k)&&Nat.beq m' m&&Nat.beq (P.cellsOf e) 1&&Nat.beq (P.cellsOf t) m
     |_=>false
   |_,_=>false
def Qac (P:Program) (t:TypeId):Bool:=match P.underlying t with |some (.struct _)=>true |some (.array _ _)=>true |_=>false
def QuP (P:Program) (u:Option Ty) (t:TypeId):Bool:=match u with
 |some u=>Qac P t&&P.keyTypeAt 30 t&&QaX P 30 u t&&!P.eqGuardType P.depth t
 |none=>false
structure Qo6 (P:Program) (t:TypeId) (ti:TI):Prop where
 und:QY P ti.desc t
 inf:∃ i z,P.info? t=some i∧i.size=ti.size∧i.bytes=ti.bytes∧i.zero=some z∧(∀ E:Env,IR E ti.zero z.cells.toList)∧z.cells.size=ti.size ∧
  (∀ u,ti.ety=some u→u.size=ti.size∧∀ w S,CR w S u (dflt u) z.cells.toList)
 cmp:ti.cmp=true→QuP P ti.ety t=true
 nag:ti.isAgg=false→∀ i z,P.info? t=some i→i.zero=some z→z.cells.toList=[z]
structure Qae (P:Program) (T:Tab):Prop where
 ty:∀ t ti,T.ty t=some ti→Qo6 P t ti
 meth:∀ t name f,T.meth t name=some f→∀ v w,(method (P.types.size+Made.depth) t v name).run P w=.ok (f,v) w
section
variable {P:Program} {T:Tab}
theorem Qo6.agg {t:TypeId} {ti:TI} (h:Qo6 P t ti) (w:World):(isAgg t).run P w=.ok ti.isAgg w:=by
 have key:∃ d,P.underlying t=some d∧QqT d=ti.isAgg:=by
  have:=h.und
  unfold TI.isAgg
  cases hd:ti.desc<;>rw [hd] at this<;>simp only [QY] at this
  case struct=>obtain ⟨F,h1,_⟩:=this;exact ⟨_,h1,rfl⟩
  case iface=>obtain ⟨F,h1⟩:=this;exact ⟨_,h1,rfl⟩
  case other=>exact this
  all_goals exact ⟨_,this,rfl⟩
 obtain ⟨d,h1,h2⟩:=key
 rw [← h2]
 unfold isAgg
 simp only [Sem.run_bind,run_underlying h1,Result.andThen_ok]
 cases d<;>rfl
theorem Qo6.sizeOf {t:TypeId} {ti:TI} (h:Qo6 P t ti) (w:World):(sizeOf t).run P w=.ok ti.size w:=by
 obtain ⟨i,z,h1,h2,_⟩:=h.inf
 simp [Go.sizeOf,typeInfo,h1,h2]
theorem Qo6.zero {t:TypeId} {ti:TI} (h:Qo6 P t ti):∃ z,(∀ w,(zeroValue t).run P w=.ok z w)∧(∀ E:Env,IR E ti.zero z.cells.toList)∧z.cells.size=ti.size ∧
 (∀ u,ti.ety=some u→u.size=ti.size∧∀ w S,CR w S u (dflt u) z.cells.toList):=by
 obtain ⟨i,z,h1,h2,h3,h4,h5,h6,h7⟩:=h.inf
 exact ⟨z,fun w=>by simp [zeroValue,typeInfo,h1,h4],h5,h6,h7⟩
theorem Qa6 {o:Oper} {a:Act} {w w':World} {v:Value} {next:Act→World→Prop} {Q:Exit→Act→World→Prop} (h:(execOp a.eval o).run P w=.ok (.value v) w') (hn:next (a.put o.dst v) w'):o.wp P a w next Q:=by
 unfold Oper.wp;rw [h];exact hn
theorem QlW {o:Oper} {a:Act} {w w':World} {next:Act→World→Prop} {Q:Exit→Act→World→Prop} (h:(execOp a.eval o).run P w=.ok .skip w') (hn:next (a.put o.dst undef) w'):o.wp P a w next Q:=by
 unfold Oper.wp;rw [h];exact hn
theorem Qm8 {E:Env} {look:Nat→Option Blk} (hT:Qae P T) (hH:Qt E) (hl:∀ b x,look b=some x→E.H b=some x) {t:TypeId} {a:AV} {va:Value} {r:Res} (ha:AVR E a va)
 (h:QuK T look t a=some r) (hp:∀ p,r.pre=some p→p):∃ v,(Instr.loadAt t va).run P E.w=.ok v E.w∧AVR E r.val v∧r.add=[]∧r.set=[]:=by
 have agg:∀ {ti:TI} {cs r':List QD} {us:List Value} {ad:Addr} {j:Nat},Qo6 P t ti→ti.isAgg=true→IR E cs us→Qar cs j ti.size=some r'→(∀ k u,us[k]?=some u→E.w.cell? (ad.add k)=some u) →
  ∃ v,(Instr.loadAt t (.pointer (some (ad.add j)))).run P E.w=.ok v E.w∧AVR E (.agg r') v:=by
  intro ti cs r' us ad j hti hag hr hpart hc
  obtain ⟨x,m,y,rfl,hx,hm,hmr⟩:=Qc2 hr hpart
  refine ⟨.agg m.toArray,?_,m.toArray,rfl,by simpa using hmr⟩
  have hl:(loadCells (ad.add j) ti.size).run P E.w=.ok m.toArray E.w:=by
   rw [← hm]
   refine run_loadCells_list _ _ m fun k u hu=>?_
   have:=hc (j+k) u (by rw [List.append_assoc,List.getElem?_append_right (by omega),hx,List.getElem?_append_left (by simpa using (List.getElem?_eq_some_iff.1 hu).1)];simpa using hu)
   rw [← this]
   congr 1
   unfold Addr.add
   by_cases h1:j=0<;>by_cases h2:k=0<;>simp [h1,h2,Nat.add_assoc]
  simp [Instr.loadAt,Instr.sureAddr,loadVar,hti.agg,hag,hti.sizeOf,hl]
 have one:∀ {ti:TI} {cs:List QD} {c:QD} {us:List Value} {ad:Addr} {j:Nat},Qo6 P t ti→ti.isAgg=false→IR E cs us→QaJ cs j=some c→c.size=1→(∀ k u,us[k]?=some u→E.w.cell? (ad.add k)=some u) →
  ∃ v,(Instr.loadAt t (.pointer (some (ad.add j)))).run P E.w=.ok v E.w∧AVR E (.cell c) v:=by
  intro ti cs c us ad j hti hag hr hitem hs hc
  obtain ⟨x,m,y,rfl,hx,hmr⟩:=QcF hr hitem
  have hml:=hmr.len
  rw [hs] at hml
  match m,hml with
  | [v],_ =>
    refine ⟨v,?_,hmr⟩
    have:=hc j v (by rw [List.append_assoc,List.getElem?_append_right (by omega),hx];simp)
    simp [Instr.loadAt,Instr.sureAddr,loadVar,hti.agg,hag,this]
 have run1:∀ {c:QD},(∀ k n l,c≠.run k n l)→c.size=1:=by
  intro c hc
  cases c<;>first |rfl |exact absurd rfl (hc _ _ _)
 unfold QuK at h
 cases hti:T.ty t with
 |none=>rw [hti] at h;cases h
 |some ti =>
   rw [hti] at h
   simp only at h
   have hok:=hT.ty t ti hti
   match a,h,ha with
   |.one (.c (.ptr b j)),h,ha =>
     simp only at h
     cases hb:look b with
     |none=>rw [hb] at h;cases h
     |some x =>
       rw [hb] at h
       cases x with
       |arr _ _=>cases h
       |mp _ _ _ _=>cases h
       |var cs =>
         simp only at h
         have hx:=hl _ _ hb
         obtain ⟨_,⟨g',cs',el',h6,h7,h8⟩,_⟩:=hH.blk _ _ hx
         obtain ⟨v,⟨e,_⟩,hu,hh⟩:=ha
         injection e with e
         subst e
         obtain ⟨g,h1,rfl⟩:=hh _ hx
         rw [h1] at h6;injection h6 with h6;subst h6
         have hcell:∀ k u,cs'.toList[k]?=some u→E.w.cell? ((⟨g,0,none⟩:Addr).add k)=some u:=fun k u hu=>by
          rw [Qbd,Nat.zero_add,cell_at h7,← Array.getElem?_toList];exact hu
         have hpt:pt g j=.pointer (some ((⟨g,0,none⟩:Addr).add j)):=by rw [Qbd,Nat.zero_add];rfl
         cases hag:ti.isAgg with
         |true =>
           rw [hag] at h
           simp only at h
           cases hq:Qar cs j ti.size with
           |none=>rw [hq] at h;cases h
           |some r' =>
             rw [hq] at h
             simp only [ok1,Option.some.injEq] at h
             subst h
             obtain ⟨v,hv,hvr⟩:=agg hok hag h8 hq hcell
             exact ⟨v,by rw [hpt];exact hv,hvr,rfl,rfl⟩
         |false =>
           rw [hag] at h
           simp only at h
           split at h
           ·cases h
           ·rename_i c hq hnr
            simp only [ok1,Option.some.injEq] at h
            subst h
            obtain ⟨v,hv,hvr⟩:=one hok hag h8 hnr (run1 fun k n l e=>hq k n l (by rw [← e])) hcell
            exact ⟨v,by rw [hpt];exact hv,hvr,rfl,rfl⟩
           ·cases h
   |.one (.c (.pidx b j i)),h,ha =>
     simp only at h
     cases hb:look b with
     |none=>rw [hb] at h;cases h
     |some x =>
       rw [hb] at h
       cases x with
       |arr _ _=>cases h
       |mp _ _ _ _=>cases h
       |var cs =>
         simp only at h
         have hx:=hl _ _ hb
         obtain ⟨_,⟨g',cs',el',h6,h7,h8⟩,_⟩:=hH.blk _ _ hx
         obtain ⟨v,⟨e,_⟩,hu,hh⟩:=ha
         injection e with e
         subst e
         obtain ⟨g,h1,rfl⟩:=hh _ hx
         rw [h1] at h6;injection h6 with h6;subst h6
         cases hag:ti.isAgg with
         |true=>rw [hag] at h;cases h
         |false =>
           rw [hag] at h
           simp only at h
           split at h
           ·rename_i k n l hq
            simp only [okP,Option.some.injEq] at h
            subst h
            have hi:=hp _ rfl
            obtain ⟨x,m,y,e,hx',hlen,rfl⟩:=QcF h8 hq
            refine ⟨.int k (l.getD i 0),?_,⟨rfl,rfl⟩,rfl,rfl⟩
            have:E.w.cell? ⟨g,j+i,none⟩=some (.int k (l.getD i 0)):=by
             rw [cell_at h7,← Array.getElem?_toList,e,List.append_assoc,List.getElem?_append_right (by omega),hx',show j+i-j=i from by omega,List.getElem?_append_left (by simp;omega)]
             simp [List.getD,List.getElem?_eq_getElem (show i < l.length by omega)]
            simp [Instr.loadAt,Instr.sureAddr,pt,loadVar,hok.agg,hag,this]
           ·cases h
   |.one (.c (.pel b i j)),h,ha =>
     simp only at h
     cases hb:look b with
     |none=>rw [hb] at h;cases h
     |some x =>
       rw [hb] at h
       cases x with
       |var _=>cases h
       |mp _ _ _ _=>cases h
       |arr u l =>
         simp only at h
         have hx:=hl _ _ hb
         obtain ⟨_,hbr,_⟩:=hH.blk _ _ hx
         obtain ⟨v,⟨e,_⟩,hu,hh⟩:=ha
         injection e with e
         subst e
         have main:i < l.length→∃ (us:List Value) (ad:Addr),IR E (cells u (l.getD i (dflt u))) us∧va=.pointer (some (Addr.add ad j))∧∀ k w,us[k]?=some w→E.w.cell? (ad.add k)=some w:=by
          intro hi
          obtain ⟨g,h1,rfl⟩:=hh _ _ hx hi
          rcases hbr with ⟨h6,rfl⟩ |⟨g',cs',el',us,spare,h6,h7,h8,h9⟩
          ·simp at hi
          ·rw [h1] at h6;injection h6 with h6;subst h6
           obtain ⟨p,q,s,rfl,hp1,hq⟩:=h9.get (fun _ _ hx=>hx.len) hi
           have hg:l.getD i (dflt u)=l[i]:=by simp [List.getD,List.getElem?_eq_getElem hi]
           rw [hg]
           refine ⟨q,⟨g,i*u.size,none⟩,hq.items,by rw [Qbd];rfl,fun k w hw=>?_⟩
           rw [Qbd,cell_at h7,← Array.getElem?_toList,h8,List.append_assoc,List.append_assoc,List.getElem?_append_right (by omega),hp1,show i*u.size+k-i*u.size=k from by omega,
            List.getElem?_append_left (by exact (List.getElem?_eq_some_iff.1 hw).1)]
           exact hw
         cases hag:ti.isAgg with
         |true =>
           rw [hag] at h
           simp only at h
           cases hq:Qar (cells u (l.getD i (dflt u))) j ti.size with
           |none=>rw [hq] at h;cases h
           |some r' =>
             rw [hq] at h
             simp only [okP,Option.some.injEq] at h
             subst h
             obtain ⟨us,ad,h1,rfl,h2⟩:=main (hp _ rfl)
             obtain ⟨v,hv,hvr⟩:=agg hok hag h1 hq h2
             exact ⟨v,hv,hvr,rfl,rfl⟩
         |false =>
           rw [hag] at h
           simp only at h
           split at h
           ·cases h
           ·rename_i c hq hnr
            simp only [okP,Option.some.injEq] at h
            subst h
            obtain ⟨us,ad,h1,rfl,h2⟩:=main (hp _ rfl)
            obtain ⟨v,hv,hvr⟩:=one hok hag h1 hnr (run1 fun k n l e=>hq k n l (by rw [← e])) h2
            exact ⟨v,hv,hvr,rfl,rfl⟩
           ·cases h
   |.one (.c (.rptr u l i j)),h,ha =>
     simp only at h
     obtain ⟨hi,ad,us0,e,hs,hlr,hcell⟩:=ha
     injection e with e
     subst e
     have main:∃ us ad',IR E (cells u (l.getD i (dflt u))) us∧ad.add (i*u.size+j)=Addr.add ad' j∧∀ k w,us[k]?=some w→E.w.cell? (ad'.add k)=some w:=by
      obtain ⟨p,q,s,rfl,hp1,hq⟩:=hlr.get (fun _ _ hx=>hx.len) hi
      have hg:l.getD i (dflt u)=l[i]:=by simp [List.getD,List.getElem?_eq_getElem hi]
      rw [hg]
      refine ⟨q,ad.add (i*u.size),hq.items,?_,fun k w hw=>?_⟩
      ·unfold Addr.add
       by_cases h1:i*u.size=0<;>by_cases h2:j=0<;>simp [h1,h2,Nat.add_assoc]
      ·have:=hcell (i*u.size+k) w (by
        rw [List.append_assoc,List.getElem?_append_right (by omega),hp1,show i*u.size+k-i*u.size=k from by omega,List.getElem?_append_left (by exact (List.getElem?_eq_some_iff.1 hw).1)]
        exact hw)
       rw [← this]
       congr 1
       unfold Addr.add
       by_cases h1:i*u.size=0<;>by_cases h2:k=0<;>simp [h1,h2,Nat.add_assoc]
     obtain ⟨us,ad',h1,e,h2⟩:=main
     rw [e]
     cases hag:ti.isAgg with
     |true =>
       rw [hag] at h
       simp only at h
       cases hq:Qar (cells u (l.getD i (dflt u))) j ti.size with
       |none=>rw [hq] at h;cases h
       |some r' =>
         rw [hq] at h
         simp only [ok1,Option.some.injEq] at h
         subst h
         obtain ⟨v,hv,hvr⟩:=agg hok hag h1 hq h2
         exact ⟨v,hv,hvr,rfl,rfl⟩
     |false =>
       rw [hag] at h
       simp only at h
       split at h
       ·cases h
       ·rename_i c hq hnr
        simp only [ok1,Option.some.injEq] at h
        subst h
        obtain ⟨v,hv,hvr⟩:=one hok hag h1 hnr (run1 fun k n l e=>hq k n l (by rw [← e])) h2
        exact ⟨v,hv,hvr,rfl,rfl⟩
       ·cases h
theorem QaO {E:Env} {g:Nat} {cs cs':Array Value} {el:TypeId} (h:E.w.heap[g]?=some (.cells cs el (0,0))) (hs:cs'.size=cs.size):Qfl E g cs cs' el (E.w.setRow g cs') :=
 ⟨h,setRow_heap _ _ _ _ _ _ h,hs,fun i hi=>setRow_other _ _ _ _ hi,by simp,rfl,rfl,rfl⟩
end
end Go.Fw

