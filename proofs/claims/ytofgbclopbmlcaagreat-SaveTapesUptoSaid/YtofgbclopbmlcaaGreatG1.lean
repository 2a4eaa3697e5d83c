/- Part 1 of the proof. Conditions: none. -/
import Derived.Calls
import Derived.Orders
import Derived.Laws.Sem
namespace Go.Fw
set_option linter.defProp false
@[reducible] def Ya:=@of_decide_eq_true
@[reducible] def Yb:=@if_neg
@[reducible] def Yc:=@Option.some.injEq
@[reducible] def Yd:=@List.getD_eq_getElem?_getD
@[reducible] def Ye:=@List.getElem?_eq_getElem
@[reducible] def Yf:=@if_pos
@[reducible] def Yg:=@Nat.eq_of_beq_eq_true
@[reducible] def Yh:=@List.take_of_length_le
@[reducible] def Yi:=@Int.tmod_eq_emod_of_nonneg
@[reducible] def Yj:=@Bool.and_eq_true
@[reducible] def Yk:=@List.drop_of_length_le
@[reducible] def Yl:=@decide_eq_true
@[reducible] def Ym:=@List.length_append
@[reducible] def Yn:=@decide_eq_false
@[reducible] def Yo:=@And.intro
@[reducible] def Yp:=@Int.tdiv_eq_ediv_of_nonneg
@[reducible] def Yq:=@List.length_take
@[reducible] def Yr:=@List.eq_nil_of_length_eq_zero
@[reducible] def Ys:=@Int.emod_emod
@[reducible] def Yt:=@List.mem_cons
@[reducible] def Yu:=@List.getElem?_eq_some_iff
@[reducible] def Yv:=@congrArg
@[reducible] def Yw:=@Exists.intro
@[reducible] def Yx:=@List.length_cons
@[reducible] def Yy:=@List.append_assoc
@[reducible] def Yz:=@Int.eq_ofNat_of_zero_le
@[reducible] def YA:=@Array.getElem?_toList
@[reducible] def YB:=@decide_eq_true_eq
@[reducible] def YC:=@Int.emod_eq_of_lt
@[reducible] def YD:=@absurd
@[reducible] def YE:=@Nat.le_refl
@[reducible] def YF:=@List.not_mem_nil
@[reducible] def YG:=@Nat.le_trans
@[reducible] def YH:=@List.length_set
@[reducible] def YI:=@Bool.eq_iff_iff
@[reducible] def YJ:=@List.drop_eq_getElem_cons
@[reducible] def YK:=@List.getElem?_eq_none
@[reducible] def YL:=@Nat.mul_le_mul_right
@[reducible] def YM:=@Prod.mk.injEq
@[reducible] def YN:=@List.mem_append
@[reducible] def YO:=@List.getElem?_append_right
@[reducible] def YP:=@List.mem_cons_of_mem
@[reducible] def YQ:=@Array.getD_eq_getD_getElem?
@[reducible] def YR:=@Nat.zero_le
@[reducible] def YS:=@List.length_range
@[reducible] def YT:=@Nat.le_of_ble_eq_true
@[reducible] def YU:=@List.length_nil
@[reducible] def YV:=@Nat.add_mul
@[reducible] def YW:=@List.getElem_mem
@[reducible] def YX:=@List.getElem?_append_left
@[reducible] def YY:=@List.getElem?_set
@[reducible] def YZ:=@List.mem_cons_self
@[reducible] def Ja:=@List.length_zipWith
@[reducible] def Jb:=@List.map_cons
@[reducible] def Jc:=@List.getElem?_map
@[reducible] def Jd:=@List.append_nil
@[reducible] def Je:=@List.take_add_one
@[reducible] def Jf:=@List.length_map
@[reducible] def Jg:=@Array.getElem?_eq_some_iff
@[reducible] def Jh:=@Nat.zero_add
@[reducible] def Ji:=@List.set_cons_zero
@[reducible] def Jj:=@List.length_singleton
@[reducible] def Jk:=@Nat.sub_self
@[reducible] def Jl:=@List.mem_singleton
@[reducible] def Jm:=@Nat.succ_le_succ
@[reducible] def Jn:=@Nat.lt_of_lt_of_le
@[reducible] def Jo:=@List.mem_of_mem_take
@[reducible] def Jp:=@Nat.lt_or_ge
@[reducible] def Jq:=@List.set_append
@[reducible] def Jr:=@List.length_replicate
set_option linter.unusedVariables false
set_option linter.unusedSimpArgs false
inductive Ty where
 |int (k:IntKind)|ints (k:IntKind) (n:Nat)|bool|str|sl (t:Ty)|pair (a b:Ty)
 deriving DecidableEq
@[reducible] def Den:Ty→Type
  |.int _=>Int
  |.ints _ _=>List Int
  |.bool=>Bool
  |.str=>ByteArray
  |.sl t=>List (Den t)
  |.pair a b=>Den a×Den b
def Ty.size:Ty→Nat
 |.pair a b=>a.size+b.size
 |.ints _ n=>n
 |_=>1
def dflt:(t:Ty)→Den t
 |.int _=>(0:Int)
 |.ints _ n=>List.replicate n (0:Int)
 |.bool=>false
 |.str=>ByteArray.empty
 |.sl _=>[]
 |.pair a b=>(dflt a,dflt b)
inductive Cell where
 |imm (v:Value)
 |run (k:IntKind) (n:Nat) (l:List Int)
 |ro (t:Ty) (l:List (Den t))
 |rptr (t:Ty) (l:List (Den t)) (i j:Nat)
 |own (b:Nat)
 |sub (b off len:Nat)
 |srun (b j:Nat)
 |svar (b j n:Nat)
 |ptr (b j:Nat)
 |pel (b i j:Nat)
 |pidx (b j i:Nat)
 |fn (f:FuncId) (caps:List Nat)
 |ifc (t:TypeId) (b:Nat)
 |map (b:Nat)
inductive V1 where
 |c (x:Cell)
 |agg (cs:List Cell)
inductive AV where
 |dead
 |one (v:V1)
 |tup (l:List V1)
inductive Blk where
 |arr (t:Ty) (l:List (Den t))
 |var (cs:List Cell)
 |mp (ka:Bool) (kt vt:Ty) (l:List (Den kt×Den vt))
@[reducible] def AV.imm(v:Value):AV:=.one (.c (.imm v))
@[reducible] def AV.cell(x:Cell):AV:=.one (.c x)
@[reducible] def AV.agg(cs:List Cell):AV:=.one (.agg cs)
@[reducible] def iv(k:IntKind)(n:Int):Cell:=.imm (.int k n)
@[reducible] def bv(b:Bool):Cell:=.imm (.bool b)
structure St where
 tmps:List AV
 heap:List (Option Blk)
inductive TD where
 |int (k:IntKind)|bool|str|slice (e:TypeId)|struct (fs:List (TypeId×Nat))|array (n:Nat) (e:TypeId)|ptr (e:TypeId)|iface|map (k e:TypeId)|other
structure TI where
 desc:TD
 size:Nat
 bytes:Nat
 zero:List Cell
 ety:Option Ty
 cmp:Bool:=false
def TI.isAgg(t:TI):Bool:=match t.desc with|.struct _=>true|.array _ _=>true|_=>false
structure Res where
 pre:Option Prop
 val:AV
 add:List Blk
 set:List (Nat×Option Blk)
structure CSpec where
 wr:Bool
 run:List V1→List Blk→Option (Option Prop×AV×List (Option Blk)×List Blk)
 eat:Bool:=false
structure Tab where
 ty:TypeId→Option TI
 fn:FuncId→Option CSpec
 meth:TypeId→String→Option FuncId
def Cell.size:Cell→Nat
 |.run _ n _=>n
 |_=>1
def V1.items:V1→List Cell
 |.c x=>[x]
 |.agg cs=>cs
def QaZ:List Cell→Nat→Option Cell
 | [],_=>none
 |c::cs,off=>match Nat.beq off 0 with
  |true=>some c
  |false=>match Nat.ble c.size off with
   |true=>QaZ cs (off-c.size)
   |false=>none
def Qc4:List Cell→Nat→Option (List Cell)
 | [],n=>match Nat.beq n 0 with|true=>some []|false=>none
 |c::cs,n=>match Nat.beq n 0 with
  |true=>some []
  |false=>match Nat.ble c.size n with
   |true=>match Qc4 cs (n-c.size) with
    |some r=>some (c::r)
    |none=>none
   |false=>none
def QaF:List Cell→Nat→Nat→Option (List Cell)
 |cs,off,n=>match Nat.beq off 0 with
  |true=>Qc4 cs n
  |false=>match cs with
   | []=>none
   |c::cs=>match Nat.ble c.size off with
    |true=>QaF cs (off-c.size) n
    |false=>none
def QcR:List Cell→Nat→Cell→Option (List Cell)
 | [],_,_=>none
 |c::cs,off,x=>match Nat.beq off 0 with
  |true=>match Nat.beq c.size x.size with
   |true=>some (x::cs)
   |false=>none
  |false=>match Nat.ble c.size off with
   |true=>match QcR cs (off-c.size) x with
    |some r=>some (c::r)
    |none=>none
   |false=>none
def Qbs:List Cell→Nat→List Cell→Option (List Cell)
 |cs,_,[]=>some cs
 |cs,off,x::xs=>match QcR cs off x with
  |some r=>Qbs r (off+x.size) xs
  |none=>none
def cells:(t:Ty)→Den t→List Cell
 |.int k,x=>[iv k x]
 |.ints k n,l=>[.run k n l]
 |.bool,b=>[bv b]
 |.str,s=>[.imm (.string s)]
 |.sl t,l=>[.ro t l]
 |.pair a b,x=>cells a x.1++cells b x.2
def QE8:(a b:Ty)→Option (PLift (a=b)):=fun a b=>if h:a=b then some ⟨h⟩ else none
def Qax(look:Nat→Option Blk):Cell→Option ((t:Ty)×List (Den t))
 |.ro t l=>some ⟨t,l⟩
 |.own b=>match look b with|some (.arr t l)=>some ⟨t,l⟩|_=>none
 |.sub b off len=>match look b with|some (.arr t l)=>some ⟨t,(l.drop off).take len⟩|_=>none
 |.srun b j=>match look b with
  |some (.var cs)=>match QaZ cs j with|some (.run k _ l)=>some ⟨.int k,l⟩|_=>none
  |_=>none
 |_=>none
def Qga{t u:Ty}(h:t=u)(l:List (Den t)):List (Den u):=h ▸ l
def QsF(look:Nat→Option Blk)(t:Ty)(c:Cell):Option (List (Den t)) :=
 match c with
 |.imm (.slice none 0 0)=>some []
 |c=>match Qax look c with
  |some ⟨u,l⟩=>match QE8 u t with
   |some h=>some (Qga h.down l)
   |none=>none
  |none=>none
def QI4:Cell→List Nat
 |.own b=>[b]
 |.sub b _ _=>[b]
 |.srun b _=>[b]
 |_=>[]
def dec(look:Nat→Option Blk):(t:Ty)→List Cell→Option (Den t×List Nat×List Cell)
 |.int k,cs=>match cs with
  |.imm (.int k' x)::r=>match decide (k'=k) with|true=>some (x,[],r)|false=>none
  |_=>none
 |.ints k n,cs=>match cs with
  |.run k' n' l::r=>match decide (k'=k)&&Nat.beq n' n with|true=>some (l,[],r)|false=>none
  |_=>none
 |.bool,cs=>match cs with
  |.imm (.bool b)::r=>some (b,[],r)
  |_=>none
 |.str,cs=>match cs with
  |.imm (.string s)::r=>some (s,[],r)
  |_=>none
 |.sl t,cs=>match cs with
  |c::r=>match QsF look t c with
   |some l=>some (l,QI4 c,r)
   |none=>none
  | []=>none
 |.pair a b,cs=>match dec look a cs with
  |some (x,u,r)=>match dec look b r with
   |some (y,u',r')=>some ((x,y),u++u',r')
   |none=>none
  |none=>none
def Qca(look:Nat→Option Blk)(t:Ty)(cs:List Cell):Option (Den t×List Nat) :=
 match dec look t cs with
 |some (x,u,[])=>some (x,u)
 |_=>none
def Qoh:Value→AV
 |.agg cs=>match cs.toList.all (·.oneCell') with|true=>.agg (cs.toList.map .imm)|false=>.dead
 |.tuple _=>.dead
 |v=>.imm v
def Qfj(s:ByteArray)(i:Nat):Int:=((s.data.toList.getD i 0).toNat:Int)
def Qm4(l:List Int):ByteArray:=⟨(l.map fun n=>UInt8.ofNat n.toNat).toArray⟩
def bytesOf(s:ByteArray):List Int:=s.data.toList.map fun b=>(b.toNat:Int)
def over{α:Type}:List α→List α→Nat→List α
 | [],_,_=>[]
 |d::ds,src,i=>src.getD i d::over ds src (i+1)
def ok1(v:AV):Option Res:=some { pre:=none,val:=v,add:=[],set:=[] }
def okP(p:Prop)(v:AV):Option Res:=some { pre:=some p,val:=v,add:=[],set:=[] }
def land(k:IntKind)(x y:Int):Int:=k.wrap (BitVec.ofInt k.bits x &&& BitVec.ofInt k.bits y).toNat
def lor(k:IntKind)(x y:Int):Int:=k.wrap (BitVec.ofInt k.bits x ||| BitVec.ofInt k.bits y).toNat
def lxor(k:IntKind)(x y:Int):Int:=k.wrap (BitVec.ofInt k.bits x ^^^ BitVec.ofInt k.bits y).toNat
def Q6(k:IntKind)(x y:Int):Int:=k.wrap (BitVec.ofInt k.bits x &&& ~~~(BitVec.ofInt k.bits y)).toNat
def shl(k:IntKind)(x y:Int):Int:=k.wrap (x*2 ^ (min y.toNat k.bits))
def shr(k:IntKind)(x y:Int):Int:=x.fdiv (2 ^ (min y.toNat k.bits))
def QFk(op:BinOp)(k:IntKind)(x y:Int):Option Res :=
 match op with
 |.add=>ok1 (.cell (iv k (k.wrap (x+y))))
 |.sub=>ok1 (.cell (iv k (k.wrap (x-y))))
 |.mul=>ok1 (.cell (iv k (k.wrap (x*y))))
 |.quo=>okP (y≠0) (.cell (iv k (k.wrap (x.tdiv y))))
 |.rem=>okP (y≠0) (.cell (iv k (x.tmod y)))
 |.and=>ok1 (.cell (iv k (land k x y)))
 |.or=>ok1 (.cell (iv k (lor k x y)))
 |.xor=>ok1 (.cell (iv k (lxor k x y)))
 |.andNot=>ok1 (.cell (iv k (Q6 k x y)))
 |.eql=>ok1 (.cell (bv (x==y)))
 |.neq=>ok1 (.cell (bv (x != y)))
 |.lss=>ok1 (.cell (bv (decide (x<y))))
 |.leq=>ok1 (.cell (bv (decide (x≤y))))
 |.gtr=>ok1 (.cell (bv (decide (x>y))))
 |.geq=>ok1 (.cell (bv (decide (x≥y))))
 |_=>none
def Qm(s t:ByteArray):Bool:=s.toList==t.toList
def Qoi:IntKind→IntKind→Bool:=fun a b=>decide (a=b)
def unA(op:UnOp)(a:AV):Option Res :=
 match op,a with
 |.neg,.one (.c (.imm (.int k x)))=>ok1 (.cell (iv k (k.wrap (0-x))))
 |.xor,.one (.c (.imm (.int k x)))=>ok1 (.cell (iv k (lxor k (if k.signed then -1 else k.max) x)))
 |.not,.one (.c (.imm (.bool b)))=>ok1 (.cell (bv (!b)))
 |_,_=>none
def Ty.flat:Ty→Bool
 |.sl _=>false
 |.pair a b=>a.flat&&b.flat
 |_=>true
section
variable (T:Tab) (ev:Operand→AV) (look:Nat→Option Blk) (nm:Nat)
def Qhs(t:TypeId):Option (Ty×Nat) :=
 match T.ty t with
 |some { desc:=.slice e,.. }=>match T.ty e with
  |some ti=>match ti.ety with
   |some u=>some (u,ti.bytes)
   |none=>none
  |none=>none
 |_=>none
def Qjb:AV→Option Int
 |.one (.c (.imm (.int _ n)))=>some n
 |_=>none
def Qxc(t:TypeId)(a:AV):Option Res :=
 match T.ty t with
 |none=>none
 |some ti =>
  match a with
  |.one (.c (.ptr b j))=>match look b with
   |some (.var cs)=>match ti.isAgg with
    |true=>match QaF cs j ti.size with
     |some r=>ok1 (.agg r)
     |none=>none
    |false=>match QaZ cs j with
     |some (.run _ _ _)=>none
     |some c=>ok1 (.cell c)
     |none=>none
   |_=>none
  |.one (.c (.pidx b j i))=>match look b with
   |some (.var cs)=>match ti.isAgg with
    |true=>none
    |false=>match QaZ cs j with
     |some (.run k n l)=>okP (i<n) (.cell (iv k (l.getD i 0)))
     |_=>none
   |_=>none
  |.one (.c (.pel b i j))=>match look b with
   |some (.arr u l)=>match ti.isAgg with
    |true=>match QaF (cells u (l.getD i (dflt u))) j ti.size with
     |some r=>okP (i<l.length) (.agg r)
     |none=>none
    |false=>match QaZ (cells u (l.getD i (dflt u))) j with
     |some (.run _ _ _)=>none
     |some c=>okP (i<l.length) (.cell c)
     |none=>none
   |_=>none
  |.one (.c (.rptr u l i j))=>match ti.isAgg with
   |true=>match QaF (cells u (l.getD i (dflt u))) j ti.size with
    |some r=>ok1 (.agg r)
    |none=>none
   |false=>match QaZ (cells u (l.getD i (dflt u))) j with
    |some (.run _ _ _)=>none
    |some c=>ok1 (.cell c)
    |none=>none
  |_=>none
def QsG(t:TypeId)(a:AV)(x:AV):Option Res :=
 match T.ty t with
 |none=>none
 |some ti =>
  match x with
  |.one v=>match Nat.beq (v.items.foldl (fun n c=>n+c.size) 0) ti.size&&Nat.blt 0 ti.size with
   |false=>none
   |true =>
   match a with
   |.one (.c (.ptr b j))=>match look b with
    |some (.var cs)=>match Qbs cs j v.items with
     |some cs'=>some { pre:=none,val:=.dead,add:=[],set:=[(b,some (.var cs'))] }
     |none=>none
    |_=>none
   |.one (.c (.pidx b j i))=>match look b with
    |some (.var cs)=>match QaZ cs j,v with
     |some (.run k n l),.c (.imm (.int k' y))=>match Qoi k' k with
      |true=>match QcR cs j (.run k n (l.set i y)) with
       |some cs'=>some { pre:=some (i<n),val:=.dead,add:=[],set:=[(b,some (.var cs'))] }
       |none=>none
      |false=>none
     |_,_=>none
    |_=>none
   |.one (.c (.pel b i j))=>match look b with
    |some (.arr u l)=>match Qbs (cells u (l.getD i (dflt u))) j v.items with
     |some cs'=>match Qca look u cs' with
      |some (d,us)=>match us.contains b with
       |true=>none
       |false=>some { pre:=some (i<l.length),val:=.dead,add:=[],set:=us.map (fun n=>(n,none))++[(b,some (.arr u (l.set i d)))] }
      |none=>none
     |none=>none
    |_=>none
   |_=>none
  |_=>none
def Qgb(s:TypeId)(a:AV)(f:Nat):Option Res :=
 match T.ty s with
 |some { desc:=.struct fs,.. }=>match fs[f]? with
  |some (u,o)=>match T.ty u with
   |some ti=>match Nat.blt 0 ti.size with
    |true=>match a with
     |.one (.c (.ptr b j))=>match look b with
      |some (.var _)=>ok1 (.cell (.ptr b (j+o)))
      |_=>none
     |.one (.c (.pel b i j))=>match look b with
      |some (.arr _ l)=>okP (i<l.length) (.cell (.pel b i (j+o)))
      |_=>none
     |.one (.c (.rptr u l i j))=>ok1 (.cell (.rptr u l i (j+o)))
     |_=>none
    |false=>none
   |none=>none
  |none=>none
 |_=>none
def Qgc(t:TypeId)(x i:AV):Option Res :=
 match i with
 |.one (.c (.imm (.int k n)))=>match T.ty t with
  |some { desc:=.slice e,.. }=>match x with
   |.one (.c (.ro u l))=>match T.ty e with
    |some ti=>match Nat.beq ti.size u.size with
     |true=>okP (0≤n∧n<l.length) (.cell (.rptr u l n.toNat 0))
     |false=>none
    |none=>none
   |.one (.c (.own b))=>match look b,T.ty e with
    |some (.arr u l),some ti=>match Nat.beq ti.size u.size with
     |true=>okP (0≤n∧n<l.length) (.cell (.pel b n.toNat 0))
     |false=>none
    |_,_=>none
   |.one (.c (.sub b off len))=>match look b,T.ty e with
    |some (.arr u l),some ti=>match Nat.beq ti.size u.size with
     |true=>okP (0≤n∧n<len) (.cell (.pel b (off+n.toNat) 0))
     |false=>none
    |_,_=>none
   |.one (.c (.svar b j m))=>match look b,T.ty e with
    |some (.var _),some ti=>match Nat.beq ti.size 1 with
     |true=>okP (0≤n∧n<m) (.cell (.ptr b (j+n.toNat)))
     |false=>none
    |_,_=>none
   |_=>none
  |some { desc:=.array m e,.. }=>match x,T.ty e with
   |.one (.c (.ptr b j)),some ti=>match look b with
    |some (.var _)=>match Nat.beq ti.size 1 with
     |true=>okP (0≤n∧n<m) (.cell (.pidx b j n.toNat))
     |false=>none
    |_=>none
   |_,_=>none
  |_=>none
 |_=>none
def QsH(t:TypeId)(x i:AV):Option Res :=
 match i with
 |.one (.c (.imm (.int k n)))=>match T.ty t,x with
  |some { desc:=.array m e,.. },.one (.agg [.run k' m' l])=>match T.ty e with
   |some ti=>match Nat.beq ti.size 1&&Nat.beq m m'&&!ti.isAgg with
    |true=>okP (0≤n∧n<m) (.cell (iv k' (l.getD n.toNat 0)))
    |false=>none
   |none=>none
  |some { desc:=.str,.. },.one (.c (.imm (.string s)))=>okP (0≤n∧n<s.size) (.cell (iv .u8 (Qfj s n.toNat)))
  |_,_=>none
 |_=>none
def QsI(t:TypeId)(x:AV)(f:Nat):Option Res :=
 match T.ty t with
 |some { desc:=.struct fs,.. }=>match fs[f]? with
  |some (u,o)=>match T.ty u,x with
   |some ti,.one (.agg cs)=>match ti.isAgg with
    |true=>match QaF cs o ti.size with
     |some r=>ok1 (.agg r)
     |none=>none
    |false=>match QaZ cs o with
     |some (.run _ _ _)=>none
     |some c=>ok1 (.cell c)
     |none=>none
   |_,_=>none
  |none=>none
 |_=>none
def Qlh(fs:List (TypeId×Nat)):List (Nat×AV)→List Cell→Option (List Cell)
 | [],cs=>some cs
 |(i,.one v)::r,cs=>match fs[i]? with
  |some (t,o)=>match T.ty t with
   |some ti=>match Nat.beq (v.items.foldl (fun n c=>n+c.size) 0) ti.size&&Nat.blt 0 ti.size with
    |true=>match Qbs cs o v.items with
     |some cs'=>Qlh fs r cs'
     |none=>none
    |false=>none
   |none=>none
  |none=>none
 |_,_=>none
def Qoj:AV→Option (IntKind×Int)
 |.one (.c (.imm (.int k n)))=>some (k,n)
 |_=>none
def Qgd(k:IntKind)(n:Nat):List (Nat×AV)→List Int→Option (List Int)
 | [],l=>some l
 |(i,a)::r,l=>match Qoj a with
  |some (k',x)=>match Qoi k' k&&Nat.blt i n with
   |true=>Qgd k n r (l.set i x)
   |false=>none
  |none=>none
def QsJ(t:TypeId)(ps:List (Nat×AV)):Option Res :=
 match T.ty t with
 |some { desc:=.struct fs,zero:=z,.. }=>match Qlh T fs ps z with
  |some cs=>ok1 (.agg cs)
  |none=>none
 |some { desc:=.array _ e,zero:=[.run k n l],.. }=>match T.ty e with
  |some ti=>match Nat.beq ti.size 1 with
   |true=>match Qgd k n ps l with
    |some l'=>ok1 (.agg [.run k n l'])
    |none=>none
   |false=>none
  |none=>none
 |_=>none
def Qfk(u:Ty):Nat→List (Nat×AV)→Option (List (Den u)×List Nat)
 |_,[]=>some ([],[])
 |i,(j,.one v)::r=>match Nat.beq i j with
  |true=>match Qca look u v.items with
   |some (d,us)=>match Qfk u (i+1) r with
    |some (ds,us')=>some (d::ds,us++us')
    |none=>none
   |none=>none
  |false=>none
 |_,_=>none
def QqQ:Nat→List (Nat×AV)→Option (List Cell)
 |_,[]=>some []
 |i,(j,.one (.c (.sub b o l)))::r=>match Nat.beq i j with
  |true=>match QqQ (i+1) r with
   |some cs=>some (.sub b o l::cs)
   |none=>none
  |false=>none
 |_,_=>none
def Qok:Ty→List (Nat×AV)→Option (List Cell)
 |.sl _,p::ps=>QqQ 0 (p::ps)
 |_,_=>none
def QsK:Nat→List (Nat×AV)→Option (List Cell)
 |_,[]=>some []
 |i,(j,.one (.c (.ptr b o)))::r=>match Nat.beq i j with
  |true=>match QsK (i+1) r with
   |some cs=>some (.ptr b o::cs)
   |none=>none
  |false=>none
 |_,_=>none
def Qfl(t:TypeId)(n:Nat)(ps:List (Nat×AV)):Option Res :=
 match T.ty t with
 |some { desc:=.slice e,.. }=>match T.ty e with
  |some { desc:=.ptr _,size:=sz,.. }=>match Nat.beq sz 1&&Nat.beq n ps.length&&Nat.blt n 16777216&&Nat.blt 0 n with
   |true=>match QsK 0 ps with
    |some cs=>some { pre:=none,val:=.cell (.svar nm 0 n),add:=[.var cs],set:=[] }
    |none=>none
   |false=>none
  |_=>none
 |_=>none
def Qds(t:TypeId)(n:Nat)(ps:List (Nat×AV)):Option Res :=
 match Qhs T t with
 |some (u,_)=>match Nat.beq n ps.length&&Nat.blt (n*u.size) 16777216&&Nat.blt 0 u.size with
  |true=>match Qok u ps with
   |some cs=>some { pre:=none,val:=.cell (.svar nm 0 n),add:=[.var cs],set:=[] }
   |none=>match Qfk look u 0 ps with
   |some (ds,us)=>some { pre:=none,val:=.cell (.own nm),add:=[.arr u ds],set:=us.map (fun n=>(n,none)) }
   |none=>none
  |false=>none
 |none=>Qfl T nm t n ps
def Qel(t:TypeId)(l c:AV):Option Res :=
 match Qhs T t,l,c with
 |some (u,by_),.one (.c (.imm (.int .i64 n))),.one (.c (.imm (.int .i64 m))) =>
  some { pre:=some (n=m∧0≤n∧n*by_≤281474976710656∧n≤281474976710656),val:=.cell (.own nm),add:=[.arr u (List.replicate n.toNat (dflt u))],set:=[] }
 |_,_,_=>none
def QdV(len:Nat)(lo hi:Option AV):Option (Prop×Nat×Nat) :=
 match lo,hi with
 |none,none=>some (True,0,len)
 |some (.one (.c (.imm (.int _ a)))),none=>some (0≤a∧a≤len,a.toNat,len)
 |none,some (.one (.c (.imm (.int _ b))))=>some (0≤b∧b≤len,0,b.toNat)
 |some (.one (.c (.imm (.int _ a)))),some (.one (.c (.imm (.int _ b))))=>some (0≤a∧a≤b∧b≤len,a.toNat,b.toNat)
 |_,_=>none
def QsL(t:TypeId)(x:AV)(lo hi mx:Option AV):Option Res :=
 match mx with
 |some _=>none
 |none=>match T.ty t,x with
  |some { desc:=.str,.. },.one (.c (.imm (.string s)))=>match QdV s.size lo hi with
   |some (p,a,b)=>okP p (.cell (.imm (.string (s.extract a b))))
   |none=>none
  |some { desc:=.slice e,.. },.one (.c (.ro u l))=>match QdV l.length lo hi,T.ty e with
   |some (p,a,b),some ti=>match Nat.beq ti.size u.size with
    |true=>okP p (.cell (.ro u ((l.take b).drop a)))
    |false=>none
   |_,_=>none
  |some { desc:=.slice e,.. },.one (.c (.own b))=>match look b,T.ty e with
   |some (.arr u l),some ti=>match Nat.beq ti.size u.size with
    |true=>match lo,hi with
     |none,none=>ok1 (.cell (.own b))
     |lo,hi=>match QdV l.length lo hi with
      |some (p,a,c)=>okP p (.cell (.sub b a (c-a)))
      |none=>none
    |false=>none
   |_,_=>none
  |some { desc:=.slice e,.. },.one (.c (.sub b off len))=>match look b,T.ty e with
   |some (.arr u l),some ti=>match Nat.beq ti.size u.size with
    |true=>match QdV len lo hi with
     |some (p,a,c)=>okP p (.cell (.sub b (off+a) (c-a)))
     |none=>none
    |false=>none
   |_,_=>none
  |some { desc:=.slice e,.. },.one (.c (.imm (.slice none 0 0)))=>match QdV 0 lo hi,T.ty e with
   |some (p,_,_),some _=>okP p (.cell (.imm (.slice none 0 0)))
   |_,_=>none
  |some { desc:=.array m e,.. },.one (.c (.ptr b j))=>match look b,lo,hi,T.ty e with
   |some (.var cs),none,none,some ti=>match QaZ cs j with
    |some (.run _ n _)=>match Nat.beq n m&&Nat.beq ti.size 1&&Nat.blt 0 n with
     |true=>ok1 (.cell (.srun b j))
     |false=>none
    |_=>none
   |_,_,_,_=>none
  |_,_=>none
def QjM(t:TypeId)(op:BinOp)(a b:AV):Option Res :=
 match b with
 |.one (.c (.imm (.pointer none)))=>match T.ty t with
  |some { desc:=.ptr _,.. }=>match a with
   |.one (.c (.imm (.pointer none)))=>match op with
    |.eql=>ok1 (.cell (bv true))
    |.neq=>ok1 (.cell (bv false))
    |_=>none
   |.one (.c (.ptr b _))=>match look b with
    |some (.var _)=>match op with
     |.eql=>ok1 (.cell (bv false))
     |.neq=>ok1 (.cell (bv true))
     |_=>none
    |_=>none
   |_=>none
  |_=>none
 |_=>none
def cutA(t:TypeId)(x:AV)(lo hi mx:Option AV):Option Res :=
 match x with
 |.one (.c (.own b))=>match lo,hi,mx with
  |none,some (.one (.c (.imm (.int _ n)))),none=>match T.ty t,look b with
   |some { desc:=.slice e,.. },some (.arr u l)=>match T.ty e with
    |some ti=>match Nat.beq ti.size u.size&&!u.flat with
     |true=>some { pre:=some (0≤n∧n≤l.length),val:=.cell (.own nm),add:=[.arr u (l.take n.toNat)],set:=[(b,none)] }
     |false=>none
    |none=>none
   |_,_=>none
  |_,_,_=>none
 |_=>none
def QIn(t:TypeId)(x:AV):Option Int :=
 match T.ty t with
 |some { desc:=.str,.. }=>match x with
  |.one (.c (.imm (.string s)))=>some s.size
  |_=>none
 |some { desc:=.slice _,.. }=>match x with
  |.one (.c (.imm (.slice none 0 0)))=>some 0
  |.one (.c (.svar b _ n))=>match look b with
   |some (.var _)=>some (n:Int)
   |_=>none
  |.one (.c c)=>match Qax look c with
   |some ⟨_,l⟩=>some l.length
   |none=>none
  |_=>none
 |_=>none
def imax(x y:Int):Int:=if y>x then y else x
def imin(x y:Int):Int:=if y<x then y else x
def QFl(k:IntKind):Int→List AV→Option AV
 |x,[]=>some (.cell (iv k x))
 |x,a::r=>match Qjb a with
  |some y=>QFl k (imax x y) r
  |none=>none
def QFm(k:IntKind):Int→List AV→Option AV
 |x,[]=>some (.cell (iv k x))
 |x,a::r=>match Qjb a with
  |some y=>QFm k (imin x y) r
  |none=>none
def QIo:List AV→Option AV
 |.one (.c (.imm (.int k x)))::r=>QFl k x r
 |_=>none
def QIp:List AV→Option AV
 |.one (.c (.imm (.int k x)))::r=>QFm k x r
 |_=>none
def QE9(u:Ty)(x:AV):Option (List (Den u)) :=
 match x with
 |.one (.c (.imm (.string s)))=>match QE8 (.int .u8) u with
  |some h=>some (Qga h.down (bytesOf s))
  |none=>none
 |.one (.c c)=>QsF look u c
 |_=>none
def QCc(t:TypeId):Bool:=match T.ty t with|some { desc:=.slice _,.. }=>true|some { desc:=.str,.. }=>true|_=>false
def QjN(t t':TypeId)(s x:AV):Option Res :=
 match Qhs T t with
 |some (u,by_)=>match QCc T t'&&Nat.blt 0 by_ with
  |false=>none
  |true=>match QE9 look u x with
  |some l'=>match s with
   |.one (.c (.imm (.slice none 0 0))) =>
    some { pre:=some (l'.length*by_≤140737488355328),val:=.cell (.own nm),add:=[.arr u l'],set:=[] }
   |.one (.c (.own b))=>match look b with
    |some (.arr u' l)=>match QE8 u' u with
     |some h=>some { pre:=some ((l.length+l'.length)*by_≤140737488355328),val:=.cell (.own nm),add:=[.arr u (Qga h.down l++l')],set:=[(b,none)] }
     |none=>none
    |_=>none
   |_=>none
  |none=>none
 |none=>none
def QCd(t:TypeId)(s x:AV):Option Res :=
 match Qhs T t with
 |some (u,_)=>match QE9 look u x with
  |some l'=>match s with
   |.one (.c (.imm (.slice none 0 0)))=>ok1 (.cell (iv .i64 0))
   |.one (.c (.own b))=>match look b with
    |some (.arr u' l)=>match QE8 u u' with
     |some h=>some { pre:=none,val:=.cell (iv .i64 (min l'.length l.length:Nat)),add:=[],set:=[(b,some (.arr u' (over l (Qga h.down l') 0)))] }
     |none=>none
    |_=>none
   |.one (.c (.sub b off len))=>match look b with
    |some (.arr u' l)=>match QE8 u u' with
     |some h=>some { pre:=none,val:=.cell (iv .i64 (min l'.length len:Nat)),add:=[],
                     set:=[(b,some (.arr u' (l.take off++over ((l.drop off).take len) (Qga h.down l') 0++l.drop (off+len))))] }
     |none=>none
    |_=>none
   |_=>none
  |none=>none
 |none=>none
def Qol(b:Builtin)(tys:List TypeId)(args:List AV):Option Res :=
 match b,args,tys with
 |.len,[x],t::_=>match QIn T look t x with|some n=>ok1 (.cell (iv .i64 n))|none=>none
 |.max,args,_=>match QIo args with|some v=>ok1 v|none=>none
 |.min,args,_=>match QIp args with|some v=>ok1 v|none=>none
 |.append,[s,x],[t,t']=>QjN T look nm t t' s x
 |.copy,[s,x],t::_=>QCd T look t s x
 |_,_,_=>none
def QD:(u:Ty)→Den u→Den u→Bool
 |.int _,x,y=>decide ((x:Int)=y)
 |.ints _ _,x,y=>decide ((x:List Int)=y)
 |.bool,x,y=>(x:Bool)==y
 |.str,x,y=>Qm x y
 |.sl _,_,_=>false
 |.pair a b,x,y=>QD a x.1 y.1&&QD b x.2 y.2
def QI5(t:TypeId)(op:BinOp)(a b:AV):Option Res :=
 match a,b with
 |.one (.c (.imm (.int k x))),.one (.c (.imm (.int k' y))) =>
  match op with
  |.shl=>okP (0≤y) (.cell (iv k (shl k x y)))
  |.shr=>okP (0≤y) (.cell (iv k (shr k x y)))
  |op=>match Qoi k k' with
   |true=>QFk op k x y
   |false=>none
 |.one (.c (.imm (.string s))),.one (.c (.imm (.string t))) =>
  match op with
  |.eql=>ok1 (.cell (bv (Qm s t)))
  |.neq=>ok1 (.cell (bv (!Qm s t)))
  |.add=>some { pre:=some (s.size+t.size<4611686018427387904),val:=.cell (.imm (.string (s++t))),add:=[],set:=[] }
  |_=>none
 |.one (.c (.imm (.bool s))),.one (.c (.imm (.bool u))) =>
  match T.ty t with
  |some { desc:=.bool,.. }=>match op with
   |.eql=>ok1 (.cell (bv (s==u)))
   |.neq=>ok1 (.cell (bv (!(s==u))))
   |_=>none
  |_=>none
 |.one (.agg xs),.one (.agg ys) =>
  match T.ty t with
  |some ti=>match ti.cmp,ti.ety with
   |true,some u=>match Qca (fun _=>none) u xs,Qca (fun _=>none) u ys with
    |some (x,_),some (y,_)=>match op with
     |.eql=>ok1 (.cell (bv (QD u x y)))
     |.neq=>ok1 (.cell (bv (!QD u x y)))
     |_=>none
    |_,_=>none
   |_,_=>none
  |none=>none
 |_,_=>none
def Qg1:Ty→Bool
 |.int _=>true
 |.bool=>true
 |.str=>true
 |_=>false
def QaG:Ty→Bool
 |.ints _ _=>false
 |.sl _=>false
 |.pair a b=>QaG a&&QaG b
 |_=>true
def QFn(ti:TI)(kt:Ty):Bool:=match ti.desc,kt with
 |.int k,.int k'=>decide (k'=k)
 |.bool,.bool=>true
 |.str,.str=>true
 |.struct _,_=>ti.cmp
 |_,_=>false
def Qm5(t:TypeId):Option (Bool×Ty×Ty):=match T.ty t with
 |some { desc:=.map k e,.. }=>match T.ty k,T.ty e with
  |some ki,some ei=>match ki.ety,ei.ety with
   |some kt,some vt=>match QFn ki kt&&QaG kt&&Qg1 vt&&!ei.isAgg with
    |true=>some (ki.isAgg,kt,vt)
    |false=>none
   |_,_=>none
  |_,_=>none
 |_=>none
def Qom(t:TypeId)(ka:Bool)(kt vt:Ty):Bool:=match Qm5 T t with
 |some (ka',kt',vt')=>decide (ka'=ka)&&decide (kt'=kt)&&decide (vt'=vt)
 |none=>false
def Qjc(ka:Bool)(kt:Ty)(x:AV):Option (Den kt):=match ka,x with
 |false,.one (.c c)=>match Qca (fun _=>none) kt [c] with
  |some (d,_)=>some d
  |none=>none
 |true,.one (.agg cs)=>match Qca (fun _=>none) kt cs with
  |some (d,_)=>some d
  |none=>none
 |_,_=>none
def Qan{kt vt:Ty}:List (Den kt×Den vt)→Den kt→Option (Den vt)
 | [],_=>none
 |p::r,k=>match QD kt k p.1 with|true=>some p.2|false=>Qan r k
def Qaw{kt vt:Ty}:List (Den kt×Den vt)→Den kt→Den vt→List (Den kt×Den vt)
 | [],k,v=>[(k,v)]
 |p::r,k,v=>match QD kt k p.1 with|true=>(k,v)::r|false=>p::Qaw r k v
def QjO(t:TypeId)(m k x:AV):Option Res:=match m with
 |.one (.c (.map b))=>match look b with
  |some (.mp ka kt vt l)=>match Qom T t ka kt vt with
   |true=>match Qjc ka kt k,Qjc false vt x with
    |some d,some v=>some { pre:=none,val:=.dead,add:=[],set:=[(b,some (.mp ka kt vt (Qaw l d v)))] }
    |_,_=>none
   |false=>none
  |_=>none
 |_=>none
def QjP{α:Type}:Option α→Bool
 |some _=>true
 |none=>false
def QgV{α:Type}:Option α→α→α
 |some x,_=>x
 |none,d=>d
def Qm6(t:TypeId)(m k:AV)(ok:Bool):Option Res:=match m with
 |.one (.c (.map b))=>match look b with
  |some (.mp ka kt vt l)=>match Qom T t ka kt vt with
   |true=>match Qjc ka kt k with
    |some d=>match cells vt (QgV (Qan l d) (dflt vt)) with
     | [c]=>(match ok with
       |true=>ok1 (.tup [.c c,.c (bv (QjP (Qan l d)))])
       |false=>ok1 (.cell c))
     |_=>none
    |none=>none
   |false=>none
  |_=>none
 |_=>none
def QdW(c:Cell):Option Cell :=
 match c with
 |.imm v=>some (.imm v)
 |.run k n l=>some (.run k n l)
 |.fn f []=>some (.fn f [])
 |c=>match Qax look c with
  |some ⟨t,l⟩=>some (.ro t l)
  |none=>none
def Qfe{α β:Type}(f:α→Option β):List α→Option (List β)
 | []=>some []
 |x::xs=>match f x with
  |some y=>match Qfe f xs with
   |some ys=>some (y::ys)
   |none=>none
  |none=>none
def Qfm:V1→Option V1
 |.c x=>match QdW look x with|some y=>some (.c y)|none=>none
 |.agg cs=>match Qfe (QdW look) cs with|some ys=>some (.agg ys)|none=>none
def QqR(b:Nat):List Nat→Nat→Option Nat
 | [],_=>none
 |x::xs,i=>match Nat.beq x b with|true=>some i|false=>QqR b xs (i+1)
def Cell.names:Cell→List Nat
 |.own b=>[b]
 |.sub b _ _=>[b]
 |.srun b _=>[b]
 |.svar b _ _=>[b]
 |.ptr b _=>[b]
 |.pel b _ _=>[b]
 |.pidx b _ _=>[b]
 |.fn _ bs=>bs
 |.ifc _ b=>[b]
 |.map b=>[b]
 |_=>[]
def Cell.rn(f:Nat→Nat):Cell→Cell
 |.own b=>.own (f b)
 |.sub b o l=>.sub (f b) o l
 |.srun b j=>.srun (f b) j
 |.svar b j n=>.svar (f b) j n
 |.ptr b j=>.ptr (f b) j
 |.pel b i j=>.pel (f b) i j
 |.pidx b j i=>.pidx (f b) j i
 |.fn g bs=>.fn g (bs.map f)
 |.ifc t b=>.ifc t (f b)
 |.map b=>.map (f b)
 |c=>c
def Blk.rn(f:Nat→Nat):Blk→Blk
 |.arr t l=>.arr t l
 |.var cs=>.var (cs.map (·.rn f))
 |.mp ka kt vt l=>.mp ka kt vt l
def V1.rn(f:Nat→Nat):V1→V1
 |.c x=>.c (x.rn f)
 |.agg cs=>.agg (cs.map (·.rn f))
def AV.rn(f:Nat→Nat):AV→AV
 |.dead=>.dead
 |.one v=>.one (v.rn f)
 |.tup l=>.tup (l.map (·.rn f))
def V1.names:V1→List Nat
 |.c x=>x.names
 |.agg cs=>cs.flatMap (·.names)
def Blk.names:Blk→List Nat
 |.arr _ _=>[]
 |.var cs=>cs.flatMap (·.names)
 |.mp _ _ _ _=>[]
def reach:Nat→List Nat→List Nat→Option (List Nat)
 |_,[],acc=>some acc
 |0,_::_,_=>none
 |f+1,b::bs,acc=>match acc.contains b with
  |true=>reach f bs acc
  |false=>match look b with
   |some blk=>reach f (bs++blk.names) (acc++[b])
   |none=>none
def idx(acc:List Nat)(b:Nat):Nat:=match QqR b acc 0 with|some i=>i|none=>acc.length
def Cell.isRo:Cell→Bool
 |.ro _ _=>true
 |.rptr _ _ _ _=>true
 |_=>false
def Blk.plain:Blk→Bool
 |.arr t _=>t.flat
 |.var cs=>cs.all fun c=>!c.isRo
 |.mp _ _ _ _=>true
def V1.hasRo:V1→Bool
 |.c x=>x.isRo
 |.agg cs=>cs.any Cell.isRo
def Cell.isOwn:Cell→Bool
 |.own _=>true
 |.sub _ _ _=>true
 |.srun _ _=>true
 |.svar _ _ _=>true
 |_=>false
def V1.hasOwn:V1→Bool
 |.c x=>x.isOwn
 |.agg cs=>cs.any Cell.isOwn
def AV.hasRo:AV→Bool
 |.one v=>v.hasRo
 |.tup l=>l.any (·.hasRo)
 |.dead=>false
def ones:List AV→Option (List V1)
 | []=>some []
 |.one v::r=>match ones r with|some vs=>some (v::vs)|none=>none
 |_=>none
def QjQ(s:CSpec)(args:List V1):Option Res :=
 match s.wr with
 |false=>match Qfe (Qfm look) args with
  |some vs=>match s.run vs [] with
   |some (p,r,[],fresh)=>match (r.hasRo||fresh.any (fun b=>!b.plain))&&args.any (·.hasOwn) with
    |true=>(match s.eat with
     |true=>some { pre:=p,val:=r.rn (fun i=>nm+i),add:=fresh.map (·.rn (fun i=>nm+i)),set:=(args.flatMap (·.names)).map (fun n=>(n,none)) }
     |false=>none)
    |false=>some { pre:=p,val:=r.rn (fun i=>nm+i),add:=fresh.map (·.rn (fun i=>nm+i)),set:=[] }
   |_=>none
  |none=>none
 |true=>match reach look 100 (args.flatMap (·.names)) [] with
  |some acc=>match Qfe look acc with
   |some bl=>match s.run (args.map (·.rn (idx acc))) (bl.map (·.rn (idx acc))) with
    |some (p,r,upd,fresh)=>match Nat.beq upd.length acc.length with
     |true =>
      let back:Nat→Nat:=fun i=>match acc[i]? with|some b=>b|none=>nm+(i-acc.length)
      some { pre:=p,val:=r.rn back,add:=fresh.map (·.rn back),set:=acc.zip (upd.map fun o=>match o with|some b=>some (b.rn back)|none=>none) }
     |false=>none
    |none=>none
   |none=>none
  |none=>none
def Qon(f:FuncId)(args:List AV):Option Res :=
 match T.fn f with
 |some s=>match ones args with
  |some vs=>QjQ look nm s vs
  |none=>none
 |none=>none
def QCe(c a b:AV):Option Res :=
 match c with
 |.one (.c (.imm (.bool t)))=>match a,b with
  |.one (.c (.imm (.bool x))),.one (.c (.imm (.bool y)))=>ok1 (.cell (bv (cond t x y)))
  |a,b=>match t with
   |true=>match a with|.dead=>none|a=>ok1 a
   |false=>match b with|.dead=>none|b=>ok1 b
 |_=>none
def Qjd:AV→Option Nat
 |.one (.c (.ptr b 0))=>some b
 |_=>none
def dstep(o:Oper):Option Res :=
 match o.op with
 |.move x=>match ev x with|.dead=>none|v=>ok1 v
 |.assign x=>match ev x with|.dead=>none|v=>ok1 v
 |.pick c a b=>QCe (ev c) (ev a) (ev b)
 |.alloc t=>match T.ty t with
  |some ti=>some { pre:=none,val:=.cell (.ptr nm 0),add:=[.var ti.zero],set:=[] }
  |none=>none
 |.box _ x=>match ev x with
  |.one v=>some { pre:=none,val:=.cell (.ptr nm 0),add:=[.var v.items],set:=[] }
  |_=>none
 |.build t ps=>QsJ T t (ps.toList.map fun(i,x)=>(i,ev x))
 |.buildSlice t n ps=>Qds T look nm t n (ps.toList.map fun(i,x)=>(i,ev x))
 |.load t a=>Qxc T look t (ev a)
 |.store t a x=>QsG T look t (ev a) (ev x)
 |.nilCheck x=>match ev x with
  |.one (.c (.ptr b j))=>match look b with
   |some (.var _)=>ok1 (.cell (.ptr b j))
   |_=>none
  |.one (.c (.fn f cs))=>ok1 (.cell (.fn f cs))
  |_=>none
 |.binOp op t x y _=>(match QjM T look t op (ev x) (ev y) with
  |some r=>some r
  |none=>QI5 T t op (ev x) (ev y))
 |.unOp op _ x=>unA op (ev x)
 |.convert s d x=>match T.ty s,T.ty d,ev x with
  |some _,some { desc:=.int k,.. },.one (.c (.imm (.int _ n)))=>ok1 (.cell (iv k (k.wrap n)))
  |some _,some { desc:=.str,.. },.one (.c (.imm (.string t)))=>ok1 (.cell (.imm (.string t)))
  |some _,some { desc:=.str,.. },.one (.c (.imm (.int _ n)))=>ok1 (.cell (.imm (.string (Utf8.encode n))))
  |some { desc:=.slice e,.. },some { desc:=.str,.. },.one (.c c)=>(match T.ty e with
   |some { desc:=.int .u8,.. }=>(match QsF look (.int .u8) c with
    |some l=>ok1 (.cell (.imm (.string (Qm4 l))))
    |none=>none)
   |_=>none)
  |some { desc:=.str,.. },some { desc:=.slice e,.. },.one (.c (.imm (.string t)))=>(match T.ty e with
   |some { desc:=.int .u8,.. }=>ok1 (.cell (.ro (.int .u8) (bytesOf t)))
   |_=>none)
  |_,_,_=>none
 |.makeMap t none=>match Qm5 T t with
  |some (ka,kt,vt)=>some { pre:=none,val:=.cell (.map nm),add:=[.mp ka kt vt []],set:=[] }
  |none=>none
 |.mapUpdate t m k x=>QjO T look t (ev m) (ev k) (ev x)
 |.insert t m k x=>QjO T look t (ev m) (ev k) (ev x)
 |.lookup t m k ok=>Qm6 T look t (ev m) (ev k) ok
 |.makeInterface t x=>match T.ty t with
  |some { desc:=.ptr _,.. }=>match Qjd (ev x) with
   |some b=>ok1 (.cell (.ifc t b))
   |none=>none
  |_=>none
 |.makeFunc (.func f) fs cs=>match Nat.beq fs.size 0 with
  |true=>match Qfe (fun x=>Qjd (ev x)) cs.toList with
   |some bs=>ok1 (.cell (.fn f bs))
   |none=>none
  |false=>none
 |.makeSlice t l c=>Qel T nm t (ev l) (ev c)
 |.slice t x lo hi mx=>(match cutA T look nm t (ev x) (lo.map ev) (hi.map ev) (mx.map ev) with
  |some r=>some r
  |none=>QsL T look t (ev x) (lo.map ev) (hi.map ev) (mx.map ev))
 |.fieldAddr s x f=>Qgb T look s (ev x) f
 |.field t x f=>QsI T t (ev x) f
 |.indexAddr t x i=>Qgc T look t (ev x) (ev i)
 |.index t x i=>QsH T t (ev x) (ev i)
 |.extract t i=>match ev t with
  |.tup l=>match l[i]? with
   |some v=>ok1 (.one v)
   |none=>none
  |_=>none
 |.call c=>match c.callee with
  |.builtin b=>Qol T look nm b c.argTypes.toList (c.args.toList.map ev)
  |.value f=>match ev f with
   |.one (.c (.fn g caps))=>Qon T look nm g (c.args.toList.map ev++caps.map fun b=>.cell (.ptr b 0))
   |_=>none
  |.invoke r name=>match ev r with
   |.one (.c (.ifc t b))=>match T.meth t name with
    |some g=>Qon T look nm g (.cell (.ptr b 0)::c.args.toList.map ev)
    |none=>none
   |_=>none
 |_=>none
end
def St.tmp(s:St)(t:Tmp):AV:=s.tmps.getD t .dead
def St.put(s:St)(d:Option Tmp)(v:AV):St:=match d with|some d=>{ s with tmps:=s.tmps.set d v }|none=>s
def St.look(s:St)(b:Nat):Option Blk:=match s.heap[b]? with|some o=>o|none=>none
def Qad:List (Option Blk)→Nat→Option Blk→List (Option Blk)
 | [],0,o=>[o]
 | [],n+1,o=>none::Qad [] n o
 |_::r,0,o=>o::r
 |x::r,n+1,o=>x::Qad r n o
def QdX(h:List (Option Blk)):List (Nat×Option Blk)→List (Option Blk)
 | []=>h
 |(b,o)::r=>QdX (Qad h b o) r
def QeN(h:List (Option Blk))(nm:Nat):List Blk→List (Option Blk)
 | []=>h
 |x::r=>QeN (Qad h nm (some x)) (nm+1) r
def St.act(s:St)(nm:Nat)(r:Res):St:={ s with heap:=QeN (QdX s.heap r.set) nm r.add }
def St.eval(s:St):Operand→AV
 |.tmp t=>s.tmp t
 |.const v=>Qoh v
 |.func f=>.cell (.fn f [])
 |.global _=>.dead
inductive Need(p q:Prop):Prop where
 |mk:p→q→Need p q
theorem Need.out{p q:Prop}(h:Need p q):p∧q:=by cases h;exact⟨‹_›,‹_›⟩
def need(p:Option Prop)(q:Prop):Prop:=match p with|none=>q|some p=>Need p q
def Br(b:Bool)(x y:Prop):Prop:=match b with|true=>x|false=>y
theorem Br.mk{b:Bool}{x y:Prop}(h1:b=true→x)(h2:b=false→y):Br b x y:=by cases b<;>simp_all [Br]
def lits:List Nat:=[0,1,2,3,4,5,6,7,8,9,10,11,12,13,14,15,16,17,18,19,20,21,22,23,24,25,26,27,28,29,30,31,32,33,34,35,36,37,38,39,40,41,42,43,44,45,46,47,48,49,50,51,52,53,54,55,56,57,58,59,60,61,62,63,64,65,66,67,68,69,70,71,72,73,74,75,76,77,78,79,80,81,82,83,84,85,86,87,88,89,90,91,92,93,94,95,96,97,98,99,100,101,102,103,104,105,106,107,108,109,110,111,112,113,114,115,116,117,118,119,120,121,122,123,124,125,126,127]
def QiU(n:Nat)(k:Nat→Prop):List Nat→Prop
 | []=>k n
 |l::ls=>match Nat.beq n l with|true=>k l|false=>QiU n k ls
def QsM:List Nat→(List Nat→Prop)→Prop
 | [],k=>k []
 |n::ns,k=>QiU n (fun m=>QsM ns fun ms=>k (m::ms)) lits
def QLa:Value→(Value→Prop)→Prop
 |.int t n,k=>k (.int t n)
 |.bool b,k=>k (.bool b)
 |.string s,k=>k (.string s)
 |v,k=>k v
def Qxd:Cell→(Cell→Prop)→Prop
 |.imm v,k=>QLa v fun v=>k (.imm v)
 |.run a n l,k=>k (.run a n l)
 |.ro t l,k=>k (.ro t l)
 |.rptr t l i j,k=>QiU j (fun j=>k (.rptr t l i j)) lits
 |.own b,k=>QiU b (fun b=>k (.own b)) lits
 |.sub b o l,k=>QiU b (fun b=>k (.sub b o l)) lits
 |.srun b j,k=>QiU b (fun b=>QiU j (fun j=>k (.srun b j)) lits) lits
 |.svar b j n,k=>QiU b (fun b=>QiU j (fun j=>QiU n (fun n=>k (.svar b j n)) lits) lits) lits
 |.ptr b j,k=>QiU b (fun b=>QiU j (fun j=>k (.ptr b j)) lits) lits
 |.pel b i j,k=>QiU b (fun b=>QiU j (fun j=>k (.pel b i j)) lits) lits
 |.pidx b j i,k=>QiU b (fun b=>QiU j (fun j=>k (.pidx b j i)) lits) lits
 |.fn f bs,k=>QsM bs fun bs=>k (.fn f bs)
 |.ifc t b,k=>QiU b (fun b=>k (.ifc t b)) lits
 |.map b,k=>QiU b (fun b=>k (.map b)) lits
def Qli:List Cell→(List Cell→Prop)→Prop
 | [],k=>k []
 |c::cs,k=>Qxd c fun c=>Qli cs fun cs=>k (c::cs)
def fV1:V1→(V1→Prop)→Prop
 |.c x,k=>Qxd x fun x=>k (.c x)
 |.agg cs,k=>Qli cs fun cs=>k (.agg cs)
def QFa:List V1→(List V1→Prop)→Prop
 | [],k=>k []
 |c::cs,k=>fV1 c fun c=>QFa cs fun cs=>k (c::cs)
def fAV:AV→(AV→Prop)→Prop
 |.dead,k=>k .dead
 |.one v,k=>fV1 v fun v=>k (.one v)
 |.tup l,k=>QFa l fun l=>k (.tup l)
def QIq:Blk→(Blk→Prop)→Prop
 |.arr t l,k=>k (.arr t l)
 |.var cs,k=>Qli cs fun cs=>k (.var cs)
 |.mp ka kt vt l,k=>k (.mp ka kt vt l)
def fOB:Option Blk→(Option Blk→Prop)→Prop
 |none,k=>k none
 |some b,k=>QIq b fun b=>k (some b)
def QqS:List Blk→(List Blk→Prop)→Prop
 | [],k=>k []
 |c::cs,k=>QIq c fun c=>QqS cs fun cs=>k (c::cs)
def Qxe:List (Nat×Option Blk)→(List (Nat×Option Blk)→Prop)→Prop
 | [],k=>k []
 |c::cs,k=>QiU c.1 (fun n=>fOB c.2 fun o=>Qxe cs fun cs=>k ((n,o)::cs)) lits
def fL{α:Type}:List α→(List α→Prop)→Prop
 | [],k=>k []
 |c::cs,k=>fL cs fun cs=>k (c::cs)
def QIr(r:Res)(k:AV→List Blk→List (Nat×Option Blk)→Prop):Prop:=fAV r.val fun v=>QqS r.add fun add=>Qxe r.set fun set=>k v add set
def fSt(s:St)(k:St→Prop):Prop:=fL s.tmps fun t=>fL s.heap fun h=>k { tmps:=t,heap:=h }
def Qaz{α:Type}:List Nat→List α→Nat→(Nat→Prop)→Prop
 | [],_,d,k=>k d
 |n::_,[],_,k=>k n
 |_::ns,_::h,d,k=>Qaz ns h d k
theorem QjR(n:Nat)(k:Nat→Prop):∀l,QiU n k l=k n
 | []=>rfl
 |l::ls=>by
  unfold QiU;cases h:Nat.beq n l with
  |true=>rw[Yg h]
  |false=>exact QjR n k ls
theorem QjS:∀(l:List Nat) (k:List Nat→Prop),QsM l k=k l
 | [],k=>rfl
 |n::ns,k=>by unfold QsM;rw[QjR,QjS ns]
theorem QCf(v:Value)(k:Value→Prop):QLa v k=k v:=by cases v<;>rfl
theorem Qoo(c:Cell)(k:Cell→Prop):Qxd c k=k c:=by
 cases c<;>simp only[Qxd,QjR,QCf,QjS]
theorem Qht:∀(l:List Cell) (k:List Cell→Prop),Qli l k=k l
 | [],k=>rfl
 |n::ns,k=>by unfold Qli;rw[Qoo,Qht ns]
theorem QAw(c:V1)(k:V1→Prop):fV1 c k=k c:=by cases c<;>simp only[fV1,Qoo,Qht]
theorem Qhu:∀(l:List V1) (k:List V1→Prop),QFa l k=k l
 | [],k=>rfl
 |n::ns,k=>by unfold QFa;rw[QAw,Qhu ns]
theorem QAx(c:AV)(k:AV→Prop):fAV c k=k c:=by cases c<;>simp only[fAV,QAw,Qhu]
theorem QsN(c:Blk)(k:Blk→Prop):QIq c k=k c:=by cases c<;>simp only[QIq,Qht]
theorem QAy(c:Option Blk)(k:Option Blk→Prop):fOB c k=k c:=by cases c<;>simp only[fOB,QsN]
theorem Qfn:∀(l:List Blk) (k:List Blk→Prop),QqS l k=k l
 | [],k=>rfl
 |n::ns,k=>by unfold QqS;rw[QsN,Qfn ns]
theorem Qop:∀(l:List (Nat×Option Blk)) (k:List (Nat×Option Blk)→Prop),Qxe l k=k l
 | [],k=>rfl
 |n::ns,k=>by unfold Qxe;rw[QjR,QAy,Qop ns]
theorem Qxf{α:Type}:∀(l:List α) (k:List α→Prop),fL l k=k l
 | [],k=>rfl
 |n::ns,k=>by unfold fL;rw[Qxf ns]
theorem QsO(r:Res)(k:AV→List Blk→List (Nat×Option Blk)→Prop):QIr r k=k r.val r.add r.set:=by unfold QIr;rw[QAx,Qfn,Qop]
theorem Qbi(s:St)(k:St→Prop):fSt s k=k s:=by unfold fSt;rw[Qxf,Qxf]
theorem QgH{α:Type}:∀(ns:List Nat) (h:List α) (c d:Nat) (k:Nat→Prop),(∀(i n:Nat),ns[i]?=some n→c+i≤n)→c+h.length≤d→Qaz ns h d k→∃nm,c+h.length≤nm∧k nm
 | [],h,c,d,k,_,h2,h3=>⟨d,h2,h3⟩
 |n::ns,[],c,d,k,h1,_,h3=>⟨n,h1 0 n rfl,h3⟩
 |n::ns,x::h,c,d,k,h1,h2,h3=>by
  obtain⟨nm,h4,h5⟩:=QgH ns h (c+1) d k (fun i m hm=>by have:=h1 (i+1) m (by simpa using hm);omega) (by simp only[Yx] at h2;omega) h3;exact⟨nm,by simp only[Yx];omega,h5⟩
theorem QCg(i n:Nat)(h:lits[i]?=some n):0+i≤n:=by
 have e:lits=List.range 128:=by decide +kernel
 rw[e] at h;rw[List.getElem?_range] at h
 ·injection h with h;omega
 ·rcases Jp i 128 with h1|h1
  ·exact h1
  ·rw[YK (by simpa using h1)] at h;cases h
theorem named{α:Type}{h:List α}{k:Nat→Prop}(hk:Qaz lits h h.length k):∃nm,h.length≤nm∧k nm:=by
 obtain⟨nm,h1,h2⟩:=QgH lits h 0 h.length k QCg (by omega) hk;exact⟨nm,by omega,h2⟩
def QaA(ops:Array Oper)(o:Oper):Option (Option (Tmp×Bool)) :=
 match o.guard with
 |none=>some none
 |some (j,want)=>match ops[j]? with
  |some oj=>match oj.dst with
   |some d=>some (some (d,want))
   |none=>none
  |none=>none
inductive NilG(A X B Y:Prop):Prop where
 |mk:(A→X)→(B→Y)→NilG A X B Y
def Qm7(T:Tab)(st:St)(o:Oper):Option (Bool×Prop×Prop):=match o.op with
 |.binOp op t x (.const (.slice none 0 0)) _=>match T.ty t with
  |some ti=>match ti.desc,op with
   |.slice _,.eql=>match st.eval x with
    |.one (.c (.imm (.slice none 0 0)))=>some (true,True,False)
    |.one (.c c)=>match Qax st.look c with|some ⟨_,l⟩=>some (true,l.length=0,True)|none=>none
    |_=>none
   |.slice _,.neq=>match st.eval x with
    |.one (.c (.imm (.slice none 0 0)))=>some (false,True,False)
    |.one (.c c)=>match Qax st.look c with|some ⟨_,l⟩=>some (false,l.length=0,True)|none=>none
    |_=>none
   |_,_=>none
  |none=>none
 |_=>none
def Qxg(T:Tab)(o:Oper)(nm:Nat)(st:St)(K:St→Prop):Prop :=
 match Qm7 T st o with
 |some (true,A,B)=>NilG A (fSt (st.put o.dst (.cell (bv true))) K) B (fSt (st.put o.dst (.cell (bv false))) K)
 |some (false,A,B)=>NilG A (fSt (st.put o.dst (.cell (bv false))) K) B (fSt (st.put o.dst (.cell (bv true))) K)
 |none=>match dstep T st.eval st.look nm o with
  |some r=>need r.pre (QIr r fun v add set=>fSt ((st.act nm { pre:=none,val:=v,add:=add,set:=set }).put o.dst v) K)
  |none=>False
def Qge(T:Tab)(ops:Array Oper):List Oper→St→(St→Prop)→Prop
 | [],st,K=>K st
 |o::r,st,K=>match QaA ops o with
  |none=>False
  |some none=>Qaz lits st.heap st.heap.length fun nm=>Qxg T o nm st fun st'=>Qge T ops r st' K
  |some (some (d,want))=>match st.tmp d with
   |.one (.c (.imm (.bool b)))=>Br b
     (match want with
       |true=>fSt (st.put (some d) (.cell (bv true))) fun st=>Qaz lits st.heap st.heap.length fun nm=>Qxg T o nm st fun st'=>Qge T ops r st' K
       |false=>fSt ((st.put (some d) (.cell (bv true))).put o.dst (.tup [])) fun st=>Qge T ops r st K)
     (match want with
       |false=>fSt (st.put (some d) (.cell (bv false))) fun st=>Qaz lits st.heap st.heap.length fun nm=>Qxg T o nm st fun st'=>Qge T ops r st' K
       |true=>fSt ((st.put (some d) (.cell (bv false))).put o.dst (.tup [])) fun st=>Qge T ops r st K)
   |.tup []=>fSt (st.put o.dst (.tup [])) fun st=>Qge T ops r st K
   |_=>False
end Go.Fw

