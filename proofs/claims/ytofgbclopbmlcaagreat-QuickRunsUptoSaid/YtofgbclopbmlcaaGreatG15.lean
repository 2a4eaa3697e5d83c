/- Part 15 of the proof. Conditions: none. -/
import Derived.Test.YtofgbclopbmlcaaGreatG14
namespace Go.Fw
set_option linter.unusedVariables false
set_option linter.unusedSimpArgs false
inductive TTree where
 |leaf
 |node (k:Nat) (ti:TI) (l r:TTree)
def TTree.get(t:Nat):TTree→Option TI
 |.leaf=>none
 |.node k ti l r=>match Nat.beq t k with
  |true=>some ti
  |false=>match Nat.ble t k with|true=>l.get t|false=>r.get t
def zeros(k:IntKind)(vs:List Value):Bool:=vs.all fun v=>match v with|.int k' m=>decide (k'=k)&&decide (m=0)|_=>false
def crZ:Ty→List Value→Bool
 |.int k,vs=>Nat.beq vs.length 1&&zeros k vs
 |.ints k n,vs=>Nat.beq vs.length n&&zeros k vs
 |.bool,vs=>match vs with| [.bool b]=>!b|_=>false
 |.str,vs=>match vs with| [.string s]=>decide (s=ByteArray.empty)|_=>false
 |.sl _,vs=>match vs with| [.slice none n c]=>Nat.beq n 0&&Nat.beq c 0|_=>false
 |.pair a b,vs=>crZ a (vs.take a.size)&&crZ b (vs.drop a.size)
def QHH(a b:Value):Bool:=match a,b with
 |.pointer none,.pointer none=>true
 |.nilFunc,.nilFunc=>true
 |.nilIface,.nilIface=>true
 |.map none,.map none=>true
 |.slice none n c,.slice none n' c'=>decide (n=n')&&decide (c=c')
 |.int k n,.int k' n'=>decide (k=k')&&decide (n=n')
 |.bool b,.bool b'=>b==b'
 |.string s,.string s'=>decide (s=s')
 |_,_=>false
def irZ:List Cell→List Value→Bool
 | [],vs=>vs.isEmpty
 |c::cs,vs=>match c with
  |.imm a=>(match vs with|v::vs=>QHH a v&&irZ cs vs | []=>false)
  |.run k n l=>Nat.beq (vs.take n).length n&&zeros k (vs.take n)&&decide (l=List.replicate n 0)&&irZ cs (vs.drop n)
  |.ro t l=>(match l,vs with| [],.slice none n c::vs=>Nat.beq n 0&&Nat.beq c 0&&irZ cs vs|_,_=>false)
  |_=>false
def QdY(P:Program):List (TypeId×Nat)→List Field→Bool
 | [],[]=>true
 |(u,o)::fs,f::F=>Nat.beq f.type u&&Nat.beq f.offset o&&(P.info? f.type).isSome&&QdY P fs F
 |_,_=>false
def QsJ(P:Program)(t:TypeId)(d:TD):Bool:=match d,P.underlying t with
 |.int k,some (.int k')=>decide (k'=k)
 |.bool,some .bool=>true
 |.str,some .string=>true
 |.slice e,some (.slice e')=>Nat.beq e' e
 |.struct fs,some (.struct F)=>QdY P fs F.toList
 |.array n e,some (.array n' e')=>Nat.beq n' n&&Nat.beq e' e
 |.ptr e,some (.pointer e')=>Nat.beq e' e
 |.iface,some (.interface _)=>true
 |.map k e,some (.map k' e')=>Nat.beq k' k&&Nat.beq e' e
 |.other,some d=>!Qsl d
 |_,_=>false
def QzR(P:Program)(t:TypeId)(ti:TI):Bool:=match ti.cmp with|true=>QwS P ti.ety t|false=>true
def QzS:Value→Bool
 |.agg _=>false
 |_=>true
theorem QsK{z:Value}(h:QzS z=true):z.cells.toList=[z]:=by cases z<;>first|rfl|cases h
def QBD(P:Program)(t:TypeId)(ti:TI):Bool:=QzR P t ti&&(QsJ P t ti.desc&&match P.info? t with
 |none=>false
 |some i=>match i.zero with
  |none=>false
  |some z=>Nat.beq i.size ti.size&&Nat.beq i.bytes ti.bytes&&irZ ti.zero z.cells.toList&&Nat.beq z.cells.size ti.size&&(ti.isAgg||QzS z) &&
   match ti.ety with
   |none=>true
   |some u=>Nat.beq u.size ti.size&&crZ u z.cells.toList)
def QeX(P:Program):TTree→Bool
 |.leaf=>true
 |.node k ti l r=>QBD P k ti&&QeX P l&&QeX P r
theorem QgU{k:IntKind}:∀{vs:List Value},zeros k vs=true→vs=(List.replicate vs.length (0:Int)).map (.int k)
 | [],_=>rfl
 |v::vs,h=>by
  simp only[zeros,List.all_cons,Bool.and_eq_true] at h;obtain⟨h1,h2⟩:=h;have:=QgU (vs:=vs) h2;cases v with
  |int k' m =>
   simp only[Bool.and_eq_true,decide_eq_true_eq] at h1;obtain⟨rfl,rfl⟩:=h1;simp only[List.length_cons,List.replicate_succ,List.map_cons];rw[←this]
  |_=>simp at h1
theorem QsL{w:World}{S:Nat→Prop}:∀{u:Ty} {vs:List Value},crZ u vs=true→CR w S u (dflt u) vs
 |.int k,vs,h=>by
  simp only[crZ,Bool.and_eq_true] at h;have h1:=Nat.eq_of_beq_eq_true h.1;have h2:=QgU h.2;rw[h1] at h2;show vs=[.int k 0]
  simpa using h2
 |.ints k n,vs,h=>by
  simp only[crZ,Bool.and_eq_true] at h;have h1:=Nat.eq_of_beq_eq_true h.1;have h2:=QgU h.2;rw[h1] at h2;exact⟨by simp[dflt],h2⟩
 |.bool,vs,h=>by
  unfold crZ at h;split at h
  ·simp at h;subst h;rfl
  ·cases h
 |.str,vs,h=>by
  unfold crZ at h;split at h
  ·simp at h;subst h;rfl
  ·cases h
 |.sl t,vs,h=>by
  unfold crZ at h;split at h
  ·simp only[Bool.and_eq_true] at h;have h1:=Nat.eq_of_beq_eq_true h.1;have h2:=Nat.eq_of_beq_eq_true h.2;subst h1;subst h2;exact⟨_,rfl,none,0,rfl,Nat.le_refl _,fun hne=>absurd rfl hne⟩
  ·cases h
 |.pair a b,vs,h=>by
  simp only[crZ,Bool.and_eq_true] at h;exact⟨vs.take a.size,vs.drop a.size,by simp,QsL h.1,QsL h.2⟩
theorem QBE{a b:Value}(h:QHH a b=true):b=a∧a.oneCell'=true:=by
 unfold QHH at h;split at h<;>(try simp only[Bool.and_eq_true,decide_eq_true_eq,beq_iff_eq] at h)
 ·exact⟨rfl,rfl⟩
 ·exact⟨rfl,rfl⟩
 ·exact⟨rfl,rfl⟩
 ·exact⟨rfl,rfl⟩
 ·obtain⟨rfl,rfl⟩:=h;exact⟨rfl,rfl⟩
 ·obtain⟨rfl,rfl⟩:=h;exact⟨rfl,rfl⟩
 ·subst h;exact⟨rfl,rfl⟩
 ·subst h;exact⟨rfl,rfl⟩
 ·cases h
theorem QoG{E:Env}:∀{cs:List Cell} {vs:List Value},irZ cs vs=true→IR E cs vs
 | [],vs,h=>by
   show vs=[]
   simpa[irZ] using h
 |c::cs,vs,h=>by
  unfold irZ at h;split at h
  ·split at h
   ·rename_i a v vs;rw[Bool.and_eq_true] at h;obtain⟨h1,h2⟩:=h;obtain⟨rfl,h3⟩:=QBE h1;exact⟨[_],_,rfl,⟨rfl,h3⟩,QoG h2⟩
   ·cases h
  ·rename_i k n l;simp only[Bool.and_eq_true,decide_eq_true_eq] at h;obtain⟨⟨⟨h1,h2⟩,rfl⟩,h4⟩:=h;have h1:=Nat.eq_of_beq_eq_true h1;have h2:=QgU h2;rw[h1] at h2;exact⟨vs.take n,vs.drop n,by simp,⟨by simp,h2⟩,QoG h4⟩
  ·split at h
   ·simp only[Bool.and_eq_true] at h;obtain⟨⟨h1,h2⟩,h3⟩:=h;have h1:=Nat.eq_of_beq_eq_true h1;have h2:=Nat.eq_of_beq_eq_true h2;subst h1;subst h2;exact⟨[_],_,rfl,⟨_,rfl,none,0,rfl,Nat.le_refl _,fun hne=>absurd rfl hne⟩,QoG h3⟩
   ·cases h
  ·cases h
theorem QgE{P:Program}:∀{fs:List (TypeId×Nat)} {F:List Field},QdY P fs F=true →
 (∀(i:Nat) u o,fs[i]?=some (u,o)→∃f:Field,F[i]?=some f∧f.type=u∧f.offset=o)∧∀f∈F,∃i,P.info? f.type=some i
 | [],[],_=>⟨fun i u o h=>by simp at h,fun f h=>by cases h⟩
 |(u,o)::fs,f::F,h=>by
  simp only[QdY,Bool.and_eq_true] at h;obtain⟨⟨⟨h1,h2⟩,h3⟩,h4⟩:=h;obtain⟨h5,h6⟩:=QgE h4;refine⟨fun i u' o' hi=>?_,fun f' hf=>?_⟩
  ·cases i with
   |zero =>
    simp at hi;obtain⟨rfl,rfl⟩:=hi;exact⟨f,rfl,Nat.eq_of_beq_eq_true h1,Nat.eq_of_beq_eq_true h2⟩
   |succ i=>exact h5 i u' o' (by simpa using hi)
  ·rcases List.mem_cons.1 hf with rfl|hf
   ·exact Option.isSome_iff_exists.1 h3
   ·exact h6 f' hf
 | [],_::_,h=>by cases h
 |_::_,[],h=>by simp[QdY] at h
theorem Qxe{P:Program}{t:TypeId}{ti:TI}(h:QBD P t ti=true):TyOk P t ti:=by
 unfold QBD at h;rw[Bool.and_eq_true,Bool.and_eq_true] at h;obtain⟨h0,h1,h2⟩:=h;refine⟨?_,?_,fun hc=>by unfold QzR at h0;rw[hc] at h0;exact h0,fun hag i z hi hz=>?_⟩
 ·unfold QsJ at h1;split at h1<;>rename_i hd hu<;>simp only[QW,hd]
  ·simp only[decide_eq_true_eq] at h1;subst h1;exact hu
  ·exact hu
  ·exact hu
  ·have:=Nat.eq_of_beq_eq_true h1;subst this;exact hu
  ·obtain⟨h3,h4⟩:=QgE h1;refine⟨_,hu,fun i u o hi=>?_,fun f hf=>h4 f (by simpa using hf)⟩;obtain⟨f,h5,h6⟩:=h3 i u o hi;exact⟨f,by rw[←Array.getElem?_toList];exact h5,h6⟩
  ·rw[Bool.and_eq_true] at h1;have e1:=Nat.eq_of_beq_eq_true h1.1;have e2:=Nat.eq_of_beq_eq_true h1.2;subst e1;subst e2;exact hu
  ·have:=Nat.eq_of_beq_eq_true h1;subst this;exact hu
  ·exact⟨_,hu⟩
  ·rw[Bool.and_eq_true] at h1;have e1:=Nat.eq_of_beq_eq_true h1.1;have e2:=Nat.eq_of_beq_eq_true h1.2;subst e1;subst e2;exact hu
  ·exact⟨_,hu,by simpa using h1⟩
  ·cases h1
 ·split at h2
  ·cases h2
  ·rename_i i hi;split at h2
   ·cases h2
   ·rename_i z hz;simp only[Bool.and_eq_true] at h2;obtain⟨⟨⟨⟨⟨e1,e2⟩,e3⟩,e4⟩,_⟩,e5⟩:=h2;refine⟨i,z,hi,Nat.eq_of_beq_eq_true e1,Nat.eq_of_beq_eq_true e2,hz,fun E=>QoG e3,Nat.eq_of_beq_eq_true e4,fun u hu=>?_⟩;rw[hu] at e5;simp only[Bool.and_eq_true] at e5;exact⟨Nat.eq_of_beq_eq_true e5.1,fun w S=>QsL e5.2⟩
 ·rw[hi] at h2;simp only[hz,Bool.and_eq_true,Bool.or_eq_true] at h2;rcases h2.1.2 with h|h
  ·rw[hag] at h;cases h
  ·exact QsK h
theorem Qgc{P:Program}:∀{T:TTree},QeX P T=true→∀t ti,T.get t=some ti→TyOk P t ti
 |.leaf,_,t,ti,h=>by cases h
 |.node k ti l r,h,t,ti',hg=>by
  simp only[QeX,Bool.and_eq_true] at h;unfold TTree.get at hg;split at hg
  ·rename_i hb;injection hg with hg
   subst hg;rw[Nat.eq_of_beq_eq_true hb];exact Qxe h.1.1
  ·split at hg
   ·exact Qgc h.1.2 t ti' hg
   ·exact Qgc h.2 t ti' hg
def QG0(f:Nat):List (Nat×CSpec)→Option CSpec
 | []=>none
 |(g,s)::r=>match Nat.beq f g with|true=>some s|false=>QG0 f r
def tab(T:TTree)(fs:List (Nat×CSpec)):Tab:={ ty:=fun t=>T.get t,fn:=fun f=>QG0 f fs,meth:=fun _ _=>none }
theorem QzT{P:Program}{T:TTree}{fs:List (Nat×CSpec)}(h:QeX P T=true):TabOk P (tab T fs) :=
 ⟨Qgc h,fun t name f hm=>by cases hm⟩
def QQ(P:Program)(f:Nat)(s:CSpec):Prop:=CSound P f s∧Enters P f
theorem Qb{P:Program}{T:TTree}:Q9 P (tab T []):=fun f s h=>by cases h
structure EatS where
 spec:CSpec
def CSpec.eating(s:CSpec):EatS:=⟨{ s with eat:=true }⟩
theorem QQ.eat{P:Program}{f:Nat}{s:CSpec}(h:QQ P f s):QQ P f s.eating.spec:=⟨h.1,h.2⟩
theorem Qa{P:Program}{T:TTree}{fs:List (Nat×CSpec)}{g:Nat}{s:CSpec}(h:QQ P g s)(hr:Q9 P (tab T fs)):Q9 P (tab T ((g,s)::fs)):=by
 intro f s' hs;have hs:QG0 f ((g,s)::fs)=some s':=hs;unfold QG0 at hs;split at hs
 ·rename_i hb;injection hs with hs
  subst hs;rw[Nat.eq_of_beq_eq_true hb];exact h
 ·exact hr f s' hs
inductive Go(q:Prop):Prop where
 |mk:q→Go q
theorem Go.out{q:Prop}(h:Go q):q:=by cases h;assumption
theorem NilG.go{A X B Y:Prop}(h1:A→Go X)(h2:B→Go Y):NilG A X B Y:=⟨fun h=>(h1 h).out,fun h=>(h2 h).out⟩
theorem Need.go{p q:Prop}(h1:p)(h2:Go q):Need p q:=⟨h1,h2.out⟩
theorem Br.go{b:Bool}{x y:Prop}(h1:b=true→Go x)(h2:b=false→Go y):Br b x y:=Br.mk (fun h=>(h1 h).out) (fun h=>(h2 h).out)
theorem Br.dec{p:Prop}[Decidable p]{x y:Prop}(h1:p→Go x)(h2:¬p→Go y):Br (decide p) x y :=
 Br.mk (fun h=>(h1 (of_decide_eq_true h)).out) (fun h=>(h2 (of_decide_eq_false h)).out)
def QG1:List AV→(List AV→Prop)→Prop
 | [],k=>k []
 |c::cs,k=>fAV c fun c=>QG1 cs fun cs=>k (c::cs)
def QG2:List (Option Blk)→(List (Option Blk)→Prop)→Prop
 | [],k=>k []
 |c::cs,k=>fOB c fun c=>QG2 cs fun cs=>k (c::cs)
def QhC(s:St)(k:St→Prop):Prop:=QG1 s.tmps fun t=>QG2 s.heap fun h=>k { tmps:=t,heap:=h }
theorem QsM:∀(l:List AV) (k:List AV→Prop),QG1 l k=k l
 | [],k=>rfl
 |n::ns,k=>by unfold QG1;rw[QzM,QsM ns]
theorem QsN:∀(l:List (Option Blk)) (k:List (Option Blk)→Prop),QG2 l k=k l
 | [],k=>rfl
 |n::ns,k=>by unfold QG2;rw[QzN,QsN ns]
theorem QsO(s:St)(k:St→Prop):QhC s k=k s:=by unfold QhC;rw[QsM,QsN]
def stepM(T:Tab)(ops:Array Oper)(As:List (List Bool))(efs:List W1)(o:Oper)(i:Nat)(own:List (Nat×Nat×Nat))(st:St)(K:List (Nat×Nat×Nat)→St→Prop):Prop :=
    match Qxc (Qcn As i) i&&Qm5 i o ops.toList As (Qcn As i) with
    |false=>False
    |true=>fWs (QqK i efs As (Qcn As i) lits) fun inc =>
     match Qav ops o with
     |none=>False
     |some none=>Qau lits st.heap st.heap.length fun nm =>
      doM T o (fun t=>QbZ i t ops.toList As (Qcn As i) lits) (fun b=>QgL inc (Qcn As i) b own) (Qr5 efs i) nm st fun st' add=>K (Qfs own i nm add) st'
     |some (some (d,want))=>match Qhu st (fun t=>QbZ i t ops.toList As (Qcn As i) lits) (.tmp d) with
      |.one (.c (.imm (.bool b)))=>Br b
       (fSt (st.put (some d) (.cell (bv true))) fun st=>match want with
         |true=>Qau lits st.heap st.heap.length fun nm =>
          doM T o (fun t=>QbZ i t ops.toList As (Qcn As i) lits) (fun b=>QgL inc (Qcn As i) b own) (Qr5 efs i) nm st fun st' add=>K (Qfs own i nm add) st'
         |false=>fSt (st.put o.dst (.tup [])) fun st=>K own st)
       (fSt (st.put (some d) (.cell (bv false))) fun st=>match want with
         |false=>Qau lits st.heap st.heap.length fun nm =>
          doM T o (fun t=>QbZ i t ops.toList As (Qcn As i) lits) (fun b=>QgL inc (Qcn As i) b own) (Qr5 efs i) nm st fun st' add=>K (Qfs own i nm add) st'
         |true=>fSt (st.put o.dst (.tup [])) fun st=>K own st)
      |.tup []=>fSt (st.put o.dst (.tup [])) fun st=>K own st
      |_=>False
def QG3(T:Tab)(ops:Array Oper)(As:List (List Bool))(efs:List W1)(l:List Oper):List Nat→List (Nat×Nat×Nat)→St→(St→Prop)→Prop :=
 List.rec (motive:=fun _=>List Nat→List (Nat×Nat×Nat)→St→(St→Prop)→Prop) (fun _ _ st K=>K st) (fun o _ ih is own st K=>match is with| []=>False|i::is=>stepM T ops As efs o i own st fun own' st'=>ih is own' st' K) l
theorem QsP(T:Tab)(ops:Array Oper)(As:List (List Bool))(efs:List W1):∀(l:List Oper) (is:List Nat) (own:List (Nat×Nat×Nat)) (st:St) (K:St→Prop),QG3 T ops As efs l is own st K=exM T ops As efs l is own st K
 | [],is,own,st,K=>by cases is<;>rfl
 |o::r,[],own,st,K=>rfl
 |o::r,i::is,own,st,K=>by
  show stepM T ops As efs o i own st (fun own' st'=>QG3 T ops As efs r is own' st' K)=exM T ops As efs (o::r) (i::is) own st K;have e:(fun own' st'=>QG3 T ops As efs r is own' st' K)=fun own' st'=>exM T ops As efs r is own' st' K:=funext fun own'=>funext fun st'=>QsP T ops As efs r is own' st' K
  rw[e];rfl
def QG4(T:Tab)(ops:Array Oper)(st:St)(K:St→Prop):Prop :=
 Qdr ops.toList [] fun As=>fWs (effs T st [] ops.toList) fun efs=>QG3 T ops As efs ops.toList lits [] st K
theorem QBF(T:Tab)(ops:Array Oper)(st:St)(K:St→Prop):QG4 T ops st K=exD T ops st K:=by
 unfold QG4 exD;simp only[QsP]
def QEn(T:Tab)(ops:Array Oper)(o:Oper)(st:St)(K:St→Prop):Prop:=match Qav ops o with
    |none=>False
    |some none=>Qau lits st.heap st.heap.length fun nm=>QwR T o nm st K
    |some (some (d,want))=>match st.tmp d with
     |.one (.c (.imm (.bool b)))=>Br b
       (match want with
         |true=>fSt (st.put (some d) (.cell (bv true))) fun st=>Qau lits st.heap st.heap.length fun nm=>QwR T o nm st K
         |false=>fSt ((st.put (some d) (.cell (bv true))).put o.dst (.tup [])) K)
       (match want with
         |false=>fSt (st.put (some d) (.cell (bv false))) fun st=>Qau lits st.heap st.heap.length fun nm=>QwR T o nm st K
         |true=>fSt ((st.put (some d) (.cell (bv false))).put o.dst (.tup [])) K)
     |.tup []=>fSt (st.put o.dst (.tup [])) K
     |_=>False
def QoH(T:Tab)(ops:Array Oper)(l:List Oper):St→(St→Prop)→Prop :=
 List.rec (motive:=fun _=>St→(St→Prop)→Prop) (fun st K=>K st) (fun o _ ih st K=>QEn T ops o st fun st'=>ih st' K) l
theorem Qlz(T:Tab)(ops:Array Oper):∀(l:List Oper) (st:St) (K:St→Prop),QoH T ops l st K=Qf4 T ops l st K
 | [],st,K=>rfl
 |o::r,st,K=>by
  show QEn T ops o st (fun st'=>QoH T ops r st' K)=Qf4 T ops (o::r) st K;have e:(fun st'=>QoH T ops r st' K)=fun st'=>Qf4 T ops r st' K:=funext fun st'=>Qlz T ops r st' K
  rw[e];rfl
def QHI(iy:St→Cont→Prop)(K:Cont):Cont:=fun e st'=>match e with
 |.normal=>iy st' K
 |.exit i=>K (.exit i) st'
 |.ret=>K .ret st'
 |_=>False
def QzU(id:Nat)(K:Cont):Cont:=fun e st'=>match e with
 |.normal=>K .normal st'
 |.exit i=>(match Nat.beq i id with|true=>K .normal st'|false=>K (.exit i) st')
 |.ret=>K .ret st'
 |_=>False
def QBG(c:Operand)(ix iy:St→Cont→Prop)(st:St)(K:Cont):Prop:=match st.eval c with
 |.one (.c (.imm (.bool b)))=>Br b (fSt (QD5 st c true) fun st=>ix st K) (fSt (QD5 st c false) fun st=>iy st K)
 |_=>False
def QsQ(P:Program)(T:Tab)(m:Nat)(id:Nat)(ops:Array Oper)(d:Bool)(st:St)(K:Cont):Prop:=match d with
 |false=>QoH T ops ops.toList st fun st'=>K .normal st'
 |true=>DrawG P m id ops st fun st'=>K .normal st'
def exR(P:Program)(T:Tab)(m:Nat)(c:Code):St→Cont→Prop :=
 Code.rec (motive:=fun _=>St→Cont→Prop) (fun st K=>K .normal st) (fun id ops d st K=>QsQ P T m id ops d st K) (fun _ _ ix iy st K=>ix st (QHI iy K)) (fun c _ _ ix iy st K=>QBG c ix iy st K)
  (fun id _ ic st K=>ic st (QzU id K)) (fun c _ st K=>LoopG P m c st K) (fun _ _ _ _ _ _ _ _=>False) (fun i st K=>K (.exit i) st) (fun _ _ _ _=>False) (fun _ st K=>K .normal st) (fun _ _ _=>False)
  (fun st K=>K .ret st) (fun _ _ _=>False) c
theorem QzV(P:Program)(T:Tab)(m:Nat):∀(c:Code) (st:St) (K:Cont),exR P T m c st K=ex P T m c st K:=by
 intro c
 induction c with
 |seq x y ihx ihy =>
  intro st K;show exR P T m x st (QHI (exR P T m y) K)=ex P T m x st _;rw[ihx];congr 1;funext e st';cases e<;>simp only[QHI,ihy]
 |cond c x y ihx ihy =>
  intro st K;show QBG c (exR P T m x) (exR P T m y) st K=ex P T m (.cond c x y) st K;have e1:(fun st=>exR P T m x st K)=fun st=>ex P T m x st K:=funext fun st=>ihx st K
  have e2:(fun st=>exR P T m y st K)=fun st=>ex P T m y st K:=funext fun st=>ihy st K
  unfold QBG;rw[e1,e2];rfl
 |block id c ih =>
  intro st K;show exR P T m c st (QzU id K)=ex P T m (.block id c) st K;rw[ih];rfl
 |region id ops d =>
  intro st K;show QsQ P T m id ops d st K=ex P T m (.region id ops d) st K;cases d with
  |false=>exact Qlz T ops _ _ _
  |true=>rfl
 |_=>intro st K;rfl
def QhD(P:Program)(T:Tab)(fn:Func)(args:List V1)(bl:List Blk)(r:AV)(upd:List (Option Blk))(fresh:List Blk):Prop:=match fn.body with
 |some c=>QD4 args fun args=>Qqu bl fun bl=>fSt (st0 fn.ntmps args bl) fun st=>exR P T bl.length c st (QHD P T bl.length fn r upd fresh)
 |none=>False
theorem QhE(P:Program)(T:Tab)(fn:Func)(args:List V1)(bl:List Blk)(r:AV)(upd:List (Option Blk))(fresh:List Blk):QhD P T fn args bl r upd fresh=Qi7 P T fn args bl r upd fresh:=by
 unfold QhD Qi7;cases fn.body with
 |some c=>simp only[QzV]
 |none=>rfl
section
variable {P:Program} {T:Tab}
theorem Qm9(hT:TabOk P T)(hP:Q9 P T){m:Nat}{c:Code}{st:St}{K:Cont}(h:Go (QhC st fun st=>exR P T m c st K)):Does P m c st K:=by
 have:=h.out;rw[QsO,QzV] at this;exact QgS hT hP c this
theorem QBH(hT:TabOk P T)(hP:Q9 P T)(hm:P.follows .mixedOrders=true){m id:Nat}{st:St}{ops:Array Oper}{K:St→Prop}(h:Go (QG4 T ops st K)):DrawG P m id ops st K:=QsI hT hP hm (by have:=h.out;rwa[QBF] at this)
theorem Qxf(hT:TabOk P T)(hP:Q9 P T){m n:Nat}{c:Code}{st:St}{K:Cont}(h:Go (QhC st fun st=>exR P T m c st fun e st'=>match e with|.normal=>RoundG P m c K n st'|e=>K e st')):RoundG P m c K (n+1) st:=QEi (Qm9 hT hP h)
theorem Qai(hT:TabOk P T)(hP:Q9 P T){X:Type}{m:Nat}{c:Code}{st:St}{K:Cont}(S:X→St)(I:X→Prop)(μ:X→Nat)(x0:X)(h0:Le m st (S x0))(hI:I x0)
 (h:∀x,I x→Go (QhC (S x) fun st=>exR P T m c st fun e st'=>match e with|.normal=>∃x',I x'∧μ x'<μ x∧Le m st' (S x')|e=>K e st')):LoopG P m c st K :=
 Qlo S I μ x0 h0 hI fun x hx=>Qm9 hT hP (h x hx)
theorem PSpec.good{f:FuncId}{fn:Func}(hT:TabOk P T)(hP:Q9 P T)(hf:P.funcs[f]?=some fn)(hn:(fn.name == "runtime.NumGoroutine")=false)(s:PSpec)(hb:fn.body.isSome=true)
 (h:QcN s.gs fun xs=>(∀q,(s.out xs).1=some q→q)→Go (QhD P T fn (QaM s.gs xs) [] (s.out xs).2.1 [] (s.out xs).2.2)):QQ P f s.spec:=by
 refine PSpec.sound hT hP hf hn s ?_ hb
 have:∀(gs:List Sig) (p q:Args gs→Prop),(∀x,p x→q x)→QcN gs p→QcN gs q:=by
  intro gs
  induction gs with
  |nil=>intro p q h h1;exact h () h1
  |cons g gs ih=>intro p q h h1 a;exact ih _ _ (fun r=>h (a,r)) (h1 a)
 exact this _ _ _ (fun x hx hp=>by have:=(hx hp).out;rwa[QhE] at this) h
end
theorem Le.trans{m:Nat}{a b c:St}(h1:Le m a b)(h2:Le m b c):Le m a c:=by
 intro E0 E ac hm hs hf;obtain⟨E1,e1,s1,f1⟩:=h1 E0 E ac hm hs hf;obtain⟨E2,e2,s2,f2⟩:=h2 E0 E1 ac hm s1 f1;exact⟨E2,e2.trans e1,s2,f2⟩
theorem Le.nil{m:Nat}{st:St}(i:Nat)(t:Ty)(h:st.tmps[i]?=some (.imm (.slice none 0 0))):Le m st { tmps:=st.tmps.set i (.cell (.own st.heap.length)),heap:=QaJ st.heap st.heap.length (some (.arr t [])) }:=by
 intro E0 E a hm hs hf;have hU:¬E.U st.heap.length:=fun hu=>by have:=hs.U _ hu;omega
 have hstep:Step E { pre:=none,val:=.cell (.own st.heap.length),add:=[.arr t []],set:=[] } st.heap.length (Qb4 E [] st.heap.length t):=Step.nil (us:=[]) hs.ok rfl rfl hU;obtain⟨v,hv1,hv2⟩:=hs.tmp i _ h;obtain⟨e,_⟩:=hv2;injection e with e
 subst e;have hsim:=hs.step (dst:=some i) hstep (Qfq E [] st.heap.length t);refine⟨Qb4 E [] st.heap.length t,rfl,?_,hf.step hstep⟩
 have ha:a.put (some i) (.slice none 0 0)=a:=by
  obtain⟨tm,df⟩:=a;simp only[Act.put,Act.mk.injEq,and_true];apply Array.ext_getElem?;intro j;rw[Array.getElem?_setIfInBounds];by_cases hj:i=j
  ·subst hj;have hv1:tm[i]?=some (.slice none 0 0):=hv1;rw[hv1];simp;exact(Array.getElem?_eq_some_iff.1 hv1).1
  ·simp[hj]
 rw[ha] at hsim;exact hsim
theorem QT(x y:Int):imax x y=max x y:=by unfold imax;omega
theorem QU(x y:Int):imin x y=min x y:=by unfold imin;omega
theorem Qd{k:IntKind}{n m:Int}(h:n=m):AV.one (V1.c (.imm (.int k n)))=AV.one (V1.c (.imm (.int k m))):=by rw[h]
theorem Qi{n m:Bool}(h:n=m):AV.one (V1.c (.imm (.bool n)))=AV.one (V1.c (.imm (.bool m))):=by rw[h]
theorem QiJ{t:Ty}{n m:List (Den t)}(h:n=m):AV.one (V1.c (.ro t n))=AV.one (V1.c (.ro t m)):=by rw[h]
@[reducible] def E1(l:List AV):List AV:=.dead::l
@[reducible] def E2(l:List AV):List AV:=.dead::.dead::l
@[reducible] def E3(l:List AV):List AV:=.dead::.dead::.dead::l
@[reducible] def E5(l:List AV):List AV:=.dead::.dead::.dead::.dead::.dead::l
@[reducible] def E10(l:List AV):List AV:=.dead::.dead::.dead::.dead::.dead::.dead::.dead::.dead::.dead::.dead::l
@[reducible] def E20(l:List AV):List AV:=.dead::.dead::.dead::.dead::.dead::.dead::.dead::.dead::.dead::.dead::.dead::.dead::.dead::.dead::.dead::.dead::.dead::.dead::.dead::.dead::l
@[reducible] def E40(l:List AV):List AV:=.dead::.dead::.dead::.dead::.dead::.dead::.dead::.dead::.dead::.dead::.dead::.dead::.dead::.dead::.dead::.dead::.dead::.dead::.dead::.dead::.dead::.dead::.dead::.dead::.dead::.dead::.dead::.dead::.dead::.dead::.dead::.dead::.dead::.dead::.dead::.dead::.dead::.dead::.dead::.dead::l
theorem R{α:Type _}{a:α}:a=a:=rfl
theorem tabs{P:Program}{T:TTree}{fs:List (Nat×CSpec)}(hP:Q9 P (tab T fs))(h:QeX P T=true):TabOk P (tab T fs):=QzT h
theorem Ea{q:Prop}(h:q):Go q:=⟨h⟩
theorem Eb{p q:Prop}(h1:p)(h2:Go q):Need p q:=⟨h1,h2.out⟩
theorem Ec{A X B Y:Prop}(h1:A→Go X)(h2:B→Go Y):NilG A X B Y:=NilG.go h1 h2
theorem Ed{p:Prop}[Decidable p]{x y:Prop}(h1:p→Go x)(h2:¬p→Go y):Br (decide p) x y:=Br.dec h1 h2
theorem Ee{b:Bool}{x y:Prop}(h1:b=true→Go x)(h2:b=false→Go y):Br b x y:=Br.go h1 h2
theorem Eg{P:Program}{T:Tab}(hT:TabOk P T)(hP:Q9 P T){m n:Nat}{c:Code}{st:St}{K:Cont}(h:Go (QhC st fun st=>exR P T m c st fun e st'=>match e with|.normal=>RoundG P m c K n st'|e=>K e st')):RoundG P m c K (n+1) st:=Qxf hT hP h
theorem PSpec.gd{P:Program}{T:Tab}{f:FuncId}{fn:Func}(hT:TabOk P T)(hP:Q9 P T)(hf:P.funcs[f]?=some fn)(s:PSpec)(h:QcN s.gs fun xs=>(∀q,(s.out xs).1=some q→q)→Go (QhD P T fn (QaM s.gs xs) [] (s.out xs).2.1 [] (s.out xs).2.2))(hn:(fn.name == "runtime.NumGoroutine")=false:=by kernel_rfl)(hb:fn.body.isSome=true:=by rfl):QQ P f s.spec:=s.good hT hP hf hn hb h
theorem Ends.k{P:Program}{T:Tab}{m:Nat}{fn:Func}{r:AV}{upd:List (Option Blk)}{fresh:List Blk}{st:St}(us acc:List Nat)(v:AV)(h:(Qoz T st fn.results.toList,QgC m acc,Qr4 st.look us acc acc,inN acc (fzA st.look us v).names,Nat.beq upd.length m,wkH st.look us acc)=(some v,true,true,true,true,upd++fresh.map some))(he:(fzA st.look us v).rn (idx acc)=r):Ends P T m fn r upd fresh st:=by
 injection h with h1 h;injection h with h2 h;injection h with h3 h;injection h with h4 h;injection h with h5 h6
 exact .mk us acc v h1 h2 h3 h4 h5 h6 he
theorem Le.k{m:Nat}{st st':St}(us acc:List Nat)(h:QgC m acc=true∧Qr4 st.look us acc acc=true∧wkH st.look us acc=st'.heap∧leT st.look us acc st.tmps st'.tmps):Le m st st':=.mk us acc h.1 h.2.1 h.2.2.1 h.2.2.2
theorem Ex{L:Prop}{e:Int}{A:Type}{J:A→Prop}{m:Nat}{st:St}{S:Int→A→St}{i:Int}(a:A)(us acc:List Nat)(h:QgC m acc=true∧Qr4 st.look us acc acc=true∧wkH st.look us acc=(S i a).heap∧leT st.look us acc st.tmps (S i a).tmps)(l:L)(ei:i=e)(hj:J a):∃i a,(L∧i=e∧J a)∧Le m st (S i a):=⟨i,a,⟨l,ei,hj⟩,.k us acc h⟩
end Go.Fw

