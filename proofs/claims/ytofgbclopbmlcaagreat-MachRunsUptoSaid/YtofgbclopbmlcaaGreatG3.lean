/- Part 3 of the proof. Conditions: none. -/
import Derived.Test.YtofgbclopbmlcaaGreatG2
import Derived.Below
import Derived.Laws.Cells
import Derived.Laws.Rows
namespace Go.Fw
set_option linter.unusedVariables false
set_option linter.unusedSimpArgs false
structure Env where
 w:World
 ρ:Nat→Option Nat
 S:Nat→Prop
 H:Nat→Option Blk
 U:Nat→Prop
def Qu{α:Type}(R:α→List Value→Prop):List α→List Value→Prop
 | [],vs=>vs=[]
 |d::l,vs=>∃r rest,vs=r++rest∧R d r∧Qu R l rest
def SlR{α:Type}(w:World)(S:Nat→Prop)(R:α→List Value→Prop)(l:List α)(v:Value):Prop :=
 ∃a cap,v=.slice a l.length cap∧l.length≤cap ∧
   (l≠[]→∃(ad:Addr) (us:List Value),a=some ad∧S ad.block∧Qu R l us∧∀k u,us[k]?=some u→w.cell? (ad.add k)=some u)
def CR(w:World)(S:Nat→Prop):(t:Ty)→Den t→List Value→Prop
 |.int k,x,vs=>vs=[.int k x]
 |.ints k n,l,vs=>List.length l=n∧vs=List.map (.int k) l
 |.bool,b,vs=>vs=[.bool b]
 |.str,s,vs=>vs=[.string s]
 |.sl t,l,vs=>∃v,vs=[v]∧SlR w S (CR w S t) l v
 |.pair a b,x,vs=>∃r s,vs=r++s∧CR w S a x.1 r∧CR w S b x.2 s
theorem CR.len{w:World}{S:Nat→Prop}:{t:Ty}→{x:Den t}→{vs:List Value}→CR w S t x vs→vs.length=t.size
 |.int _,_,_,h=>by simp only[CR] at h;subst h;rfl
 |.ints _ n,l,_,h=>by simp only[CR] at h;obtain⟨h,rfl⟩:=h;simp[Ty.size,h]
 |.bool,_,_,h=>by simp only[CR] at h;subst h;rfl
 |.str,_,_,h=>by simp only[CR] at h;subst h;rfl
 |.sl _,_,_,h=>by obtain⟨v,rfl,_⟩:=h;rfl
 |.pair a b,x,_,h=>by
  obtain⟨r,s,rfl,h1,h2⟩:=h;simp[Ty.size,h1.len,h2.len]
theorem CR.flat{w w':World}{S S':Nat→Prop}:{t:Ty}→{x:Den t}→{vs:List Value}→t.flat=true→CR w S t x vs→CR w' S' t x vs
 |.int _,_,_,_,h=>h
 |.ints _ _,_,_,_,h=>h
 |.bool,_,_,_,h=>h
 |.str,_,_,_,h=>h
 |.sl _,_,_,hf,_=>by simp[Ty.flat] at hf
 |.pair a b,_,_,hf,⟨r,s,e,h1,h2⟩=>by
  simp[Ty.flat] at hf;exact⟨r,s,e,CR.flat hf.1 h1,CR.flat hf.2 h2⟩
theorem Qu.mono{α:Type}{R R':α→List Value→Prop}(h:∀x vs,R x vs→R' x vs):∀{l:List α} {vs:List Value},Qu R l vs→Qu R' l vs
 | [],_,hl=>hl
 |_::_,_,⟨r,s,e,h1,h2⟩=>⟨r,s,e,h _ _ h1,h2.mono h⟩
theorem Qu.len{α:Type}{R:α→List Value→Prop}{n:Nat}(h:∀x vs,R x vs→vs.length=n):∀{l:List α} {vs:List Value},Qu R l vs→vs.length=l.length*n
 | [],_,hl=>by simp only[Qu] at hl;subst hl;simp
 |_::l,_,⟨r,s,e,h1,h2⟩=>by subst e;simp[h _ _ h1,h2.len h,Nat.add_mul,Nat.add_comm]
theorem Qu.append{α:Type}{R:α→List Value→Prop}:∀{l l':List α} {vs vs':List Value},Qu R l vs→Qu R l' vs'→Qu R (l++l') (vs++vs')
 | [],_,_,_,h,h'=>by simp only[Qu] at h;subst h;exact h'
 |_::_,_,_,_,⟨r,s,e,h1,h2⟩,h'=>by subst e;exact⟨r,_,by simp,h1,h2.append h'⟩
theorem Qu.get{α:Type}{R:α→List Value→Prop}{n:Nat}(hn:∀x vs,R x vs→vs.length=n):∀{l:List α} {vs:List Value} {i:Nat},Qu R l vs→(hi:i<l.length) →
 ∃a r b,vs=a++r++b∧a.length=i*n∧R l[i] r
 |x::l,_,0,⟨r,s,e,h1,h2⟩,_=>⟨[],r,s,by simpa using e,by simp,h1⟩
 |x::l,_,i+1,⟨r,s,e,h1,h2⟩,hi=>by
  obtain⟨a,r',b,rfl,ha,hr⟩:=h2.get hn (i:=i) (by simpa using hi);exact⟨r++a,r',b,by simp[e],by simp[ha,hn _ _ h1,Nat.add_mul,Nat.add_comm],by simpa using hr⟩
theorem Qu.set{α:Type}{R:α→List Value→Prop}{n:Nat}(hn:∀x vs,R x vs→vs.length=n){y:α}{ry:List Value}(hy:R y ry):∀{l:List α} {a r b:List Value} {i:Nat},Qu R l (a++r++b)→i<l.length→a.length=i*n→r.length=n →
 Qu R (l.set i y) (a++ry++b)
 |x::l,a,r,b,0,⟨r0,s,e,h1,h2⟩,_,ha,hr=>by
  have:a=[]:=by simpa using ha
  subst this;have h:=List.append_inj (by simpa using e) (by rw[hr,hn _ _ h1]);obtain⟨rfl,rfl⟩:=h;exact⟨ry,b,by simp,hy,h2⟩
 |x::l,a,r,b,i+1,⟨r0,s,e,h1,h2⟩,hi,ha,hr=>by
  have hl:=hn _ _ h1
  have h0:r0=a.take n:=by
   have:=congrArg (List.take n) e;simp[List.take_append,hl,ha,Nat.add_mul] at this;rw[←this]
  have hs:s=a.drop n++r++b:=by
   have:=congrArg (List.drop n) e;simp[List.drop_append,hl,ha,Nat.add_mul] at this;rw[←this];simp
  subst hs;have hda:(a.drop n).length=i*n:=by simp[ha,Nat.add_mul]
  have h3:=h2.set hn hy (i:=i) (by simpa using hi) hda hr;refine⟨r0,a.drop n++ry++b,?_,h1,h3⟩;rw[h0,←List.append_assoc,←List.append_assoc,List.take_append_drop]
theorem SlR.mono{α:Type}{w w':World}{S S':Nat→Prop}{R R':α→List Value→Prop}(hS:∀g,S g→S' g∧w'.heap[g]?=w.heap[g]?)(h:∀x vs,R x vs→R' x vs){l:List α}{v:Value}(hh:SlR w S R l v):SlR w' S' R' l v:=by
 obtain⟨a,cap,e,hc,h2⟩:=hh;refine⟨a,cap,e,hc,fun hne=>?_⟩;obtain⟨ad,us,ha,hs,hl,hcell⟩:=h2 hne;refine⟨ad,us,ha,(hS _ hs).1,hl.mono h,fun k u hu=>?_⟩;have hb:(ad.add k).block=ad.block:=by unfold Addr.add;split<;>rfl
 rw[Go.World.cell?_of_block (w:=w) (by rw[hb];exact(hS _ hs).2)];exact hcell k u hu
theorem CR.mono{w w':World}{S S':Nat→Prop}(hS:∀g,S g→S' g∧w'.heap[g]?=w.heap[g]?):{t:Ty}→{x:Den t}→{vs:List Value}→CR w S t x vs→CR w' S' t x vs
 |.int _,_,_,h=>h
 |.ints _ _,_,_,h=>h
 |.bool,_,_,h=>h
 |.str,_,_,h=>h
 |.sl t,l,_,⟨v,e,h⟩=>⟨v,e,h.mono hS fun _ _ hx=>CR.mono hS hx⟩
 |.pair a b,_,_,⟨r,s,e,h1,h2⟩=>⟨r,s,e,CR.mono hS h1,CR.mono hS h2⟩
def pt(g o:Nat):Value:=.pointer (some ⟨g,o,none⟩)
def QKr(E:Env)(b:Nat)(n sz:Nat)(v:Value):Prop :=
 (E.ρ b=none∧v=.slice none 0 0) ∨
 ∃g cs el cap,E.ρ b=some g∧E.w.heap[g]?=some (.cells cs el (0,0))∧v=.slice (some ⟨g,0,none⟩) n cap∧n≤cap∧cap*sz≤cs.size
def QKs(E:Env)(b off len sz:Nat)(v:Value):Prop :=
 (E.ρ b=none∧len=0∧v=.slice none 0 0) ∨
 ∃(g:Nat) (ad:Addr) (cap:Nat),E.ρ b=some g∧v=.slice (some ad) len cap∧len≤cap∧(0<len→ad=⟨g,off*sz,none⟩)
def QaK(E:Env):Cell→List Value→Prop
 |.imm v,vs=>vs=[v]∧v.oneCell'=true
 |.run k n l,vs=>l.length=n∧vs=l.map (.int k)
 |.ro t l,vs=>∃v,vs=[v]∧SlR E.w E.S (CR E.w E.S t) l v
 |.rptr t l i j,vs=>i<l.length∧∃(ad:Addr) (us:List Value),vs=[.pointer (some (ad.add (i*t.size+j)))]∧E.S ad.block∧Qu (CR E.w E.S t) l us∧∀k u,us[k]?=some u→E.w.cell? (ad.add k)=some u
 |.own b,vs=>∃v,(vs=[v]∧v.oneCell'=true)∧E.U b∧∀t l,E.H b=some (.arr t l)→QKr E b l.length t.size v
 |.sub b off len,vs=>∃v,(vs=[v]∧v.oneCell'=true)∧E.U b∧∀t l,E.H b=some (.arr t l)→off+len≤l.length∧QKs E b off len t.size v
 |.srun b j,vs=>∃v,(vs=[v]∧v.oneCell'=true)∧E.U b∧∀cs c,E.H b=some (.var cs)→QaW cs j=some c→∃g cap,E.ρ b=some g∧v=.slice (some ⟨g,j,none⟩) c.size cap∧c.size≤cap
 |.svar b j n,vs=>∃v,(vs=[v]∧v.oneCell'=true)∧E.U b∧∀cs,E.H b=some (.var cs)→∃g cap,E.ρ b=some g∧v=.slice (some ⟨g,j,none⟩) n cap∧n≤cap
 |.ptr b j,vs=>∃v,(vs=[v]∧v.oneCell'=true)∧E.U b∧∀cs,E.H b=some (.var cs)→∃g,E.ρ b=some g∧v=pt g j
 |.pel b i j,vs=>∃v,(vs=[v]∧v.oneCell'=true)∧E.U b∧∀t l,E.H b=some (.arr t l)→i<l.length→∃g,E.ρ b=some g∧v=pt g (i*t.size+j)
 |.pidx b j i,vs=>∃v,(vs=[v]∧v.oneCell'=true)∧E.U b∧∀cs,E.H b=some (.var cs)→∃g,E.ρ b=some g∧v=pt g (j+i)
 |.fn f bs,vs=>∃caps:Array Value,vs=[.func (.func f) #[] caps]∧caps.size=bs.length ∧
   ∀(i b:Nat),bs[i]?=some b→∃u,caps[i]?=some u∧u.oneCell'=true∧E.U b∧∀cs,E.H b=some (.var cs)→∃g,E.ρ b=some g∧u=pt g 0
 |.ifc t b,vs=>∃v,(vs=[.iface t v]∧v.oneCell'=true)∧E.U b∧∀cs,E.H b=some (.var cs)→∃g,E.ρ b=some g∧v=pt g 0
 |.map b,vs=>∃v,(vs=[v]∧v.oneCell'=true)∧E.U b∧∀ka kt vt l,E.H b=some (.mp ka kt vt l)→∃g,E.ρ b=some g∧v=.map (some g)
def IR(E:Env):List Cell→List Value→Prop
 | [],vs=>vs=[]
 |c::cs,vs=>∃r rest,vs=r++rest∧QaK E c r∧IR E cs rest
def V1R(E:Env):V1→Value→Prop
 |.c x,v=>QaK E x [v]
 |.agg cs,v=>∃vals,v=.agg vals∧IR E cs vals.toList
def VsR(E:Env):List V1→List Value→Prop
 | [],vs=>vs=[]
 |x::xs,vs=>∃v r,vs=v::r∧V1R E x v∧VsR E xs r
def AVR(E:Env):AV→Value→Prop
 |.dead,_=>True
 |.one x,v=>V1R E x v
 |.tup l,v=>∃vs,v=.tuple vs∧VsR E l vs.toList
def KV(ka:Bool)(kt:Ty)(d:Den kt)(v:Value):Prop:=∃vs,(∀w S,CR w S kt d vs)∧((ka=true∧v=.agg vs.toArray)∨(ka=false∧vs=[v]))
def QmS(ka:Bool)(kt vt:Ty):List (Den kt×Den vt)→List MapEntry→Prop
 | [],[]=>True
 |p::l,e::es=>KV ka kt p.1 e.key∧(∀w S,CR w S vt p.2 [e.val])∧QmS ka kt vt l es
 |_,_=>False
def Qoc(E:Env)(b:Nat):Blk→Prop
 |.arr t l=>(E.ρ b=none∧l=[])∨∃g cs el us spare,E.ρ b=some g∧E.w.heap[g]?=some (.cells cs el (0,0))∧cs.toList=us++spare∧Qu (CR E.w E.S t) l us
 |.var is=>∃g cs el,E.ρ b=some g∧E.w.heap[g]?=some (.cells cs el (0,0))∧IR E is cs.toList
 |.mp ka kt vt l=>∃g es clock,E.ρ b=some g∧E.w.heap[g]?=some (.map es clock)∧QmS ka kt vt l es.toList
structure HeapOk(E:Env):Prop where
 blk:∀b x,E.H b=some x→E.U b∧Qoc E b x∧∀g,E.ρ b=some g→¬E.S g
 inj:∀b b' x x' g,E.H b=some x→E.H b'=some x'→E.ρ b=some g→E.ρ b'=some g→b=b'
 st:∀g,E.S g→g<E.w.heap.size
inductive Shp where
 |arr (t:Ty) (n:Nat)
 |var (l:List Nat)
 |mp (ka:Bool) (kt vt:Ty)
def shape:Blk→Shp
 |.arr t l=>.arr t l.length
 |.var cs=>.var (cs.map Cell.size)
 |.mp ka kt vt _=>.mp ka kt vt
structure Ext(E E':Env):Prop where
 S:∀g,E.S g→E'.S g∧E'.w.heap[g]?=E.w.heap[g]?
 U:∀b,E.U b→E'.U b
 H:∀b x',E.U b→E'.H b=some x'→∃x,E.H b=some x∧E'.ρ b=E.ρ b∧shape x'=shape x ∧
  ∀g cs el,E.ρ b=some g→E.w.heap[g]?=some (.cells cs el (0,0))→∃cs',E'.w.heap[g]?=some (.cells cs' el (0,0))∧cs'.size=cs.size
theorem Ext.refl(E:Env):Ext E E:=⟨fun g h=>⟨h,rfl⟩,fun _ h=>h,fun b x' _ h=>⟨x',h,rfl,rfl,fun g cs el _ h=>⟨cs,h,rfl⟩⟩⟩
theorem Ext.trans{E E' E'':Env}(h:Ext E E')(h':Ext E' E''):Ext E E'':=by
 refine⟨fun g hg=>⟨(h'.S g (h.S g hg).1).1,((h'.S g (h.S g hg).1).2).trans (h.S g hg).2⟩,fun b hb=>h'.U b (h.U b hb),fun b x' hb hx=>?_⟩;obtain⟨x1,e1,r1,s1,c1⟩:=h'.H b x' (h.U b hb) hx;obtain⟨x2,e2,r2,s2,c2⟩:=h.H b x1 hb e1;refine⟨x2,e2,r1.trans r2,s1.trans s2,fun g cs el hr hc=>?_⟩;obtain⟨cs',hc',hs'⟩:=c2 g cs el hr hc;obtain⟨cs'',hc'',hs''⟩:=c1 g cs' el (r2.trans hr) hc';exact⟨cs'',hc'',hs''.trans hs'⟩
theorem QcZ{x:Blk}{t:Ty}{l:List (Den t)}(h:shape (.arr t l)=shape x):∃l',x=.arr t l'∧l'.length=l.length:=by
 cases x with
 |arr u l' =>
  simp only[shape] at h;injection h with h1 h2
  subst h1;exact⟨l',rfl,h2.symm⟩
 |var cs=>simp[shape] at h
 |mp ka kt vt l=>simp[shape] at h
theorem QaL{x:Blk}{cs:List Cell}(h:shape (.var cs)=shape x):∃cs',x=.var cs'∧cs'.map Cell.size=cs.map Cell.size:=by
 cases x with
 |arr u l'=>simp[shape] at h
 |var cs' =>
  simp only[shape] at h;injection h with h
  exact⟨cs',rfl,h.symm⟩
 |mp ka kt vt l=>simp[shape] at h
theorem Qod{x:Blk}{ka:Bool}{kt vt:Ty}{l:List (Den kt×Den vt)}(h:shape (.mp ka kt vt l)=shape x):∃l',x=.mp ka kt vt l':=by
 cases x with
 |arr u l'=>simp[shape] at h
 |var cs'=>simp[shape] at h
 |mp ka' kt' vt' l' =>
  simp only[shape] at h;injection h with h1 h2 h3
  subst h1;subst h2;subst h3;exact⟨l',rfl⟩
theorem QeQ:∀{cs cs':List Cell} {j:Nat} {c:Cell},cs'.map Cell.size=cs.map Cell.size→QaW cs j=some c→∃c',QaW cs' j=some c'∧c'.size=c.size
 | [],_,_,_,_,h=>by simp[QaW] at h
 |x::xs,[],_,_,e,_=>by simp at e
 |x::xs,y::ys,j,c,e,h=>by
  simp only[List.map_cons,List.cons.injEq] at e;unfold QaW at h ⊢;cases h0:Nat.beq j 0 with
  |true=>rw[h0] at h;injection h with h;subst h;exact⟨y,rfl,e.1⟩
  |false =>
   rw[h0] at h;simp only at h ⊢;rw[e.1];cases h1:Nat.ble x.size j with
   |true=>rw[h1] at h;exact QeQ e.2 h
   |false=>rw[h1] at h;cases h
theorem QaK.ext{E E':Env}(h:Ext E E'):{c:Cell}→{vs:List Value}→QaK E c vs→QaK E' c vs
 |.imm _,_,hc=>hc
 |.run _ _ _,_,hc=>hc
 |.ro t l,_,⟨v,e,hs⟩=>⟨v,e,hs.mono h.S fun _ _ hx=>hx.mono h.S⟩
 |.rptr t l i j,_,⟨hi,ad,us,e,hs,hl,hc⟩=>by
  refine⟨hi,ad,us,e,(h.S _ hs).1,hl.mono fun _ _ hx=>hx.mono h.S,fun k u hu=>?_⟩;have hb:(ad.add k).block=ad.block:=by unfold Addr.add;split<;>rfl
  rw[Go.World.cell?_of_block (w:=E.w) (by rw[hb];exact(h.S _ hs).2)];exact hc k u hu
 |.own b,_,⟨v,e,hu,hh⟩=>by
  refine⟨v,e,h.U b hu,fun t l hb=>?_⟩;obtain⟨x,hx,hr,hsh,hcs⟩:=h.H b _ hu hb;obtain⟨l',rfl,hl⟩:=QcZ hsh;rcases hh t l' hx with⟨h1,h2⟩|⟨g,cs,el,cap,h1,h2,h3,h4,h5⟩
  ·exact .inl ⟨hr.trans h1,h2⟩
  ·obtain⟨cs',h6,h7⟩:=hcs g cs el h1 h2;exact .inr ⟨g,cs',el,cap,hr.trans h1,h6,by rw[h3,hl],by omega,by omega⟩
 |.sub b off len,_,⟨v,e,hu,hh⟩=>by
  refine⟨v,e,h.U b hu,fun t l hb=>?_⟩;obtain⟨x,hx,hr,hsh,hcs⟩:=h.H b _ hu hb;obtain⟨l',rfl,hl⟩:=QcZ hsh;obtain⟨h0,h1⟩:=hh t l' hx;refine⟨by omega,?_⟩;rcases h1 with⟨h1,h2,h3⟩|⟨g,ad,cap,h1,h2⟩
  ·exact .inl ⟨hr.trans h1,h2,h3⟩
  ·exact .inr ⟨g,ad,cap,hr.trans h1,h2⟩
 |.srun b j,_,⟨v,e,hu,hh⟩=>by
  refine⟨v,e,h.U b hu,fun cs c hb hi=>?_⟩;obtain⟨x,hx,hr,hsh,hcs⟩:=h.H b _ hu hb;obtain⟨cs',rfl,hm⟩:=QaL hsh;obtain⟨c',hc',hs'⟩:=QeQ hm hi;obtain⟨g,cap,h1,h2,h3⟩:=hh cs' c' hx hc';exact⟨g,cap,hr.trans h1,by rw[h2,hs'],by omega⟩
 |.svar b j n,_,⟨v,e,hu,hh⟩=>by
  refine⟨v,e,h.U b hu,fun cs hb=>?_⟩;obtain⟨x,hx,hr,hsh,hcs⟩:=h.H b _ hu hb;obtain⟨cs',rfl,hm⟩:=QaL hsh;obtain⟨g,cap,h1,h2,h3⟩:=hh cs' hx;exact⟨g,cap,hr.trans h1,h2,h3⟩
 |.ptr b j,_,⟨v,e,hu,hh⟩=>by
  refine⟨v,e,h.U b hu,fun cs hb=>?_⟩;obtain⟨x,hx,hr,hsh,hcs⟩:=h.H b _ hu hb;obtain⟨cs',rfl,hm⟩:=QaL hsh;obtain⟨g,h1,h2⟩:=hh cs' hx;exact⟨g,hr.trans h1,h2⟩
 |.pel b i j,_,⟨v,e,hu,hh⟩=>by
  refine⟨v,e,h.U b hu,fun t l hb hi=>?_⟩;obtain⟨x,hx,hr,hsh,hcs⟩:=h.H b _ hu hb;obtain⟨l',rfl,hl⟩:=QcZ hsh;obtain⟨g,h1,h2⟩:=hh t l' hx (by omega);exact⟨g,hr.trans h1,h2⟩
 |.pidx b j i,_,⟨v,e,hu,hh⟩=>by
  refine⟨v,e,h.U b hu,fun cs hb=>?_⟩;obtain⟨x,hx,hr,hsh,hcs⟩:=h.H b _ hu hb;obtain⟨cs',rfl,hm⟩:=QaL hsh;obtain⟨g,h1,h2⟩:=hh cs' hx;exact⟨g,hr.trans h1,h2⟩
 |.fn f bs,_,⟨caps,e,hs,hh⟩=>by
  refine⟨caps,e,hs,fun i b hb=>?_⟩;obtain⟨u,hu1,hu2,hU,hh⟩:=hh i b hb;refine⟨u,hu1,hu2,h.U b hU,fun cs hx'=>?_⟩;obtain⟨x,hx,hr,hsh,hcs⟩:=h.H b _ hU hx';obtain⟨cs',rfl,hm⟩:=QaL hsh;obtain⟨g,h1,h2⟩:=hh cs' hx;exact⟨g,hr.trans h1,h2⟩
 |.ifc t b,_,⟨v,e,hu,hh⟩=>by
  refine⟨v,e,h.U b hu,fun cs hb=>?_⟩;obtain⟨x,hx,hr,hsh,hcs⟩:=h.H b _ hu hb;obtain⟨cs',rfl,hm⟩:=QaL hsh;obtain⟨g,h1,h2⟩:=hh cs' hx;exact⟨g,hr.trans h1,h2⟩
 |.map b,_,⟨v,e,hu,hh⟩=>by
  refine⟨v,e,h.U b hu,fun ka kt vt l hb=>?_⟩;obtain⟨x,hx,hr,hsh,hcs⟩:=h.H b _ hu hb;obtain⟨l',rfl⟩:=Qod hsh;obtain⟨g,h1,h2⟩:=hh ka kt vt l' hx;exact⟨g,hr.trans h1,h2⟩
theorem IR.ext{E E':Env}(h:Ext E E'):∀{cs:List Cell} {vs:List Value},IR E cs vs→IR E' cs vs
 | [],_,hc=>hc
 |_::_,_,⟨r,s,e,h1,h2⟩=>⟨r,s,e,h1.ext h,h2.ext h⟩
theorem V1R.ext{E E':Env}(h:Ext E E'):{x:V1}→{v:Value}→V1R E x v→V1R E' x v
 |.c _,_,hc=>QaK.ext h hc
 |.agg _,_,⟨vals,e,hc⟩=>⟨vals,e,hc.ext h⟩
theorem VsR.ext{E E':Env}(h:Ext E E'):∀{xs:List V1} {vs:List Value},VsR E xs vs→VsR E' xs vs
 | [],_,hc=>hc
 |_::_,_,⟨v,r,e,h1,h2⟩=>⟨v,r,e,h1.ext h,h2.ext h⟩
theorem AVR.ext{E E':Env}(h:Ext E E'):{x:AV}→{v:Value}→AVR E x v→AVR E' x v
 |.dead,_,_=>trivial
 |.one _,_,hc=>V1R.ext h hc
 |.tup _,_,⟨vs,e,hc⟩=>⟨vs,e,hc.ext h⟩
theorem QaK.len{E:Env}:{c:Cell}→{vs:List Value}→QaK E c vs→vs.length=c.size
 |.imm _,_,h=>by obtain⟨rfl,_⟩:=h;rfl
 |.run k n l,_,h=>by obtain⟨h,rfl⟩:=h;simp[Cell.size,h]
 |.ro _ _,_,⟨_,e,_⟩=>by subst e;rfl
 |.rptr _ _ _ _,_,⟨_,_,_,e,_⟩=>by subst e;rfl
 |.own _,_,⟨_,⟨e,_⟩,_⟩=>by subst e;rfl
 |.sub _ _ _,_,⟨_,⟨e,_⟩,_⟩=>by subst e;rfl
 |.srun _ _,_,⟨_,⟨e,_⟩,_⟩=>by subst e;rfl
 |.svar _ _ _,_,⟨_,⟨e,_⟩,_⟩=>by subst e;rfl
 |.ptr _ _,_,⟨_,⟨e,_⟩,_⟩=>by subst e;rfl
 |.pel _ _ _,_,⟨_,⟨e,_⟩,_⟩=>by subst e;rfl
 |.pidx _ _ _,_,⟨_,⟨e,_⟩,_⟩=>by subst e;rfl
 |.fn _ _,_,⟨_,e,_⟩=>by subst e;rfl
 |.ifc _ _,_,⟨_,⟨e,_⟩,_⟩=>by subst e;rfl
 |.map _,_,⟨_,⟨e,_⟩,_⟩=>by subst e;rfl
def sizes(cs:List Cell):Nat:=(cs.map Cell.size).sum
theorem IR.len{E:Env}:∀{cs:List Cell} {vs:List Value},IR E cs vs→vs.length=sizes cs
 | [],_,h=>by simp only[IR] at h;subst h;rfl
 |c::cs,_,⟨r,s,e,h1,h2⟩=>by subst e;simp[sizes,h1.len,h2.len]
theorem IR.append{E:Env}:∀{cs cs':List Cell} {vs vs':List Value},IR E cs vs→IR E cs' vs'→IR E (cs++cs') (vs++vs')
 | [],_,_,_,h,h'=>by simp only[IR] at h;subst h;exact h'
 |_::_,_,_,_,⟨r,s,e,h1,h2⟩,h'=>by subst e;exact⟨r,_,by simp,h1,h2.append h'⟩
theorem CR.items{E:Env}:{t:Ty}→{x:Den t}→{vs:List Value}→CR E.w E.S t x vs→IR E (cells t x) vs
 |.int k,x,_,h=>by simp only[CR] at h;subst h;exact⟨[_],[],rfl,⟨rfl,rfl⟩,rfl⟩
 |.ints k n,l,vs,h=>⟨vs,[],by simp,h,rfl⟩
 |.bool,b,_,h=>by simp only[CR] at h;subst h;exact⟨[_],[],rfl,⟨rfl,rfl⟩,rfl⟩
 |.str,s,_,h=>by simp only[CR] at h;subst h;exact⟨[_],[],rfl,⟨rfl,rfl⟩,rfl⟩
 |.sl t,l,vs,h=>⟨vs,[],by simp,h,rfl⟩
 |.pair a b,x,_,⟨r,s,e,h1,h2⟩=>by subst e;exact h1.items.append h2.items
theorem SlR.one{α:Type}{w:World}{S:Nat→Prop}{R:α→List Value→Prop}{l:List α}{v:Value}(h:SlR w S R l v):v.oneCell'=true:=by
 obtain⟨a,cap,rfl,_⟩:=h;rfl
theorem CR.ones{w:World}{S:Nat→Prop}:{t:Ty}→{x:Den t}→{vs:List Value}→CR w S t x vs→∀u∈vs,u.oneCell'=true
 |.int _,_,_,h=>by simp only[CR] at h;subst h;intro u hu;simp at hu;subst hu;rfl
 |.ints _ n,l,_,h=>by simp only[CR] at h;obtain⟨h,rfl⟩:=h;intro u hu;simp at hu;obtain⟨y,_,rfl⟩:=hu;rfl
 |.bool,_,_,h=>by simp only[CR] at h;subst h;intro u hu;simp at hu;subst hu;rfl
 |.str,_,_,h=>by simp only[CR] at h;subst h;intro u hu;simp at hu;subst hu;rfl
 |.sl _,_,_,h=>by obtain⟨v,rfl,h⟩:=h;intro u hu;simp at hu;subst hu;exact h.one
 |.pair a b,x,_,h=>by
  obtain⟨r,s,rfl,h1,h2⟩:=h;intro u hu;rcases List.mem_append.1 hu with hu|hu
  ·exact h1.ones u hu
  ·exact h2.ones u hu
theorem QaK.ones{E:Env}:{c:Cell}→{vs:List Value}→QaK E c vs→∀u∈vs,u.oneCell'=true
 |.imm _,_,h=>by obtain⟨rfl,h⟩:=h;simpa using h
 |.run k n l,_,h=>by obtain⟨h,rfl⟩:=h;intro u hu;simp at hu;obtain⟨y,_,rfl⟩:=hu;rfl
 |.ro _ _,_,⟨_,e,h⟩=>by subst e;simpa using h.one
 |.rptr _ _ _ _,_,⟨_,_,_,e,_⟩=>by subst e;simp[Value.oneCell']
 |.own _,_,⟨_,⟨e,h⟩,_⟩=>by subst e;simpa using h
 |.sub _ _ _,_,⟨_,⟨e,h⟩,_⟩=>by subst e;simpa using h
 |.srun _ _,_,⟨_,⟨e,h⟩,_⟩=>by subst e;simpa using h
 |.svar _ _ _,_,⟨_,⟨e,h⟩,_⟩=>by subst e;simpa using h
 |.ptr _ _,_,⟨_,⟨e,h⟩,_⟩=>by subst e;simpa using h
 |.pel _ _ _,_,⟨_,⟨e,h⟩,_⟩=>by subst e;simpa using h
 |.pidx _ _ _,_,⟨_,⟨e,h⟩,_⟩=>by subst e;simpa using h
 |.fn _ _,_,⟨_,e,_⟩=>by subst e;simp[Value.oneCell']
 |.ifc _ _,_,⟨_,⟨e,_⟩,_⟩=>by subst e;simp[Value.oneCell']
 |.map _,_,⟨_,⟨e,h⟩,_⟩=>by subst e;simpa using h
theorem IR.ones{E:Env}:∀{cs:List Cell} {vs:List Value},IR E cs vs→∀u∈vs,u.oneCell'=true
 | [],_,h=>by simp only[IR] at h;subst h;simp
 |_::_,_,⟨r,s,e,h1,h2⟩=>by
  subst e;intro u hu;rcases List.mem_append.1 hu with hu|hu
  ·exact h1.ones u hu
  ·exact h2.ones u hu
theorem Qu.ones{α:Type}{R:α→List Value→Prop}(h:∀x vs,R x vs→∀u∈vs,u.oneCell'=true):∀{l:List α} {vs:List Value},Qu R l vs→∀u∈vs,u.oneCell'=true
 | [],_,hl=>by simp only[Qu] at hl;subst hl;simp
 |_::_,_,⟨r,s,e,h1,h2⟩=>by
  subst e;intro u hu;rcases List.mem_append.1 hu with hu|hu
  ·exact h _ _ h1 u hu
  ·exact h2.ones h u hu
structure Frame where
 w0:World
 own0:Nat→Prop
 S0:Nat→Prop
structure FrameOk(F:Frame)(E:Env):Prop where
 os:E.w.os=F.w0.os
 tape:E.w.tape=F.w0.tape
 output:E.w.output=F.w0.output
 size:F.w0.heap.size≤E.w.heap.size
 old:∀g,g<F.w0.heap.size→¬F.own0 g→E.w.heap[g]?=F.w0.heap[g]?
 own:∀b x g,E.H b=some x→E.ρ b=some g→F.w0.heap.size≤g∨F.own0 g
 S:∀g,E.S g→F.S0 g∨F.w0.heap.size≤g∨F.own0 g
def Qf5:(Nat→Option Blk)→List (Nat×Option Blk)→Nat→Option Blk
 |H,[]=>H
 |H,(b,o)::r=>Qf5 (fun x=>if x=b then o else H x) r
def addF:(Nat→Option Blk)→Nat→List Blk→Nat→Option Blk
 |H,_,[]=>H
 |H,n,x::r=>addF (fun y=>if y=n then some x else H y) (n+1) r
structure Step(E:Env)(r:Res)(nm:Nat)(E':Env):Prop where
 ext:Ext E E'
 ok:HeapOk E'
 H:∀b,E'.H b=addF (Qf5 E.H r.set) nm r.add b
 U:∀b,E'.U b↔(E.U b∨(nm≤b∧b<nm+r.add.length))
 fr:∀F,FrameOk F E→FrameOk F E'
theorem Step.same{E:Env}{r:Res}{nm:Nat}(hH:HeapOk E)(h1:r.add=[])(h2:r.set=[]):Step E r nm E :=
 ⟨.refl E,hH,fun b=>by rw[h1,h2];rfl,fun b=>by rw[h1];simp;omega,fun _ h=>h⟩
def SU(E:Env)(us:List Nat)(g:Nat):Prop:=E.S g∨∃u x,u∈us∧E.H u=some x∧E.ρ u=some g
theorem SU.of{E:Env}{us:List Nat}{g:Nat}(h:E.S g):SU E us g:=.inl h
theorem SU.mono{E:Env}{us us':List Nat}(hs:∀u,u∈us→u∈us'){g:Nat}(h:SU E us g):SU E us' g :=
 h.imp id fun⟨u,x,hu,hx,hr⟩=>⟨u,x,hs u hu,hx,hr⟩
theorem CR.su{E:Env}{us:List Nat}{t:Ty}{x:Den t}{vs:List Value}(h:CR E.w E.S t x vs):CR E.w (SU E us) t x vs :=
 h.mono fun _ hg=>⟨.inl hg,rfl⟩
theorem CR.su_mono{E:Env}{us us':List Nat}(hs:∀u,u∈us→u∈us'){t:Ty}{x:Den t}{vs:List Value}(h:CR E.w (SU E us) t x vs):CR E.w (SU E us') t x vs :=
 h.mono fun _ hg=>⟨hg.mono hs,rfl⟩
theorem cell_at{w:World}{g:Nat}{cs:Array Value}{el:TypeId}{fr:Nat×Nat}(h:w.heap[g]?=some (.cells cs el fr))(o:Nat):w.cell? ⟨g,o,none⟩=cs[o]?:=by
 simp[World.cell?,h]
theorem Qbx(g o k:Nat):(⟨g,o,none⟩:Addr).add k=⟨g,o+k,none⟩:=by
 unfold Addr.add;split<;>simp_all
theorem Qgx{w:World}{S:Nat→Prop}{k:IntKind}:∀(l:List Int),Qu (CR w S (.int k)) l (l.map (.int k))
 | []=>rfl
 |x::l=>⟨[.int k x],l.map (.int k),rfl,rfl,Qgx l⟩
theorem Qu.take_drop{α:Type}{R:α→List Value→Prop}{n:Nat}(hn:∀x vs,R x vs→vs.length=n):∀{l:List α} {vs:List Value} (k:Nat),Qu R l vs →
 Qu R (l.take k) (vs.take (k*n))∧Qu R (l.drop k) (vs.drop (k*n))
 |l,vs,0,h=>by simp;exact⟨rfl,h⟩
 | [],vs,k+1,h=>by simp only[Qu] at h;subst h;simp;exact rfl
 |x::l,_,k+1,⟨r,s,e,h1,h2⟩=>by
  subst e;have hl:=hn _ _ h1;obtain⟨h3,h4⟩:=h2.take_drop hn k
  have e1:(r++s).take ((k+1)*n)=r++s.take (k*n):=by
   rw[List.take_append,hl,show(k+1)*n-n=k*n from by rw[Nat.add_mul];omega,List.take_of_length_le (by rw[hl,Nat.add_mul];omega)]
  have e2:(r++s).drop ((k+1)*n)=s.drop (k*n):=by
   rw[List.drop_append,hl,show(k+1)*n-n=k*n from by rw[Nat.add_mul];omega,List.drop_of_length_le (by rw[hl,Nat.add_mul];omega)];simp
  rw[e1,e2];exact⟨⟨r,_,rfl,h1,h3⟩,h4⟩
theorem Qf{t:Ty}(h:t=t)(l:List (Den t)):Qf0 h l=l:=rfl
theorem Qcj{E:Env}{look:Nat→Option Blk}(hH:HeapOk E)(hl:∀b x,look b=some x→E.H b=some x){c:Cell}{v:Value}{t:Ty}{l:List (Den t)}
 (h:Qar look c=some ⟨t,l⟩) (hc:QaK E c [v]):SlR E.w (SU E c.names) (CR E.w E.S t) l v:=by
 cases c with
 |ro u l' =>
  simp only[Qar,Option.some.injEq,Sigma.mk.injEq] at h;obtain⟨rfl,h⟩:=h;have h:=eq_of_heq h;subst h;obtain⟨v',e,hs⟩:=hc;injection e with e
  subst e;exact hs.mono (fun _ hg=>⟨.inl hg,rfl⟩) fun _ _ hx=>hx
 |own b =>
  simp only[Qar] at h;obtain⟨v',⟨e,_⟩,hu,hh⟩:=hc;injection e with e
  subst e;cases hb:look b with
  |none=>rw[hb] at h;cases h
  |some x =>
   rw[hb] at h;cases x with
   |var _=>cases h
   |mp _ _ _ _=>cases h
   |arr u l' =>
    simp only[Option.some.injEq,Sigma.mk.injEq] at h;obtain⟨rfl,h⟩:=h;have h:=eq_of_heq h;subst h;have hx:=hl _ _ hb;obtain⟨_,hbr,_⟩:=hH.blk _ _ hx;rcases hh _ _ hx with⟨h1,rfl⟩|⟨g,cs,el,cap,h1,h2,rfl,h4,h5⟩
    ·rcases hbr with⟨_,rfl⟩|⟨g,_,_,_,_,h6,_⟩
     ·exact⟨none,0,rfl,Nat.le_refl _,fun hne=>absurd rfl hne⟩
     ·rw[h1] at h6;cases h6
    ·refine⟨_,cap,rfl,h4,fun hne=>?_⟩;rcases hbr with⟨h6,rfl⟩|⟨g',cs',el',us,spare,h6,h7,h8,h9⟩
     ·exact absurd rfl hne
     ·rw[h1] at h6;injection h6 with h6;subst h6
      refine⟨_,us,rfl,.inr ⟨b,_,by simp[Cell.names],hx,h1⟩,h9,fun k u hu=>?_⟩;rw[Qbx,cell_at h7,Nat.zero_add,←Array.getElem?_toList,h8,List.getElem?_append_left (by exact(List.getElem?_eq_some_iff.1 hu).1)];exact hu
 |sub b off len =>
  simp only[Qar] at h;obtain⟨v',⟨e,_⟩,hu,hh⟩:=hc;injection e with e
  subst e;cases hb:look b with
  |none=>rw[hb] at h;cases h
  |some x =>
   rw[hb] at h;cases x with
   |var _=>cases h
   |mp _ _ _ _=>cases h
   |arr u l' =>
    simp only[Option.some.injEq,Sigma.mk.injEq] at h;obtain⟨rfl,h⟩:=h;have h:=eq_of_heq h;subst h;have hx:=hl _ _ hb;obtain⟨_,hbr,_⟩:=hH.blk _ _ hx;obtain⟨h0,hh⟩:=hh _ _ hx;have hlen:((l'.drop off).take len).length=len:=by simp;omega
    rcases hh with⟨h1,h2,rfl⟩|⟨g,ad,cap,h1,rfl,h4,h5⟩
    ·subst h2;exact⟨none,0,by simp,by simp,fun hne=>absurd (by simp) hne⟩
    ·refine⟨_,cap,by rw[hlen],by rw[hlen];exact h4,fun hne=>?_⟩
     have hpos:0<len:=by
      rcases Nat.eq_zero_or_pos len with e|e
      ·subst e;exact absurd (by simp) hne
      ·exact e
     rcases hbr with⟨h6,rfl⟩|⟨g',cs',el',us,spare,h6,h7,h8,h9⟩
     ·simp at h0;omega
     ·rw[h1] at h6;injection h6 with h6;subst h6
      have h10:=((h9.take_drop (fun _ _ hx=>hx.len) off).2.take_drop (fun _ _ hx=>hx.len) len).1;refine⟨ad,_,rfl,.inr ⟨b,_,by simp[Cell.names],hx,by rw[h1,h5 hpos]⟩,h10,fun k u hu=>?_⟩;rw[h5 hpos,Qbx,cell_at h7,←Array.getElem?_toList,h8];rw[List.getElem?_take] at hu;split at hu
      ·rw[List.getElem?_drop] at hu;rw[List.getElem?_append_left (by exact(List.getElem?_eq_some_iff.1 hu).1)];exact hu
      ·cases hu
 |srun b j =>
  simp only[Qar] at h;obtain⟨v',⟨e,_⟩,hu,hh⟩:=hc;injection e with e
  subst e;cases hb:look b with
  |none=>rw[hb] at h;cases h
  |some x =>
   rw[hb] at h;cases x with
   |arr _ _=>cases h
   |mp _ _ _ _=>cases h
   |var cs =>
    simp only at h;cases hi:QaW cs j with
    |none=>rw[hi] at h;cases h
    |some c =>
     rw[hi] at h;cases c with
     |run k n l' =>
      simp only[Option.some.injEq,Sigma.mk.injEq] at h;obtain⟨rfl,h⟩:=h;have h:=eq_of_heq h;subst h;have hx:=hl _ _ hb;obtain⟨_,⟨g',cs',el',h6,h7,h8⟩,_⟩:=hH.blk _ _ hx;obtain⟨g,cap,h1,rfl,h3⟩:=hh _ _ hx hi;rw[h1] at h6;injection h6 with h6;subst h6
      have key:∀(cs:List Cell) (vs:List Value) (j:Nat),IR E cs vs→QaW cs j=some (.run k n l')→l'.length=n∧∀i (u:Int),l'[i]?=some u→vs[j+i]?=some (.int k u):=by
       intro cs
       induction cs with
       |nil=>intro vs j _ h;simp[QaW] at h
       |cons c cs ih =>
        rintro vs j ⟨r,rest,rfl,hr,hrest⟩ h
        unfold QaW at h;cases h0:Nat.beq j 0 with
        |true =>
         rw[h0] at h;injection h with h
         subst h;obtain⟨hlen,rfl⟩:=hr;have:j=0:=Nat.eq_of_beq_eq_true h0;subst this;refine⟨hlen,fun i u hu=>?_⟩;rw[Nat.zero_add,List.getElem?_append_left (by simpa using(List.getElem?_eq_some_iff.1 hu).1)];simp[hu]
        |false =>
         rw[h0] at h;simp only at h;cases h1:Nat.ble c.size j with
         |true =>
          rw[h1] at h;have hle:=Nat.le_of_ble_eq_true h1;obtain⟨hlen,hk⟩:=ih rest (j-c.size) hrest h;refine⟨hlen,fun i u hu=>?_⟩;rw[List.getElem?_append_right (by rw[hr.len];omega),hr.len,show j+i-c.size=j-c.size+i from by omega];exact hk i u hu
         |false=>rw[h1] at h;cases h
      obtain⟨hlen,hk⟩:=key cs cs'.toList j h8 hi;refine⟨_,cap,by rw[hlen];rfl,by rw[hlen];exact h3,fun hne=>⟨_,l'.map (.int k),rfl,.inr ⟨b,_,by simp[Cell.names],hx,h1⟩,Qgx l',fun i u hu=>?_⟩⟩;rw[Qbx,cell_at h7,←Array.getElem?_toList];rw[List.getElem?_map] at hu;cases hi':l'[i]? with
      |none=>rw[hi'] at hu;cases hu
      |some y =>
       rw[hi'] at hu;injection hu with hu
       subst hu;exact hk i y hi'
     |_=>cases h
 |_=>simp[Qar] at h
theorem QjG{E:Env}{look:Nat→Option Blk}(hH:HeapOk E)(hl:∀b x,look b=some x→E.H b=some x){c:Cell}{v:Value}{t:Ty}{l:List (Den t)}
 (h:Qsa look t c=some l) (hc:QaK E c [v]):SlR E.w (SU E c.names) (CR E.w E.S t) l v:=by
 unfold Qsa at h;split at h
 ·injection h with h
  subst h;obtain⟨e,_⟩:=hc;injection e with e
  subst e;exact⟨none,0,rfl,Nat.le_refl _,fun hne=>absurd rfl hne⟩
 ·split at h
  ·rename_i u l' hs;split at h
   ·rename_i he hq;injection h with h
    obtain rfl:=he.down;subst h;exact Qcj hH hl hs hc
   ·cases h
  ·cases h
theorem Qqv{look:Nat→Option Blk}{c:Cell}{t:Ty}{l:List (Den t)}(h:Qsa look t c=some l) :
 QHA c=c.names∨∀E v,QaK E c [v]→l=[]∧v=.slice none 0 0:=by
 unfold Qsa at h;split at h
 ·refine .inr fun E v hc=>?_
  injection h with h
  obtain⟨e,_⟩:=hc;injection e with e
  exact⟨h.symm,e⟩
 ·cases c<;>first|exact .inl rfl|(simp[Qar] at h)
theorem QBn{E:Env}{look:Nat→Option Blk}(hH:HeapOk E)(hl:∀b x,look b=some x→E.H b=some x):∀{t:Ty} {cs rest:List Cell} {vs:List Value} {d:Den t} {us:List Nat},
 dec look t cs=some (d,us,rest)→IR E cs vs→∃a b,vs=a++b∧CR E.w (SU E us) t d a∧IR E rest b:=by
 intro t
 induction t with
 |int k =>
  intro cs rest vs d us h hr;unfold dec at h;split at h
  ·split at h
   ·rename_i hk;simp only[Option.some.injEq,Prod.mk.injEq] at h;obtain⟨rfl,rfl,rfl⟩:=h;obtain⟨a,b,rfl,⟨rfl,_⟩,hb⟩:=hr;have:=of_decide_eq_true hk;subst this;exact⟨_,b,rfl,rfl,hb⟩
   ·cases h
  ·cases h
 |ints k n =>
  intro cs rest vs d us h hr;unfold dec at h;split at h
  ·split at h
   ·rename_i hk;simp only[Option.some.injEq,Prod.mk.injEq] at h;obtain⟨rfl,rfl,rfl⟩:=h;obtain⟨a,b,rfl,⟨hlen,rfl⟩,hb⟩:=hr;rw[Bool.and_eq_true] at hk;have h1:=of_decide_eq_true hk.1;have h2:=Nat.eq_of_beq_eq_true hk.2;subst h1 h2;exact⟨_,b,rfl,⟨hlen,rfl⟩,hb⟩
   ·cases h
  ·cases h
 |bool =>
  intro cs rest vs d us h hr;unfold dec at h;split at h
  ·simp only[Option.some.injEq,Prod.mk.injEq] at h;obtain⟨rfl,rfl,rfl⟩:=h;obtain⟨a,b,rfl,⟨rfl,_⟩,hb⟩:=hr;exact⟨_,b,rfl,rfl,hb⟩
  ·cases h
 |str =>
  intro cs rest vs d us h hr;unfold dec at h;split at h
  ·simp only[Option.some.injEq,Prod.mk.injEq] at h;obtain⟨rfl,rfl,rfl⟩:=h;obtain⟨a,b,rfl,⟨rfl,_⟩,hb⟩:=hr;exact⟨_,b,rfl,rfl,hb⟩
  ·cases h
 |sl t ih =>
  intro cs rest vs d us h hr;unfold dec at h;cases cs with
  |nil=>cases h
  |cons c r =>
   simp only at h;cases hs:Qsa look t c with
   |none=>rw[hs] at h;cases h
   |some l =>
    rw[hs] at h;simp only[Option.some.injEq,Prod.mk.injEq] at h;obtain⟨rfl,hus,rfl⟩:=h;obtain⟨a,b,rfl,ha,hb⟩:=hr
    have hone:∃v,a=[v]:=by
     have hlen:=ha.len
     have:c.size=1:=by
      unfold Qsa at hs;cases c<;>first|rfl|(simp[Qar] at hs)
     rw[this] at hlen
     match a,hlen with
     | [v],_=>exact⟨v,rfl⟩
    obtain⟨v,rfl⟩:=hone;refine⟨[v],b,rfl,⟨v,rfl,?_⟩,hb⟩;rcases Qqv hs with hn|hn
    ·rw[hn] at hus;subst hus;exact(QjG hH hl hs ha).mono (fun _ hg=>⟨hg,rfl⟩) fun _ _ hx=>hx.su
    ·obtain⟨rfl,rfl⟩:=hn E v ha;exact⟨none,0,rfl,Nat.le_refl _,fun hne=>absurd rfl hne⟩
 |pair t1 t2 ih1 ih2 =>
  intro cs rest vs d us h hr;unfold dec at h;cases h1:dec look t1 cs with
  |none=>rw[h1] at h;cases h
  |some x =>
   obtain⟨x,u,r⟩:=x;rw[h1] at h;simp only at h;cases h2:dec look t2 r with
   |none=>rw[h2] at h;cases h
   |some y =>
    obtain⟨y,u',r'⟩:=y;rw[h2] at h;simp only[Option.some.injEq,Prod.mk.injEq] at h;obtain⟨rfl,rfl,rfl⟩:=h;obtain⟨a,b,rfl,ha,hb⟩:=ih1 h1 hr;obtain⟨a',b',rfl,ha',hb'⟩:=ih2 h2 hb;exact⟨a++a',b',by simp,⟨a,a',rfl,ha.su_mono (by simp +contextual),ha'.su_mono (by simp +contextual)⟩,hb'⟩
theorem QbF{E:Env}{look:Nat→Option Blk}(hH:HeapOk E)(hl:∀b x,look b=some x→E.H b=some x){t:Ty}{cs:List Cell}{vs:List Value}{d:Den t}{us:List Nat}
 (h:Qb3 look t cs=some (d,us)) (hr:IR E cs vs):CR E.w (SU E us) t d vs:=by
 unfold Qb3 at h;split at h
 ·rename_i x u hd;simp only[Option.some.injEq,Prod.mk.injEq] at h;obtain⟨rfl,rfl⟩:=h;obtain⟨a,b,rfl,ha,hb⟩:=QBn hH hl hd hr;simp only[IR] at hb;subst hb;simpa using ha
 ·cases h
end Go.Fw

