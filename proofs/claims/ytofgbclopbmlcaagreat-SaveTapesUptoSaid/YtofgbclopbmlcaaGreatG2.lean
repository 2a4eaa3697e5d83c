/- Part 2 of the proof. Conditions: none. -/
import Derived.Test.YtofgbclopbmlcaaGreatG1
import Derived.Below
import Derived.Laws.Cells
import Derived.Laws.Rows
namespace Go.Fw
set_option linter.unusedVariables false
set_option linter.unusedSimpArgs false
structure Env where
 w:World
 ρ:Nat→Option Nat
 S:Nat→Prop
 H:Nat→Option Blk
 U:Nat→Prop
def Qw{α:Type}(R:α→List Value→Prop):List α→List Value→Prop
 | [],vs=>vs=[]
 |d::l,vs=>∃r rest,vs=r++rest∧R d r∧Qw R l rest
def SlR{α:Type}(w:World)(S:Nat→Prop)(R:α→List Value→Prop)(l:List α)(v:Value):Prop :=
 ∃a cap,v=.slice a l.length cap∧l.length≤cap ∧
   (l≠[]→∃(ad:Addr) (us:List Value),a=some ad∧S ad.block∧Qw R l us∧∀k u,us[k]?=some u→w.cell? (ad.add k)=some u)
def CR(w:World)(S:Nat→Prop):(t:Ty)→Den t→List Value→Prop
 |.int k,x,vs=>vs=[.int k x]
 |.ints k n,l,vs=>List.length l=n∧vs=List.map (.int k) l
 |.bool,b,vs=>vs=[.bool b]
 |.str,s,vs=>vs=[.string s]
 |.sl t,l,vs=>∃v,vs=[v]∧SlR w S (CR w S t) l v
 |.pair a b,x,vs=>∃r s,vs=r++s∧CR w S a x.1 r∧CR w S b x.2 s
theorem CR.len{w:World}{S:Nat→Prop}:{t:Ty}→{x:Den t}→{vs:List Value}→CR w S t x vs→vs.length=t.size
 |.int _,_,_,h=>by simp only[CR] at h;subst h;rfl
 |.ints _ n,l,_,h=>by simp only[CR] at h;obtain⟨h,rfl⟩:=h;simp[Ty.size,h]
 |.bool,_,_,h=>by simp only[CR] at h;subst h;rfl
 |.str,_,_,h=>by simp only[CR] at h;subst h;rfl
 |.sl _,_,_,h=>by obtain⟨v,rfl,_⟩:=h;rfl
 |.pair a b,x,_,h=>by
  obtain⟨r,s,rfl,h1,h2⟩:=h;simp[Ty.size,h1.len,h2.len]
theorem CR.flat{w w':World}{S S':Nat→Prop}:{t:Ty}→{x:Den t}→{vs:List Value}→t.flat=true→CR w S t x vs→CR w' S' t x vs
 |.int _,_,_,_,h=>h
 |.ints _ _,_,_,_,h=>h
 |.bool,_,_,_,h=>h
 |.str,_,_,_,h=>h
 |.sl _,_,_,hf,_=>by simp[Ty.flat] at hf
 |.pair a b,_,_,hf,⟨r,s,e,h1,h2⟩=>by
  simp[Ty.flat] at hf;exact⟨r,s,e,CR.flat hf.1 h1,CR.flat hf.2 h2⟩
theorem Qw.mono{α:Type}{R R':α→List Value→Prop}(h:∀x vs,R x vs→R' x vs):∀{l:List α} {vs:List Value},Qw R l vs→Qw R' l vs
 | [],_,hl=>hl
 |_::_,_,⟨r,s,e,h1,h2⟩=>⟨r,s,e,h _ _ h1,h2.mono h⟩
theorem Qw.len{α:Type}{R:α→List Value→Prop}{n:Nat}(h:∀x vs,R x vs→vs.length=n):∀{l:List α} {vs:List Value},Qw R l vs→vs.length=l.length*n
 | [],_,hl=>by simp only[Qw] at hl;subst hl;simp
 |_::l,_,⟨r,s,e,h1,h2⟩=>by subst e;simp[h _ _ h1,h2.len h,YV,Nat.add_comm]
theorem Qw.append{α:Type}{R:α→List Value→Prop}:∀{l l':List α} {vs vs':List Value},Qw R l vs→Qw R l' vs'→Qw R (l++l') (vs++vs')
 | [],_,_,_,h,h'=>by simp only[Qw] at h;subst h;exact h'
 |_::_,_,_,_,⟨r,s,e,h1,h2⟩,h'=>by subst e;exact⟨r,_,by simp,h1,h2.append h'⟩
theorem Qw.get{α:Type}{R:α→List Value→Prop}{n:Nat}(hn:∀x vs,R x vs→vs.length=n):∀{l:List α} {vs:List Value} {i:Nat},Qw R l vs→(hi:i<l.length) →
 ∃a r b,vs=a++r++b∧a.length=i*n∧R l[i] r
 |x::l,_,0,⟨r,s,e,h1,h2⟩,_=>⟨[],r,s,by simpa using e,by simp,h1⟩
 |x::l,_,i+1,⟨r,s,e,h1,h2⟩,hi=>by
  obtain⟨a,r',b,rfl,ha,hr⟩:=h2.get hn (i:=i) (by simpa using hi);exact⟨r++a,r',b,by simp[e],by simp[ha,hn _ _ h1,YV,Nat.add_comm],by simpa using hr⟩
theorem Qw.set{α:Type}{R:α→List Value→Prop}{n:Nat}(hn:∀x vs,R x vs→vs.length=n){y:α}{ry:List Value}(hy:R y ry):∀{l:List α} {a r b:List Value} {i:Nat},Qw R l (a++r++b)→i<l.length→a.length=i*n→r.length=n →
 Qw R (l.set i y) (a++ry++b)
 |x::l,a,r,b,0,⟨r0,s,e,h1,h2⟩,_,ha,hr=>by
  have:a=[]:=by simpa using ha
  subst this;have h:=List.append_inj (by simpa using e) (by rw[hr,hn _ _ h1]);obtain⟨rfl,rfl⟩:=h;exact⟨ry,b,by simp,hy,h2⟩
 |x::l,a,r,b,i+1,⟨r0,s,e,h1,h2⟩,hi,ha,hr=>by
  have hl:=hn _ _ h1
  have h0:r0=a.take n:=by
   have:=Yv (List.take n) e;simp[List.take_append,hl,ha,YV] at this;rw[←this]
  have hs:s=a.drop n++r++b:=by
   have:=Yv (List.drop n) e;simp[List.drop_append,hl,ha,YV] at this;rw[←this];simp
  subst hs;have hda:(a.drop n).length=i*n:=by simp[ha,YV]
  have h3:=h2.set hn hy (i:=i) (by simpa using hi) hda hr;refine⟨r0,a.drop n++ry++b,?_,h1,h3⟩;rw[h0,←Yy,←Yy,List.take_append_drop]
theorem SlR.mono{α:Type}{w w':World}{S S':Nat→Prop}{R R':α→List Value→Prop}(hS:∀g,S g→S' g∧w'.heap[g]?=w.heap[g]?)(h:∀x vs,R x vs→R' x vs){l:List α}{v:Value}(hh:SlR w S R l v):SlR w' S' R' l v:=by
 obtain⟨a,cap,e,hc,h2⟩:=hh;refine⟨a,cap,e,hc,fun hne=>?_⟩;obtain⟨ad,us,ha,hs,hl,hcell⟩:=h2 hne;refine⟨ad,us,ha,(hS _ hs).1,hl.mono h,fun k u hu=>?_⟩;have hb:(ad.add k).block=ad.block:=by unfold Addr.add;split<;>rfl
 rw[Go.World.cell?_of_block (w:=w) (by rw[hb];exact(hS _ hs).2)];exact hcell k u hu
theorem CR.mono{w w':World}{S S':Nat→Prop}(hS:∀g,S g→S' g∧w'.heap[g]?=w.heap[g]?):{t:Ty}→{x:Den t}→{vs:List Value}→CR w S t x vs→CR w' S' t x vs
 |.int _,_,_,h=>h
 |.ints _ _,_,_,h=>h
 |.bool,_,_,h=>h
 |.str,_,_,h=>h
 |.sl t,l,_,⟨v,e,h⟩=>⟨v,e,h.mono hS fun _ _ hx=>CR.mono hS hx⟩
 |.pair a b,_,_,⟨r,s,e,h1,h2⟩=>⟨r,s,e,CR.mono hS h1,CR.mono hS h2⟩
def pt(g o:Nat):Value:=.pointer (some ⟨g,o,none⟩)
def QMx(E:Env)(b:Nat)(n sz:Nat)(v:Value):Prop :=
 (E.ρ b=none∧v=.slice none 0 0) ∨
 ∃g cs el cap,E.ρ b=some g∧E.w.heap[g]?=some (.cells cs el (0,0))∧v=.slice (some ⟨g,0,none⟩) n cap∧n≤cap∧cap*sz≤cs.size
def QMy(E:Env)(b off len sz:Nat)(v:Value):Prop :=
 (E.ρ b=none∧len=0∧v=.slice none 0 0) ∨
 ∃(g:Nat) (ad:Addr) (cap:Nat),E.ρ b=some g∧v=.slice (some ad) len cap∧len≤cap∧(0<len→ad=⟨g,off*sz,none⟩)
def QaI(E:Env):Cell→List Value→Prop
 |.imm v,vs=>vs=[v]∧v.oneCell'=true
 |.run k n l,vs=>l.length=n∧vs=l.map (.int k)
 |.ro t l,vs=>∃v,vs=[v]∧SlR E.w E.S (CR E.w E.S t) l v
 |.rptr t l i j,vs=>i<l.length∧∃(ad:Addr) (us:List Value),vs=[.pointer (some (ad.add (i*t.size+j)))]∧E.S ad.block∧Qw (CR E.w E.S t) l us∧∀k u,us[k]?=some u→E.w.cell? (ad.add k)=some u
 |.own b,vs=>∃v,(vs=[v]∧v.oneCell'=true)∧E.U b∧∀t l,E.H b=some (.arr t l)→QMx E b l.length t.size v
 |.sub b off len,vs=>∃v,(vs=[v]∧v.oneCell'=true)∧E.U b∧∀t l,E.H b=some (.arr t l)→off+len≤l.length∧QMy E b off len t.size v
 |.srun b j,vs=>∃v,(vs=[v]∧v.oneCell'=true)∧E.U b∧∀cs c,E.H b=some (.var cs)→QaZ cs j=some c→∃g cap,E.ρ b=some g∧v=.slice (some ⟨g,j,none⟩) c.size cap∧c.size≤cap
 |.svar b j n,vs=>∃v,(vs=[v]∧v.oneCell'=true)∧E.U b∧∀cs,E.H b=some (.var cs)→∃g cap,E.ρ b=some g∧v=.slice (some ⟨g,j,none⟩) n cap∧n≤cap
 |.ptr b j,vs=>∃v,(vs=[v]∧v.oneCell'=true)∧E.U b∧∀cs,E.H b=some (.var cs)→∃g,E.ρ b=some g∧v=pt g j
 |.pel b i j,vs=>∃v,(vs=[v]∧v.oneCell'=true)∧E.U b∧∀t l,E.H b=some (.arr t l)→i<l.length→∃g,E.ρ b=some g∧v=pt g (i*t.size+j)
 |.pidx b j i,vs=>∃v,(vs=[v]∧v.oneCell'=true)∧E.U b∧∀cs,E.H b=some (.var cs)→∃g,E.ρ b=some g∧v=pt g (j+i)
 |.fn f bs,vs=>∃caps:Array Value,vs=[.func (.func f) #[] caps]∧caps.size=bs.length ∧
   ∀(i b:Nat),bs[i]?=some b→∃u,caps[i]?=some u∧u.oneCell'=true∧E.U b∧∀cs,E.H b=some (.var cs)→∃g,E.ρ b=some g∧u=pt g 0
 |.ifc t b,vs=>∃v,(vs=[.iface t v]∧v.oneCell'=true)∧E.U b∧∀cs,E.H b=some (.var cs)→∃g,E.ρ b=some g∧v=pt g 0
 |.map b,vs=>∃v,(vs=[v]∧v.oneCell'=true)∧E.U b∧∀ka kt vt l,E.H b=some (.mp ka kt vt l)→∃g,E.ρ b=some g∧v=.map (some g)
def IR(E:Env):List Cell→List Value→Prop
 | [],vs=>vs=[]
 |c::cs,vs=>∃r rest,vs=r++rest∧QaI E c r∧IR E cs rest
def V1R(E:Env):V1→Value→Prop
 |.c x,v=>QaI E x [v]
 |.agg cs,v=>∃vals,v=.agg vals∧IR E cs vals.toList
def VsR(E:Env):List V1→List Value→Prop
 | [],vs=>vs=[]
 |x::xs,vs=>∃v r,vs=v::r∧V1R E x v∧VsR E xs r
def AVR(E:Env):AV→Value→Prop
 |.dead,_=>True
 |.one x,v=>V1R E x v
 |.tup l,v=>∃vs,v=.tuple vs∧VsR E l vs.toList
def KV(ka:Bool)(kt:Ty)(d:Den kt)(v:Value):Prop:=∃vs,(∀w S,CR w S kt d vs)∧((ka=true∧v=.agg vs.toArray)∨(ka=false∧vs=[v]))
def Qm8(ka:Bool)(kt vt:Ty):List (Den kt×Den vt)→List MapEntry→Prop
 | [],[]=>True
 |p::l,e::es=>KV ka kt p.1 e.key∧(∀w S,CR w S vt p.2 [e.val])∧Qm8 ka kt vt l es
 |_,_=>False
def Qoq(E:Env)(b:Nat):Blk→Prop
 |.arr t l=>(E.ρ b=none∧l=[])∨∃g cs el us spare,E.ρ b=some g∧E.w.heap[g]?=some (.cells cs el (0,0))∧cs.toList=us++spare∧Qw (CR E.w E.S t) l us
 |.var is=>∃g cs el,E.ρ b=some g∧E.w.heap[g]?=some (.cells cs el (0,0))∧IR E is cs.toList
 |.mp ka kt vt l=>∃g es clock,E.ρ b=some g∧E.w.heap[g]?=some (.map es clock)∧Qm8 ka kt vt l es.toList
structure HeapOk(E:Env):Prop where
 blk:∀b x,E.H b=some x→E.U b∧Qoq E b x∧∀g,E.ρ b=some g→¬E.S g
 inj:∀b b' x x' g,E.H b=some x→E.H b'=some x'→E.ρ b=some g→E.ρ b'=some g→b=b'
 st:∀g,E.S g→g<E.w.heap.size
inductive Shp where
 |arr (t:Ty) (n:Nat)
 |var (l:List Nat)
 |mp (ka:Bool) (kt vt:Ty)
def shape:Blk→Shp
 |.arr t l=>.arr t l.length
 |.var cs=>.var (cs.map Cell.size)
 |.mp ka kt vt _=>.mp ka kt vt
structure Ext(E E':Env):Prop where
 S:∀g,E.S g→E'.S g∧E'.w.heap[g]?=E.w.heap[g]?
 U:∀b,E.U b→E'.U b
 H:∀b x',E.U b→E'.H b=some x'→∃x,E.H b=some x∧E'.ρ b=E.ρ b∧shape x'=shape x ∧
  ∀g cs el,E.ρ b=some g→E.w.heap[g]?=some (.cells cs el (0,0))→∃cs',E'.w.heap[g]?=some (.cells cs' el (0,0))∧cs'.size=cs.size
theorem Ext.refl(E:Env):Ext E E:=⟨fun g h=>⟨h,rfl⟩,fun _ h=>h,fun b x' _ h=>⟨x',h,rfl,rfl,fun g cs el _ h=>⟨cs,h,rfl⟩⟩⟩
theorem Ext.trans{E E' E'':Env}(h:Ext E E')(h':Ext E' E''):Ext E E'':=by
 refine⟨fun g hg=>⟨(h'.S g (h.S g hg).1).1,((h'.S g (h.S g hg).1).2).trans (h.S g hg).2⟩,fun b hb=>h'.U b (h.U b hb),fun b x' hb hx=>?_⟩;obtain⟨x1,e1,r1,s1,c1⟩:=h'.H b x' (h.U b hb) hx;obtain⟨x2,e2,r2,s2,c2⟩:=h.H b x1 hb e1;refine⟨x2,e2,r1.trans r2,s1.trans s2,fun g cs el hr hc=>?_⟩;obtain⟨cs',hc',hs'⟩:=c2 g cs el hr hc;obtain⟨cs'',hc'',hs''⟩:=c1 g cs' el (r2.trans hr) hc';exact⟨cs'',hc'',hs''.trans hs'⟩
theorem Qc5{x:Blk}{t:Ty}{l:List (Den t)}(h:shape (.arr t l)=shape x):∃l',x=.arr t l'∧l'.length=l.length:=by
 cases x with
 |arr u l' =>
  simp only[shape] at h;injection h with h1 h2
  subst h1;exact⟨l',rfl,h2.symm⟩
 |var cs=>simp[shape] at h
 |mp ka kt vt l=>simp[shape] at h
theorem QaN{x:Blk}{cs:List Cell}(h:shape (.var cs)=shape x):∃cs',x=.var cs'∧cs'.map Cell.size=cs.map Cell.size:=by
 cases x with
 |arr u l'=>simp[shape] at h
 |var cs' =>
  simp only[shape] at h;injection h with h
  exact⟨cs',rfl,h.symm⟩
 |mp ka kt vt l=>simp[shape] at h
theorem Qor{x:Blk}{ka:Bool}{kt vt:Ty}{l:List (Den kt×Den vt)}(h:shape (.mp ka kt vt l)=shape x):∃l',x=.mp ka kt vt l':=by
 cases x with
 |arr u l'=>simp[shape] at h
 |var cs'=>simp[shape] at h
 |mp ka' kt' vt' l' =>
  simp only[shape] at h;injection h with h1 h2 h3
  subst h1;subst h2;subst h3;exact⟨l',rfl⟩
theorem QeV:∀{cs cs':List Cell} {j:Nat} {c:Cell},cs'.map Cell.size=cs.map Cell.size→QaZ cs j=some c→∃c',QaZ cs' j=some c'∧c'.size=c.size
 | [],_,_,_,_,h=>by simp[QaZ] at h
 |x::xs,[],_,_,e,_=>by simp at e
 |x::xs,y::ys,j,c,e,h=>by
  simp only[Jb,List.cons.injEq] at e;unfold QaZ at h ⊢;cases h0:Nat.beq j 0 with
  |true=>rw[h0] at h;injection h with h;subst h;exact⟨y,rfl,e.1⟩
  |false =>
   rw[h0] at h;simp only at h ⊢;rw[e.1];cases h1:Nat.ble x.size j with
   |true=>rw[h1] at h;exact QeV e.2 h
   |false=>rw[h1] at h;cases h
theorem QaI.ext{E E':Env}(h:Ext E E'):{c:Cell}→{vs:List Value}→QaI E c vs→QaI E' c vs
 |.imm _,_,hc=>hc
 |.run _ _ _,_,hc=>hc
 |.ro t l,_,⟨v,e,hs⟩=>⟨v,e,hs.mono h.S fun _ _ hx=>hx.mono h.S⟩
 |.rptr t l i j,_,⟨hi,ad,us,e,hs,hl,hc⟩=>by
  refine⟨hi,ad,us,e,(h.S _ hs).1,hl.mono fun _ _ hx=>hx.mono h.S,fun k u hu=>?_⟩;have hb:(ad.add k).block=ad.block:=by unfold Addr.add;split<;>rfl
  rw[Go.World.cell?_of_block (w:=E.w) (by rw[hb];exact(h.S _ hs).2)];exact hc k u hu
 |.own b,_,⟨v,e,hu,hh⟩=>by
  refine⟨v,e,h.U b hu,fun t l hb=>?_⟩;obtain⟨x,hx,hr,hsh,hcs⟩:=h.H b _ hu hb;obtain⟨l',rfl,hl⟩:=Qc5 hsh;rcases hh t l' hx with⟨h1,h2⟩|⟨g,cs,el,cap,h1,h2,h3,h4,h5⟩
  ·exact .inl ⟨hr.trans h1,h2⟩
  ·obtain⟨cs',h6,h7⟩:=hcs g cs el h1 h2;exact .inr ⟨g,cs',el,cap,hr.trans h1,h6,by rw[h3,hl],by omega,by omega⟩
 |.sub b off len,_,⟨v,e,hu,hh⟩=>by
  refine⟨v,e,h.U b hu,fun t l hb=>?_⟩;obtain⟨x,hx,hr,hsh,hcs⟩:=h.H b _ hu hb;obtain⟨l',rfl,hl⟩:=Qc5 hsh;obtain⟨h0,h1⟩:=hh t l' hx;refine⟨by omega,?_⟩;rcases h1 with⟨h1,h2,h3⟩|⟨g,ad,cap,h1,h2⟩
  ·exact .inl ⟨hr.trans h1,h2,h3⟩
  ·exact .inr ⟨g,ad,cap,hr.trans h1,h2⟩
 |.srun b j,_,⟨v,e,hu,hh⟩=>by
  refine⟨v,e,h.U b hu,fun cs c hb hi=>?_⟩;obtain⟨x,hx,hr,hsh,hcs⟩:=h.H b _ hu hb;obtain⟨cs',rfl,hm⟩:=QaN hsh;obtain⟨c',hc',hs'⟩:=QeV hm hi;obtain⟨g,cap,h1,h2,h3⟩:=hh cs' c' hx hc';exact⟨g,cap,hr.trans h1,by rw[h2,hs'],by omega⟩
 |.svar b j n,_,⟨v,e,hu,hh⟩=>by
  refine⟨v,e,h.U b hu,fun cs hb=>?_⟩;obtain⟨x,hx,hr,hsh,hcs⟩:=h.H b _ hu hb;obtain⟨cs',rfl,hm⟩:=QaN hsh;obtain⟨g,cap,h1,h2,h3⟩:=hh cs' hx;exact⟨g,cap,hr.trans h1,h2,h3⟩
 |.ptr b j,_,⟨v,e,hu,hh⟩=>by
  refine⟨v,e,h.U b hu,fun cs hb=>?_⟩;obtain⟨x,hx,hr,hsh,hcs⟩:=h.H b _ hu hb;obtain⟨cs',rfl,hm⟩:=QaN hsh;obtain⟨g,h1,h2⟩:=hh cs' hx;exact⟨g,hr.trans h1,h2⟩
 |.pel b i j,_,⟨v,e,hu,hh⟩=>by
  refine⟨v,e,h.U b hu,fun t l hb hi=>?_⟩;obtain⟨x,hx,hr,hsh,hcs⟩:=h.H b _ hu hb;obtain⟨l',rfl,hl⟩:=Qc5 hsh;obtain⟨g,h1,h2⟩:=hh t l' hx (by omega);exact⟨g,hr.trans h1,h2⟩
 |.pidx b j i,_,⟨v,e,hu,hh⟩=>by
  refine⟨v,e,h.U b hu,fun cs hb=>?_⟩;obtain⟨x,hx,hr,hsh,hcs⟩:=h.H b _ hu hb;obtain⟨cs',rfl,hm⟩:=QaN hsh;obtain⟨g,h1,h2⟩:=hh cs' hx;exact⟨g,hr.trans h1,h2⟩
 |.fn f bs,_,⟨caps,e,hs,hh⟩=>by
  refine⟨caps,e,hs,fun i b hb=>?_⟩;obtain⟨u,hu1,hu2,hU,hh⟩:=hh i b hb;refine⟨u,hu1,hu2,h.U b hU,fun cs hx'=>?_⟩;obtain⟨x,hx,hr,hsh,hcs⟩:=h.H b _ hU hx';obtain⟨cs',rfl,hm⟩:=QaN hsh;obtain⟨g,h1,h2⟩:=hh cs' hx;exact⟨g,hr.trans h1,h2⟩
 |.ifc t b,_,⟨v,e,hu,hh⟩=>by
  refine⟨v,e,h.U b hu,fun cs hb=>?_⟩;obtain⟨x,hx,hr,hsh,hcs⟩:=h.H b _ hu hb;obtain⟨cs',rfl,hm⟩:=QaN hsh;obtain⟨g,h1,h2⟩:=hh cs' hx;exact⟨g,hr.trans h1,h2⟩
 |.map b,_,⟨v,e,hu,hh⟩=>by
  refine⟨v,e,h.U b hu,fun ka kt vt l hb=>?_⟩;obtain⟨x,hx,hr,hsh,hcs⟩:=h.H b _ hu hb;obtain⟨l',rfl⟩:=Qor hsh;obtain⟨g,h1,h2⟩:=hh ka kt vt l' hx;exact⟨g,hr.trans h1,h2⟩
theorem IR.ext{E E':Env}(h:Ext E E'):∀{cs:List Cell} {vs:List Value},IR E cs vs→IR E' cs vs
 | [],_,hc=>hc
 |_::_,_,⟨r,s,e,h1,h2⟩=>⟨r,s,e,h1.ext h,h2.ext h⟩
theorem V1R.ext{E E':Env}(h:Ext E E'):{x:V1}→{v:Value}→V1R E x v→V1R E' x v
 |.c _,_,hc=>QaI.ext h hc
 |.agg _,_,⟨vals,e,hc⟩=>⟨vals,e,hc.ext h⟩
theorem VsR.ext{E E':Env}(h:Ext E E'):∀{xs:List V1} {vs:List Value},VsR E xs vs→VsR E' xs vs
 | [],_,hc=>hc
 |_::_,_,⟨v,r,e,h1,h2⟩=>⟨v,r,e,h1.ext h,h2.ext h⟩
theorem AVR.ext{E E':Env}(h:Ext E E'):{x:AV}→{v:Value}→AVR E x v→AVR E' x v
 |.dead,_,_=>trivial
 |.one _,_,hc=>V1R.ext h hc
 |.tup _,_,⟨vs,e,hc⟩=>⟨vs,e,hc.ext h⟩
theorem QaI.len{E:Env}:{c:Cell}→{vs:List Value}→QaI E c vs→vs.length=c.size
 |.imm _,_,h=>by obtain⟨rfl,_⟩:=h;rfl
 |.run k n l,_,h=>by obtain⟨h,rfl⟩:=h;simp[Cell.size,h]
 |.ro _ _,_,⟨_,e,_⟩=>by subst e;rfl
 |.rptr _ _ _ _,_,⟨_,_,_,e,_⟩=>by subst e;rfl
 |.own _,_,⟨_,⟨e,_⟩,_⟩=>by subst e;rfl
 |.sub _ _ _,_,⟨_,⟨e,_⟩,_⟩=>by subst e;rfl
 |.srun _ _,_,⟨_,⟨e,_⟩,_⟩=>by subst e;rfl
 |.svar _ _ _,_,⟨_,⟨e,_⟩,_⟩=>by subst e;rfl
 |.ptr _ _,_,⟨_,⟨e,_⟩,_⟩=>by subst e;rfl
 |.pel _ _ _,_,⟨_,⟨e,_⟩,_⟩=>by subst e;rfl
 |.pidx _ _ _,_,⟨_,⟨e,_⟩,_⟩=>by subst e;rfl
 |.fn _ _,_,⟨_,e,_⟩=>by subst e;rfl
 |.ifc _ _,_,⟨_,⟨e,_⟩,_⟩=>by subst e;rfl
 |.map _,_,⟨_,⟨e,_⟩,_⟩=>by subst e;rfl
def sizes(cs:List Cell):Nat:=(cs.map Cell.size).sum
theorem IR.len{E:Env}:∀{cs:List Cell} {vs:List Value},IR E cs vs→vs.length=sizes cs
 | [],_,h=>by simp only[IR] at h;subst h;rfl
 |c::cs,_,⟨r,s,e,h1,h2⟩=>by subst e;simp[sizes,h1.len,h2.len]
theorem IR.append{E:Env}:∀{cs cs':List Cell} {vs vs':List Value},IR E cs vs→IR E cs' vs'→IR E (cs++cs') (vs++vs')
 | [],_,_,_,h,h'=>by simp only[IR] at h;subst h;exact h'
 |_::_,_,_,_,⟨r,s,e,h1,h2⟩,h'=>by subst e;exact⟨r,_,by simp,h1,h2.append h'⟩
theorem CR.items{E:Env}:{t:Ty}→{x:Den t}→{vs:List Value}→CR E.w E.S t x vs→IR E (cells t x) vs
 |.int k,x,_,h=>by simp only[CR] at h;subst h;exact⟨[_],[],rfl,⟨rfl,rfl⟩,rfl⟩
 |.ints k n,l,vs,h=>⟨vs,[],by simp,h,rfl⟩
 |.bool,b,_,h=>by simp only[CR] at h;subst h;exact⟨[_],[],rfl,⟨rfl,rfl⟩,rfl⟩
 |.str,s,_,h=>by simp only[CR] at h;subst h;exact⟨[_],[],rfl,⟨rfl,rfl⟩,rfl⟩
 |.sl t,l,vs,h=>⟨vs,[],by simp,h,rfl⟩
 |.pair a b,x,_,⟨r,s,e,h1,h2⟩=>by subst e;exact h1.items.append h2.items
theorem SlR.one{α:Type}{w:World}{S:Nat→Prop}{R:α→List Value→Prop}{l:List α}{v:Value}(h:SlR w S R l v):v.oneCell'=true:=by
 obtain⟨a,cap,rfl,_⟩:=h;rfl
theorem CR.ones{w:World}{S:Nat→Prop}:{t:Ty}→{x:Den t}→{vs:List Value}→CR w S t x vs→∀u∈vs,u.oneCell'=true
 |.int _,_,_,h=>by simp only[CR] at h;subst h;intro u hu;simp at hu;subst hu;rfl
 |.ints _ n,l,_,h=>by simp only[CR] at h;obtain⟨h,rfl⟩:=h;intro u hu;simp at hu;obtain⟨y,_,rfl⟩:=hu;rfl
 |.bool,_,_,h=>by simp only[CR] at h;subst h;intro u hu;simp at hu;subst hu;rfl
 |.str,_,_,h=>by simp only[CR] at h;subst h;intro u hu;simp at hu;subst hu;rfl
 |.sl _,_,_,h=>by obtain⟨v,rfl,h⟩:=h;intro u hu;simp at hu;subst hu;exact h.one
 |.pair a b,x,_,h=>by
  obtain⟨r,s,rfl,h1,h2⟩:=h;intro u hu;rcases YN.1 hu with hu|hu
  ·exact h1.ones u hu
  ·exact h2.ones u hu
theorem QaI.ones{E:Env}:{c:Cell}→{vs:List Value}→QaI E c vs→∀u∈vs,u.oneCell'=true
 |.imm _,_,h=>by obtain⟨rfl,h⟩:=h;simpa using h
 |.run k n l,_,h=>by obtain⟨h,rfl⟩:=h;intro u hu;simp at hu;obtain⟨y,_,rfl⟩:=hu;rfl
 |.ro _ _,_,⟨_,e,h⟩=>by subst e;simpa using h.one
 |.rptr _ _ _ _,_,⟨_,_,_,e,_⟩=>by subst e;simp[Value.oneCell']
 |.own _,_,⟨_,⟨e,h⟩,_⟩=>by subst e;simpa using h
 |.sub _ _ _,_,⟨_,⟨e,h⟩,_⟩=>by subst e;simpa using h
 |.srun _ _,_,⟨_,⟨e,h⟩,_⟩=>by subst e;simpa using h
 |.svar _ _ _,_,⟨_,⟨e,h⟩,_⟩=>by subst e;simpa using h
 |.ptr _ _,_,⟨_,⟨e,h⟩,_⟩=>by subst e;simpa using h
 |.pel _ _ _,_,⟨_,⟨e,h⟩,_⟩=>by subst e;simpa using h
 |.pidx _ _ _,_,⟨_,⟨e,h⟩,_⟩=>by subst e;simpa using h
 |.fn _ _,_,⟨_,e,_⟩=>by subst e;simp[Value.oneCell']
 |.ifc _ _,_,⟨_,⟨e,_⟩,_⟩=>by subst e;simp[Value.oneCell']
 |.map _,_,⟨_,⟨e,h⟩,_⟩=>by subst e;simpa using h
theorem IR.ones{E:Env}:∀{cs:List Cell} {vs:List Value},IR E cs vs→∀u∈vs,u.oneCell'=true
 | [],_,h=>by simp only[IR] at h;subst h;simp
 |_::_,_,⟨r,s,e,h1,h2⟩=>by
  subst e;intro u hu;rcases YN.1 hu with hu|hu
  ·exact h1.ones u hu
  ·exact h2.ones u hu
theorem Qw.ones{α:Type}{R:α→List Value→Prop}(h:∀x vs,R x vs→∀u∈vs,u.oneCell'=true):∀{l:List α} {vs:List Value},Qw R l vs→∀u∈vs,u.oneCell'=true
 | [],_,hl=>by simp only[Qw] at hl;subst hl;simp
 |_::_,_,⟨r,s,e,h1,h2⟩=>by
  subst e;intro u hu;rcases YN.1 hu with hu|hu
  ·exact h _ _ h1 u hu
  ·exact h2.ones h u hu
structure Frame where
 w0:World
 own0:Nat→Prop
 S0:Nat→Prop
structure FrameOk(F:Frame)(E:Env):Prop where
 os:E.w.os=F.w0.os
 tape:E.w.tape=F.w0.tape
 output:E.w.output=F.w0.output
 size:F.w0.heap.size≤E.w.heap.size
 old:∀g,g<F.w0.heap.size→¬F.own0 g→E.w.heap[g]?=F.w0.heap[g]?
 own:∀b x g,E.H b=some x→E.ρ b=some g→F.w0.heap.size≤g∨F.own0 g
 S:∀g,E.S g→F.S0 g∨F.w0.heap.size≤g∨F.own0 g
def Qgf:(Nat→Option Blk)→List (Nat×Option Blk)→Nat→Option Blk
 |H,[]=>H
 |H,(b,o)::r=>Qgf (fun x=>if x=b then o else H x) r
def addF:(Nat→Option Blk)→Nat→List Blk→Nat→Option Blk
 |H,_,[]=>H
 |H,n,x::r=>addF (fun y=>if y=n then some x else H y) (n+1) r
structure Step(E:Env)(r:Res)(nm:Nat)(E':Env):Prop where
 ext:Ext E E'
 ok:HeapOk E'
 H:∀b,E'.H b=addF (Qgf E.H r.set) nm r.add b
 U:∀b,E'.U b↔(E.U b∨(nm≤b∧b<nm+r.add.length))
 fr:∀F,FrameOk F E→FrameOk F E'
theorem Step.same{E:Env}{r:Res}{nm:Nat}(hH:HeapOk E)(h1:r.add=[])(h2:r.set=[]):Step E r nm E :=
 ⟨.refl E,hH,fun b=>by rw[h1,h2];rfl,fun b=>by rw[h1];simp;omega,fun _ h=>h⟩
def SU(E:Env)(us:List Nat)(g:Nat):Prop:=E.S g∨∃u x,u∈us∧E.H u=some x∧E.ρ u=some g
theorem SU.of{E:Env}{us:List Nat}{g:Nat}(h:E.S g):SU E us g:=.inl h
theorem SU.mono{E:Env}{us us':List Nat}(hs:∀u,u∈us→u∈us'){g:Nat}(h:SU E us g):SU E us' g :=
 h.imp id fun⟨u,x,hu,hx,hr⟩=>⟨u,x,hs u hu,hx,hr⟩
theorem CR.su{E:Env}{us:List Nat}{t:Ty}{x:Den t}{vs:List Value}(h:CR E.w E.S t x vs):CR E.w (SU E us) t x vs :=
 h.mono fun _ hg=>⟨.inl hg,rfl⟩
theorem CR.su_mono{E:Env}{us us':List Nat}(hs:∀u,u∈us→u∈us'){t:Ty}{x:Den t}{vs:List Value}(h:CR E.w (SU E us) t x vs):CR E.w (SU E us') t x vs :=
 h.mono fun _ hg=>⟨hg.mono hs,rfl⟩
theorem cell_at{w:World}{g:Nat}{cs:Array Value}{el:TypeId}{fr:Nat×Nat}(h:w.heap[g]?=some (.cells cs el fr))(o:Nat):w.cell? ⟨g,o,none⟩=cs[o]?:=by
 simp[World.cell?,h]
theorem QbA(g o k:Nat):(⟨g,o,none⟩:Addr).add k=⟨g,o+k,none⟩:=by
 unfold Addr.add;split<;>simp_all
theorem QgI{w:World}{S:Nat→Prop}{k:IntKind}:∀(l:List Int),Qw (CR w S (.int k)) l (l.map (.int k))
 | []=>rfl
 |x::l=>⟨[.int k x],l.map (.int k),rfl,rfl,QgI l⟩
theorem Qw.take_drop{α:Type}{R:α→List Value→Prop}{n:Nat}(hn:∀x vs,R x vs→vs.length=n):∀{l:List α} {vs:List Value} (k:Nat),Qw R l vs →
 Qw R (l.take k) (vs.take (k*n))∧Qw R (l.drop k) (vs.drop (k*n))
 |l,vs,0,h=>by simp;exact⟨rfl,h⟩
 | [],vs,k+1,h=>by simp only[Qw] at h;subst h;simp;exact rfl
 |x::l,_,k+1,⟨r,s,e,h1,h2⟩=>by
  subst e;have hl:=hn _ _ h1;obtain⟨h3,h4⟩:=h2.take_drop hn k
  have e1:(r++s).take ((k+1)*n)=r++s.take (k*n):=by
   rw[List.take_append,hl,show(k+1)*n-n=k*n from by rw[YV];omega,Yh (by rw[hl,YV];omega)]
  have e2:(r++s).drop ((k+1)*n)=s.drop (k*n):=by
   rw[List.drop_append,hl,show(k+1)*n-n=k*n from by rw[YV];omega,Yk (by rw[hl,YV];omega)];simp
  rw[e1,e2];exact⟨⟨r,_,rfl,h1,h3⟩,h4⟩
theorem Qf{t:Ty}(h:t=t)(l:List (Den t)):Qga h l=l:=rfl
theorem Qcm{E:Env}{look:Nat→Option Blk}(hH:HeapOk E)(hl:∀b x,look b=some x→E.H b=some x){c:Cell}{v:Value}{t:Ty}{l:List (Den t)}
 (h:Qax look c=some ⟨t,l⟩) (hc:QaI E c [v]):SlR E.w (SU E c.names) (CR E.w E.S t) l v:=by
 cases c with
 |ro u l' =>
  simp only[Qax,Yc,Sigma.mk.injEq] at h;obtain⟨rfl,h⟩:=h;have h:=eq_of_heq h;subst h;obtain⟨v',e,hs⟩:=hc;injection e with e
  subst e;exact hs.mono (fun _ hg=>⟨.inl hg,rfl⟩) fun _ _ hx=>hx
 |own b =>
  simp only[Qax] at h;obtain⟨v',⟨e,_⟩,hu,hh⟩:=hc;injection e with e
  subst e;cases hb:look b with
  |none=>rw[hb] at h;cases h
  |some x =>
   rw[hb] at h;cases x with
   |var _=>cases h
   |mp _ _ _ _=>cases h
   |arr u l' =>
    simp only[Yc,Sigma.mk.injEq] at h;obtain⟨rfl,h⟩:=h;have h:=eq_of_heq h;subst h;have hx:=hl _ _ hb;obtain⟨_,hbr,_⟩:=hH.blk _ _ hx;rcases hh _ _ hx with⟨h1,rfl⟩|⟨g,cs,el,cap,h1,h2,rfl,h4,h5⟩
    ·rcases hbr with⟨_,rfl⟩|⟨g,_,_,_,_,h6,_⟩
     ·exact⟨none,0,rfl,YE _,fun hne=>YD rfl hne⟩
     ·rw[h1] at h6;cases h6
    ·refine⟨_,cap,rfl,h4,fun hne=>?_⟩;rcases hbr with⟨h6,rfl⟩|⟨g',cs',el',us,spare,h6,h7,h8,h9⟩
     ·exact YD rfl hne
     ·rw[h1] at h6;injection h6 with h6;subst h6
      refine⟨_,us,rfl,.inr ⟨b,_,by simp[Cell.names],hx,h1⟩,h9,fun k u hu=>?_⟩;rw[QbA,cell_at h7,Jh,←YA,h8,YX (by exact(Yu.1 hu).1)];exact hu
 |sub b off len =>
  simp only[Qax] at h;obtain⟨v',⟨e,_⟩,hu,hh⟩:=hc;injection e with e
  subst e;cases hb:look b with
  |none=>rw[hb] at h;cases h
  |some x =>
   rw[hb] at h;cases x with
   |var _=>cases h
   |mp _ _ _ _=>cases h
   |arr u l' =>
    simp only[Yc,Sigma.mk.injEq] at h;obtain⟨rfl,h⟩:=h;have h:=eq_of_heq h;subst h;have hx:=hl _ _ hb;obtain⟨_,hbr,_⟩:=hH.blk _ _ hx;obtain⟨h0,hh⟩:=hh _ _ hx;have hlen:((l'.drop off).take len).length=len:=by simp;omega
    rcases hh with⟨h1,h2,rfl⟩|⟨g,ad,cap,h1,rfl,h4,h5⟩
    ·subst h2;exact⟨none,0,by simp,by simp,fun hne=>YD (by simp) hne⟩
    ·refine⟨_,cap,by rw[hlen],by rw[hlen];exact h4,fun hne=>?_⟩
     have hpos:0<len:=by
      rcases Nat.eq_zero_or_pos len with e|e
      ·subst e;exact YD (by simp) hne
      ·exact e
     rcases hbr with⟨h6,rfl⟩|⟨g',cs',el',us,spare,h6,h7,h8,h9⟩
     ·simp at h0;omega
     ·rw[h1] at h6;injection h6 with h6;subst h6
      have h10:=((h9.take_drop (fun _ _ hx=>hx.len) off).2.take_drop (fun _ _ hx=>hx.len) len).1;refine⟨ad,_,rfl,.inr ⟨b,_,by simp[Cell.names],hx,by rw[h1,h5 hpos]⟩,h10,fun k u hu=>?_⟩;rw[h5 hpos,QbA,cell_at h7,←YA,h8];rw[List.getElem?_take] at hu;split at hu
      ·rw[List.getElem?_drop] at hu;rw[YX (by exact(Yu.1 hu).1)];exact hu
      ·cases hu
 |srun b j =>
  simp only[Qax] at h;obtain⟨v',⟨e,_⟩,hu,hh⟩:=hc;injection e with e
  subst e;cases hb:look b with
  |none=>rw[hb] at h;cases h
  |some x =>
   rw[hb] at h;cases x with
   |arr _ _=>cases h
   |mp _ _ _ _=>cases h
   |var cs =>
    simp only at h;cases hi:QaZ cs j with
    |none=>rw[hi] at h;cases h
    |some c =>
     rw[hi] at h;cases c with
     |run k n l' =>
      simp only[Yc,Sigma.mk.injEq] at h;obtain⟨rfl,h⟩:=h;have h:=eq_of_heq h;subst h;have hx:=hl _ _ hb;obtain⟨_,⟨g',cs',el',h6,h7,h8⟩,_⟩:=hH.blk _ _ hx;obtain⟨g,cap,h1,rfl,h3⟩:=hh _ _ hx hi;rw[h1] at h6;injection h6 with h6;subst h6
      have key:∀(cs:List Cell) (vs:List Value) (j:Nat),IR E cs vs→QaZ cs j=some (.run k n l')→l'.length=n∧∀i (u:Int),l'[i]?=some u→vs[j+i]?=some (.int k u):=by
       intro cs
       induction cs with
       |nil=>intro vs j _ h;simp[QaZ] at h
       |cons c cs ih =>
        rintro vs j ⟨r,rest,rfl,hr,hrest⟩ h
        unfold QaZ at h;cases h0:Nat.beq j 0 with
        |true =>
         rw[h0] at h;injection h with h
         subst h;obtain⟨hlen,rfl⟩:=hr;have:j=0:=Yg h0;subst this;refine⟨hlen,fun i u hu=>?_⟩;rw[Jh,YX (by simpa using(Yu.1 hu).1)];simp[hu]
        |false =>
         rw[h0] at h;simp only at h;cases h1:Nat.ble c.size j with
         |true =>
          rw[h1] at h;have hle:=YT h1;obtain⟨hlen,hk⟩:=ih rest (j-c.size) hrest h;refine⟨hlen,fun i u hu=>?_⟩;rw[YO (by rw[hr.len];omega),hr.len,show j+i-c.size=j-c.size+i from by omega];exact hk i u hu
         |false=>rw[h1] at h;cases h
      obtain⟨hlen,hk⟩:=key cs cs'.toList j h8 hi;refine⟨_,cap,by rw[hlen];rfl,by rw[hlen];exact h3,fun hne=>⟨_,l'.map (.int k),rfl,.inr ⟨b,_,by simp[Cell.names],hx,h1⟩,QgI l',fun i u hu=>?_⟩⟩;rw[QbA,cell_at h7,←YA];rw[Jc] at hu;cases hi':l'[i]? with
      |none=>rw[hi'] at hu;cases hu
      |some y =>
       rw[hi'] at hu;injection hu with hu
       subst hu;exact hk i y hi'
     |_=>cases h
 |_=>simp[Qax] at h
theorem QjT{E:Env}{look:Nat→Option Blk}(hH:HeapOk E)(hl:∀b x,look b=some x→E.H b=some x){c:Cell}{v:Value}{t:Ty}{l:List (Den t)}
 (h:QsF look t c=some l) (hc:QaI E c [v]):SlR E.w (SU E c.names) (CR E.w E.S t) l v:=by
 unfold QsF at h;split at h
 ·injection h with h
  subst h;obtain⟨e,_⟩:=hc;injection e with e
  subst e;exact⟨none,0,rfl,YE _,fun hne=>YD rfl hne⟩
 ·split at h
  ·rename_i u l' hs;split at h
   ·rename_i he hq;injection h with h
    obtain rfl:=he.down;subst h;exact Qcm hH hl hs hc
   ·cases h
  ·cases h
theorem QqT{look:Nat→Option Blk}{c:Cell}{t:Ty}{l:List (Den t)}(h:QsF look t c=some l) :
 QI4 c=c.names∨∀E v,QaI E c [v]→l=[]∧v=.slice none 0 0:=by
 unfold QsF at h;split at h
 ·refine .inr fun E v hc=>?_
  injection h with h
  obtain⟨e,_⟩:=hc;injection e with e
  exact⟨h.symm,e⟩
 ·cases c<;>first|exact .inl rfl|(simp[Qax] at h)
theorem QCh{E:Env}{look:Nat→Option Blk}(hH:HeapOk E)(hl:∀b x,look b=some x→E.H b=some x):∀{t:Ty} {cs rest:List Cell} {vs:List Value} {d:Den t} {us:List Nat},
 dec look t cs=some (d,us,rest)→IR E cs vs→∃a b,vs=a++b∧CR E.w (SU E us) t d a∧IR E rest b:=by
 intro t
 induction t with
 |int k =>
  intro cs rest vs d us h hr;unfold dec at h;split at h
  ·split at h
   ·rename_i hk;simp only[Yc,YM] at h;obtain⟨rfl,rfl,rfl⟩:=h;obtain⟨a,b,rfl,⟨rfl,_⟩,hb⟩:=hr;have:=Ya hk;subst this;exact⟨_,b,rfl,rfl,hb⟩
   ·cases h
  ·cases h
 |ints k n =>
  intro cs rest vs d us h hr;unfold dec at h;split at h
  ·split at h
   ·rename_i hk;simp only[Yc,YM] at h;obtain⟨rfl,rfl,rfl⟩:=h;obtain⟨a,b,rfl,⟨hlen,rfl⟩,hb⟩:=hr;rw[Yj] at hk;have h1:=Ya hk.1;have h2:=Yg hk.2;subst h1 h2;exact⟨_,b,rfl,⟨hlen,rfl⟩,hb⟩
   ·cases h
  ·cases h
 |bool =>
  intro cs rest vs d us h hr;unfold dec at h;split at h
  ·simp only[Yc,YM] at h;obtain⟨rfl,rfl,rfl⟩:=h;obtain⟨a,b,rfl,⟨rfl,_⟩,hb⟩:=hr;exact⟨_,b,rfl,rfl,hb⟩
  ·cases h
 |str =>
  intro cs rest vs d us h hr;unfold dec at h;split at h
  ·simp only[Yc,YM] at h;obtain⟨rfl,rfl,rfl⟩:=h;obtain⟨a,b,rfl,⟨rfl,_⟩,hb⟩:=hr;exact⟨_,b,rfl,rfl,hb⟩
  ·cases h
 |sl t ih =>
  intro cs rest vs d us h hr;unfold dec at h;cases cs with
  |nil=>cases h
  |cons c r =>
   simp only at h;cases hs:QsF look t c with
   |none=>rw[hs] at h;cases h
   |some l =>
    rw[hs] at h;simp only[Yc,YM] at h;obtain⟨rfl,hus,rfl⟩:=h;obtain⟨a,b,rfl,ha,hb⟩:=hr
    have hone:∃v,a=[v]:=by
     have hlen:=ha.len
     have:c.size=1:=by
      unfold QsF at hs;cases c<;>first|rfl|(simp[Qax] at hs)
     rw[this] at hlen
     match a,hlen with
     | [v],_=>exact⟨v,rfl⟩
    obtain⟨v,rfl⟩:=hone;refine⟨[v],b,rfl,⟨v,rfl,?_⟩,hb⟩;rcases QqT hs with hn|hn
    ·rw[hn] at hus;subst hus;exact(QjT hH hl hs ha).mono (fun _ hg=>⟨hg,rfl⟩) fun _ _ hx=>hx.su
    ·obtain⟨rfl,rfl⟩:=hn E v ha;exact⟨none,0,rfl,YE _,fun hne=>YD rfl hne⟩
 |pair t1 t2 ih1 ih2 =>
  intro cs rest vs d us h hr;unfold dec at h;cases h1:dec look t1 cs with
  |none=>rw[h1] at h;cases h
  |some x =>
   obtain⟨x,u,r⟩:=x;rw[h1] at h;simp only at h;cases h2:dec look t2 r with
   |none=>rw[h2] at h;cases h
   |some y =>
    obtain⟨y,u',r'⟩:=y;rw[h2] at h;simp only[Yc,YM] at h;obtain⟨rfl,rfl,rfl⟩:=h;obtain⟨a,b,rfl,ha,hb⟩:=ih1 h1 hr;obtain⟨a',b',rfl,ha',hb'⟩:=ih2 h2 hb;exact⟨a++a',b',by simp,⟨a,a',rfl,ha.su_mono (by simp +contextual),ha'.su_mono (by simp +contextual)⟩,hb'⟩
theorem QbJ{E:Env}{look:Nat→Option Blk}(hH:HeapOk E)(hl:∀b x,look b=some x→E.H b=some x){t:Ty}{cs:List Cell}{vs:List Value}{d:Den t}{us:List Nat}
 (h:Qca look t cs=some (d,us)) (hr:IR E cs vs):CR E.w (SU E us) t d vs:=by
 unfold Qca at h;split at h
 ·rename_i x u hd;simp only[Yc,YM] at h;obtain⟨rfl,rfl⟩:=h;obtain⟨a,b,rfl,ha,hb⟩:=QCh hH hl hd hr;simp only[IR] at hb;subst hb;simpa using ha
 ·cases h
theorem Qfo(us:List Nat):∀(H:Nat→Option Blk) (b:Nat),Qgf H (us.map fun u=>(u,none)) b=if b∈us then none else H b:=by
 induction us with
 |nil=>intro H b;rfl
 |cons u us ih =>
  intro H b;simp only[Jb,Qgf,ih];by_cases h:b=u
  ·subst h;simp
  ·simp[h]
theorem Qm9(a c:List (Nat×Option Blk)):∀(H:Nat→Option Blk),Qgf H (a++c)=Qgf (Qgf H a) c:=by
 induction a with
 |nil=>intro H;rfl
 |cons x a ih=>intro H;obtain⟨b,o⟩:=x;simp only[List.cons_append,Qgf];exact ih _
def QO(E:Env)(us:List Nat):Env:={ E with S:=SU E us,H:=fun b=>if b∈us then none else E.H b }
theorem Qae{E:Env}(us:List Nat):Ext E (QO E us):=by
 refine⟨fun g hg=>⟨.inl hg,rfl⟩,fun _ h=>h,fun b x' _ hx=>?_⟩;by_cases hb:b∈us
 ·simp[QO,hb] at hx
 ·simp only[QO,hb,if_false] at hx;exact⟨x',hx,rfl,rfl,fun g cs el _ h=>⟨cs,h,rfl⟩⟩
theorem QaU{E:Env}(hH:HeapOk E){b g:Nat}{x:Blk}(hx:E.H b=some x)(hr:E.ρ b=some g):g<E.w.heap.size∧∃o,E.w.heap[g]?=some o:=by
 have key:∃o,E.w.heap[g]?=some o:=by
  obtain⟨_,hb,_⟩:=hH.blk b x hx;cases x with
  |arr t l =>
   rcases hb with⟨h,_⟩|⟨g',cs,el,us,spare,h1,h2,_⟩
   ·rw[hr] at h;cases h
   ·rw[hr] at h1;injection h1 with h1;subst h1;exact⟨_,h2⟩
  |var is =>
   obtain⟨g',cs,el,h1,h2,_⟩:=hb;rw[hr] at h1;injection h1 with h1;subst h1;exact⟨_,h2⟩
  |mp ka kt vt l =>
   obtain⟨g',es,c,h1,h2,_⟩:=hb;rw[hr] at h1;injection h1 with h1;subst h1;exact⟨_,h2⟩
 obtain⟨o,h⟩:=key;exact⟨(Jg.1 h).1,o,h⟩
theorem Qoq.ext{E E':Env}(h:Ext E E'){b:Nat}{x:Blk}(hr:E'.ρ b=E.ρ b)(hw:∀g,E.ρ b=some g→E'.w.heap[g]?=E.w.heap[g]?)(hb:Qoq E b x):Qoq E' b x:=by
 cases x with
 |arr t l =>
  rcases hb with⟨h1,h2⟩|⟨g,cs,el,us,spare,h1,h2,h3,h4⟩
  ·exact .inl ⟨hr.trans h1,h2⟩
  ·exact .inr ⟨g,cs,el,us,spare,hr.trans h1,(hw g h1).trans h2,h3,h4.mono fun _ _ hx=>hx.mono h.S⟩
 |var is =>
  obtain⟨g,cs,el,h1,h2,h3⟩:=hb;exact⟨g,cs,el,hr.trans h1,(hw g h1).trans h2,h3.ext h⟩
 |mp ka kt vt l =>
  obtain⟨g,es,c,h1,h2,h3⟩:=hb;exact⟨g,es,c,hr.trans h1,(hw g h1).trans h2,h3⟩
theorem Qfp{E:Env}(hH:HeapOk E)(us:List Nat):HeapOk (QO E us):=by
 have hx':∀b x,(QO E us).H b=some x→b∉us∧E.H b=some x:=by
  intro b x hx;by_cases hb:b∈us
  ·simp[QO,hb] at hx
  ·exact⟨hb,by simpa[QO,hb] using hx⟩
 refine⟨fun b x hx=>?_,fun b b' x x' g hx hx'' hr hr'=>?_,fun g hg=>?_⟩
 ·obtain⟨hn,hx⟩:=hx' b x hx;obtain⟨h1,h2,h3⟩:=hH.blk b x hx;refine⟨h1,h2.ext (Qae us) rfl (fun _ _=>rfl),fun g hg hs=>?_⟩;rcases hs with hs|⟨u,y,hu,hy,hr⟩
  ·exact h3 g hg hs
  ·exact hn (hH.inj b u x y g hx hy hg hr ▸ hu)
 ·exact hH.inj b b' x x' g (hx' b x hx).2 (hx' b' x' hx'').2 hr hr'
 ·rcases hg with hg|⟨u,y,hu,hy,hr⟩
  ·exact hH.st g hg
  ·exact(QaU hH hy hr).1
theorem Qfq{E:Env}(us:List Nat){F:Frame}(h:FrameOk F E):FrameOk F (QO E us):=by
 refine⟨h.os,h.tape,h.output,h.size,h.old,fun b x g hx hr=>?_,fun g hg=>?_⟩
 ·by_cases hb:b∈us
  ·simp[QO,hb] at hx
  ·exact h.own b x g (by simpa[QO,hb] using hx) hr
 ·rcases hg with hg|⟨u,y,hu,hy,hr⟩
  ·exact h.S g hg
  ·exact .inr (h.own u y g hy hr)
def newE(E:Env)(nm:Nat)(blk:Blk)(w':World):Env :=
 { w:=w',ρ:=fun b=>if b=nm then some E.w.heap.size else E.ρ b,S:=E.S,H:=fun b=>if b=nm then some blk else E.H b,U:=fun b=>E.U b∨b=nm }
theorem Qce{w w':World}{o:Obj}(hw:w'.heap=w.heap.push o){g:Nat}(h:g<w.heap.size):w'.heap[g]?=w.heap[g]?:=by
 rw[hw,Array.getElem?_push,Yb (by omega)]
theorem Qg2{w w':World}{o:Obj}(hw:w'.heap=w.heap.push o):w'.heap[w.heap.size]?=some o:=by
 rw[hw,Array.getElem?_push,Yf rfl]
theorem QjU{E:Env}(hH:HeapOk E){nm:Nat}(hnm:¬E.U nm){blk:Blk}{w':World}{o:Obj}(hw:w'.heap=E.w.heap.push o):Ext E (newE E nm blk w'):=by
 refine⟨fun g hg=>⟨hg,Qce hw (hH.st g hg)⟩,fun b hb=>.inl hb,fun b x' hb hx=>?_⟩;have hne:b≠nm:=fun e=>hnm (e ▸ hb)
 simp only[newE,hne,if_false] at hx;refine⟨x',hx,by simp[newE,hne],rfl,fun g cs el hr hc=>⟨cs,?_,rfl⟩⟩;rw[show(newE E nm blk w').w=w' from rfl,Qce hw (Jg.1 hc).1];exact hc
def Holds(E:Env):Blk→List Value→Prop
 |.arr t l,vs=>∃us spare,vs=us++spare∧Qw (CR E.w E.S t) l us
 |.var is,vs=>IR E is vs
 |.mp _ _ _ _,_=>False
theorem QCi{E:Env}(hH:HeapOk E){nm:Nat}(hnm:¬E.U nm){blk:Blk}{w':World}{cs:Array Value}{el:TypeId}(hw:w'.heap=E.w.heap.push (.cells cs el))(hb:Holds E blk cs.toList):HeapOk (newE E nm blk w'):=by
 have hext:=QjU hH hnm (blk:=blk) hw;refine⟨fun b x hx=>?_,fun b b' x x' g hx hx' hr hr'=>?_,fun g hg=>?_⟩
 ·by_cases h:b=nm
  ·subst h;simp only[newE,if_true,Yc] at hx;subst hx;refine⟨.inr rfl,?_,fun g hg hs=>?_⟩
   ·cases blk with
    |arr t l =>
     obtain⟨us,spare,h1,h2⟩:=hb;exact .inr ⟨_,cs,el,us,spare,by simp[newE],Qg2 hw,h1,h2.mono fun _ _ hx=>hx.mono hext.S⟩
    |var is=>exact⟨_,cs,el,by simp[newE],Qg2 hw,hb.ext hext⟩
    |mp ka kt vt l=>exact hb.elim
   ·simp only[newE,if_true,Yc] at hg;have:=hH.st g hs;omega
  ·simp only[newE,h,if_false] at hx;obtain⟨h1,h2,h3⟩:=hH.blk b x hx;refine⟨.inl h1,h2.ext hext (by simp[newE,h]) (fun g hg=>Qce hw (QaU hH hx hg).1),fun g hg=>h3 g (by simpa[newE,h] using hg)⟩
 ·by_cases h:b=nm<;>by_cases h':b'=nm
  ·rw[h,h']
  ·simp only[newE,h,h',if_true,if_false,Yc] at hx hx' hr hr';have:=(QaU hH hx' hr').1;omega
  ·simp only[newE,h,h',if_true,if_false,Yc] at hx hx' hr hr';have:=(QaU hH hx hr).1;omega
  ·simp only[newE,h,h',if_false] at hx hx' hr hr';exact hH.inj b b' x x' g hx hx' hr hr'
 ·rw[show(newE E nm blk w').w=w' from rfl,hw];have:=hH.st g hg;simp;omega
theorem QsP{E:Env}(hH:HeapOk E){nm:Nat}{blk:Blk}{w':World}{o:Obj}(hw:w'.heap=E.w.heap.push o)(h1:w'.os=E.w.os)(h2:w'.tape=E.w.tape)(h3:w'.output=E.w.output){F:Frame}(h:FrameOk F E):FrameOk F (newE E nm blk w'):=by
 refine⟨h1.trans h.os,h2.trans h.tape,h3.trans h.output,?_,fun g hg ho=>?_,fun b x g hx hr=>?_,h.S⟩
 ·rw[show(newE E nm blk w').w=w' from rfl,hw];have:=h.size;simp;omega
 ·rw[show(newE E nm blk w').w=w' from rfl,Qce hw (by have:=h.size;omega)];exact h.old g hg ho
 ·by_cases hb:b=nm
  ·subst hb;simp only[newE,if_true,Yc] at hr;have:=h.size;exact .inl (by omega)
  ·simp only[newE,hb,if_false] at hx hr;exact h.own b x g hx hr
theorem Step.newK{E:Env}{r:Res}{nm:Nat}{us:List Nat}{blk:Blk}{w':World}{cs:Array Value}{el:TypeId}(hH:HeapOk E)(hr1:r.add=[blk])(hr2:r.set=us.map fun u=>(u,none))(hnm:¬E.U nm)
 (hw:w'.heap=E.w.heap.push (.cells cs el)) (h1:w'.os=E.w.os) (h2:w'.tape=E.w.tape) (h3:w'.output=E.w.output) (hb:Holds (QO E us) blk cs.toList):Step E r nm (newE (QO E us) nm blk w'):=by
 have hk:=Qfp hH us;refine⟨(Qae us).trans (QjU hk hnm hw),QCi hk hnm hw hb,fun b=>?_,fun b=>?_,fun F hF=>QsP hk hw h1 h2 h3 (Qfq us hF)⟩
 ·rw[hr1,hr2];simp only[addF,newE,QO,Qfo]
 ·rw[hr1];simp only[newE,QO,Jj];constructor
  ·rintro (h|h)
   ·exact .inl h
   ·exact .inr (by omega)
  ·rintro (h|h)
   ·exact .inl h
   ·exact .inr (by omega)
def QdY(E:Env)(b:Nat)(blk:Blk)(w':World):Env:={ E with w:=w',H:=fun x=>if x=b then some blk else E.H x }
structure Writes(E:Env)(g:Nat)(cs cs':Array Value)(el:TypeId)(w':World):Prop where
 was:E.w.heap[g]?=some (.cells cs el (0,0))
 is:w'.heap[g]?=some (.cells cs' el (0,0))
 len:cs'.size=cs.size
 oth:∀i,i≠g→w'.heap[i]?=E.w.heap[i]?
 size:w'.heap.size=E.w.heap.size
 os:w'.os=E.w.os
 tape:w'.tape=E.w.tape
 output:w'.output=E.w.output
theorem QcG{E:Env}(hH:HeapOk E){b g:Nat}{x blk:Blk}{cs cs':Array Value}{el:TypeId}{w':World}(hx:E.H b=some x)(hr:E.ρ b=some g)(hsh:shape blk=shape x)(hw:Writes E g cs cs' el w'):Ext E (QdY E b blk w'):=by
 have hns:∀i,E.S i→i≠g:=fun i hi e=>(hH.blk b x hx).2.2 g hr (e ▸ hi)
 refine⟨fun i hi=>⟨hi,hw.oth i (hns i hi)⟩,fun _ h=>h,fun c y hc hy=>?_⟩;by_cases h:c=b
 ·subst h;simp only[QdY,if_true,Yc] at hy;subst hy;refine⟨x,hx,rfl,hsh,fun g' cs0 el0 hr' hc0=>?_⟩;rw[hr] at hr';injection hr' with hr';subst hr'
  rw[hw.was] at hc0;injection hc0 with hc0
  injection hc0 with e1 e2
  subst e1 e2;exact⟨cs',hw.is,hw.len⟩
 ·simp only[QdY,h,if_false] at hy;refine⟨y,hy,rfl,rfl,fun g' cs0 el0 hr' hc0=>⟨cs0,?_,rfl⟩⟩;have:g'≠g:=fun e=>h (hH.inj c b y x g hy hx (e ▸ hr') hr)
  exact(hw.oth g' this).trans hc0
theorem QjV{E:Env}(hH:HeapOk E){b g:Nat}{x blk:Blk}{cs cs':Array Value}{el:TypeId}{w':World}(hx:E.H b=some x)(hr:E.ρ b=some g)(hsh:shape blk=shape x)(hw:Writes E g cs cs' el w')(hb:Holds E blk cs'.toList):HeapOk (QdY E b blk w'):=by
 have hext:=QcG hH hx hr hsh hw
 have hlive:∀c y,(QdY E b blk w').H c=some y→∃y0,E.H c=some y0:=by
  intro c y hy;by_cases h:c=b
  ·exact⟨x,h ▸ hx⟩
  ·exact⟨y,by simpa[QdY,h] using hy⟩
 refine⟨fun c y hy=>?_,fun c c' y y' i hy hy' hr1 hr2=>?_,fun i hi=>?_⟩
 ·by_cases h:c=b
  ·subst h;simp only[QdY,if_true,Yc] at hy;subst hy;obtain⟨h1,h2,h3⟩:=hH.blk c x hx;refine⟨h1,?_,h3⟩;cases blk with
   |arr t l =>
    obtain⟨us,spare,e1,e2⟩:=hb;exact .inr ⟨g,cs',el,us,spare,hr,hw.is,e1,e2.mono fun _ _ hx=>hx.mono hext.S⟩
   |var is=>exact⟨g,cs',el,hr,hw.is,hb.ext hext⟩
   |mp ka kt vt l=>exact hb.elim
  ·simp only[QdY,h,if_false] at hy;obtain⟨h1,h2,h3⟩:=hH.blk c y hy;exact⟨h1,h2.ext hext rfl (fun g' hg'=>hw.oth g' fun e=>h (hH.inj c b y x g hy hx (e ▸ hg') hr)),h3⟩
 ·obtain⟨y0,h0⟩:=hlive c y hy;obtain⟨y1,h1⟩:=hlive c' y' hy';exact hH.inj c c' y0 y1 i h0 h1 hr1 hr2
 ·rw[show(QdY E b blk w').w=w' from rfl,hw.size];exact hH.st i hi
theorem QjW{E:Env}(hH:HeapOk E){b g:Nat}{x blk:Blk}{cs cs':Array Value}{el:TypeId}{w':World}(hx:E.H b=some x)(hr:E.ρ b=some g)(hw:Writes E g cs cs' el w'){F:Frame}(h:FrameOk F E):FrameOk F (QdY E b blk w'):=by
 refine⟨hw.os.trans h.os,hw.tape.trans h.tape,hw.output.trans h.output,?_,fun i hi ho=>?_,fun c y i hy hr'=>?_,h.S⟩
 ·rw[show(QdY E b blk w').w=w' from rfl,hw.size];exact h.size
 ·have:i≠g:=by
   rintro rfl
   rcases h.own b x i hx hr with e|e
   ·omega
   ·exact ho e
  exact(hw.oth i this).trans (h.old i hi ho)
 ·by_cases hc:c=b
  ·subst hc;exact h.own c x i hx hr'
  ·exact h.own c y i (by simpa[QdY,hc] using hy) hr'
theorem Step.setK{E:Env}{r:Res}{nm:Nat}{us:List Nat}{b g:Nat}{x blk:Blk}{w':World}{cs cs':Array Value}{el:TypeId}(hH:HeapOk E)(hr1:r.add=[])(hr2:r.set=(us.map fun u=>(u,none))++[(b,some blk)])
 (hbu:b∉us) (hx:E.H b=some x) (hr:E.ρ b=some g) (hsh:shape blk=shape x) (hw:Writes E g cs cs' el w') (hb:Holds (QO E us) blk cs'.toList):Step E r nm (QdY (QO E us) b blk w'):=by
 have hk:=Qfp hH us;have hx':(QO E us).H b=some x:=by simp[QO,hbu,hx]
 have hw':Writes (QO E us) g cs cs' el w':=⟨hw.was,hw.is,hw.len,hw.oth,hw.size,hw.os,hw.tape,hw.output⟩
 refine⟨(Qae us).trans (QcG hk hx' hr hsh hw'),QjV hk hx' hr hsh hw' hb,fun c=>?_,fun c=>?_,fun F hF=>QjW hk hx' hr hw' (Qfq us hF)⟩
 ·rw[hr1,hr2,Qm9];simp only[addF,QdY,QO,Qgf,Qfo]
 ·rw[hr1];simp[QdY,QO];omega
def Qhv(E:Env)(b nm:Nat)(blk:Blk)(w':World):Env :=
 { w:=w',ρ:=fun x=>if x=nm then E.ρ b else E.ρ x,S:=E.S,H:=fun x=>if x=nm then some blk else if x=b then none else E.H x,U:=fun x=>E.U x∨x=nm }
theorem Step.app{E:Env}{r:Res}{nm b g:Nat}{x blk:Blk}{w':World}{cs cs':Array Value}{el:TypeId}(hH:HeapOk E)(hr1:r.add=[blk])(hr2:r.set=[(b,none)])(hnm:¬E.U nm)
 (hx:E.H b=some x) (hr:E.ρ b=some g) (hw:Writes E g cs cs' el w') (hb:∃t l us spare,blk=.arr t l∧cs'.toList=us++spare∧Qw (CR E.w E.S t) l us):Step E r nm (Qhv E b nm blk w'):=by
 have hbn:b≠nm:=fun e=>hnm (e ▸ (hH.blk b x hx).1)
 have hns:∀i,E.S i→i≠g:=fun i hi e=>(hH.blk b x hx).2.2 g hr (e ▸ hi)
 have hS:∀i,E.S i→E.S i∧w'.heap[i]?=E.w.heap[i]?:=fun i hi=>⟨hi,hw.oth i (hns i hi)⟩
 have hold:∀c y,c≠nm→(Qhv E b nm blk w').H c=some y→c≠b∧E.H c=some y:=by
  intro c y hc hy;by_cases h:c=b
  ·subst h;simp[Qhv,hc] at hy
  ·exact⟨h,by simpa[Qhv,h,hc] using hy⟩
 have hext:Ext E (Qhv E b nm blk w'):=by
  refine⟨hS,fun _ h=>.inl h,fun c y hc hy=>?_⟩;have hcn:c≠nm:=fun e=>hnm (e ▸ hc)
  obtain⟨hcb,hy⟩:=hold c y hcn hy;refine⟨y,hy,by simp[Qhv,hcn],rfl,fun g' cs0 el0 hr' hc0=>⟨cs0,?_,rfl⟩⟩;exact(hw.oth g' fun e=>hcb (hH.inj c b y x g hy hx (e ▸ hr') hr)).trans hc0
 refine⟨hext,⟨fun c y hy=>?_,fun c c' y y' i hy hy' h1 h2=>?_,fun i hi=>?_⟩,fun c=>?_,fun c=>?_,fun F h=>⟨hw.os.trans h.os,hw.tape.trans h.tape,hw.output.trans h.output,?_,fun i hi ho=>?_,fun c y i hy hr'=>?_,h.S⟩⟩
 ·by_cases hc:c=nm
  ·subst hc;simp only[Qhv,if_true,Yc] at hy;subst hy;obtain⟨t,l,us,spare,rfl,e1,e2⟩:=hb;refine⟨.inr rfl,.inr ⟨g,cs',el,us,spare,by simp[Qhv,hr],hw.is,e1,e2.mono fun _ _ hx=>hx.mono hS⟩,fun i hi=>?_⟩;have:E.ρ b=some i:=by simpa[Qhv] using hi
   exact(hH.blk b x hx).2.2 i this
  ·obtain⟨hcb,hy⟩:=hold c y hc hy;obtain⟨h1,h2,h3⟩:=hH.blk c y hy;exact⟨.inl h1,h2.ext hext (by simp[Qhv,hc]) (fun g' hg'=>hw.oth g' fun e=>hcb (hH.inj c b y x g hy hx (e ▸ hg') hr)),fun i hi=>h3 i (by simpa[Qhv,hc] using hi)⟩
 ·by_cases hc:c=nm<;>by_cases hc':c'=nm
  ·rw[hc,hc']
  ·obtain⟨hcb,hy'⟩:=hold c' y' hc' hy';simp only[Qhv,hc,hc',if_true,if_false] at h1 h2;exact YD (hH.inj c' b y' x i hy' hx h2 h1) hcb
  ·obtain⟨hcb,hy⟩:=hold c y hc hy;simp only[Qhv,hc,hc',if_true,if_false] at h1 h2;exact YD (hH.inj c b y x i hy hx h1 h2) hcb
  ·obtain⟨_,hy⟩:=hold c y hc hy;obtain⟨_,hy'⟩:=hold c' y' hc' hy';simp only[Qhv,hc,hc',if_false] at h1 h2;exact hH.inj c c' y y' i hy hy' h1 h2
 ·rw[show(Qhv E b nm blk w').w=w' from rfl,hw.size];exact hH.st i hi
 ·rw[hr1,hr2];simp only[addF,Qgf,Qhv]
 ·rw[hr1];simp only[Qhv,Jj];constructor
  ·rintro (h|h)
   ·exact .inl h
   ·exact .inr (by omega)
  ·rintro (h|h)
   ·exact .inl h
   ·exact .inr (by omega)
 ·rw[show(Qhv E b nm blk w').w=w' from rfl,hw.size];exact h.size
 ·have:i≠g:=by
   rintro rfl
   rcases h.own b x i hx hr with e|e
   ·omega
   ·exact ho e
  exact(hw.oth i this).trans (h.old i hi ho)
 ·by_cases hc:c=nm
  ·subst hc;exact h.own b x i hx (by simpa[Qhv] using hr')
  ·obtain⟨_,hy⟩:=hold c y hc hy;exact h.own c y i hy (by simpa[Qhv,hc] using hr')
end Go.Fw

